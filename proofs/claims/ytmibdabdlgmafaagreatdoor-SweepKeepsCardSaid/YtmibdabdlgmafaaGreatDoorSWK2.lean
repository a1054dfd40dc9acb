/- Part. -/
import Derived.Test.YtmibdabdlgmafaaGreatDoorSWK1
import Derived.Test.YtmibdabdlgmafaaGreatDoorProg
import Derived.KernelRfl
import Derived.Lib.Bytealg
import Derived.Test.YtmibdabdlgmafaaGreatDoorRows
import Derived.ProofKit
import Derived.LaidMore
import Derived.OpenShut
import Derived.MakeChecks
import Derived.LaidHandle
import Derived.LaidLaws
import Derived.Lib.BytesEntry
import Derived.Sort.Grow
import Derived.Shelf.SlSortCmp.NoneTotal
import Derived.Ground.SlsfProg
import Derived.Recover
import Derived.WideKeyEntry
import Derived.Lib.IndexAny
set_option linter.all false
section
namespace Go.Hx
open Go.Eng
def kU(n:Nat)(x:UInt32):UInt32:=.ofNat (x.toNat/2 ^ n+x.toNat % 2 ^ n*2 ^ (32-n))
theorem mX{n:Nat}(hn:n≤32)(x:UInt32):(kU n x).toNat=x.toNat/2 ^ n+x.toNat % 2 ^ n*2 ^ (32-n):=by
 rw[kU,UInt32.toNat_ofNat',Nat.mod_eq_of_lt]
 have h1:=x.toNat_lt
 have h2:2 ^ n*2 ^ (32-n)=2 ^ 32:=by rw[←Nat.pow_add];congr 1;omega
 have h3:x.toNat % 2 ^ n<2 ^ n:=Nat.mod_lt _ (Nat.two_pow_pos n)
 have h4:x.toNat/2 ^ n<2 ^ (32-n):=Nat.div_lt_of_lt_mul (by omega)
 have h5:x.toNat % 2 ^ n*2 ^ (32-n)≤(2 ^ n-1)*2 ^ (32-n):=Nat.mul_le_mul_right _ (by omega)
 have h6:(2 ^ n-1)*2 ^ (32-n)+2 ^ (32-n)=2 ^ 32:=by
  rw[←h2,Nat.sub_mul,Nat.one_mul]
  have:=Nat.le_mul_of_pos_left (2 ^ (32-n)) (Nat.two_pow_pos n)
  omega
 omega
def s9(x:UInt32):UInt32:=x/2+x % 2*2147483648
theorem xY(x:UInt32):(s9 x).toNat=x.toNat/2+x.toNat % 2*2147483648:=by
 have h1:=x.toNat_lt
 rw[s9,UInt32.toNat_add,UInt32.toNat_mul,UInt32.toNat_div,UInt32.toNat_mod]
 show(x.toNat/2+x.toNat % 2*2147483648 % 4294967296) % 4294967296=_
 have:x.toNat % 2<2:=Nat.mod_lt _ (by decide)
 omega
theorem yb(x:UInt32):kU 0 x=x:=by
 apply UInt32.toNat_inj.1
 rw[mX (by decide)]
 simp[Nat.mod_one]
theorem xo{n:Nat}(hn:n<32)(x:UInt32):kU (n+1) x=s9 (kU n x):=by
 apply UInt32.toNat_inj.1
 rw[xY,mX (by omega),mX (by omega)]
 obtain⟨k,hk⟩:∃k,32-n=k+1:=⟨31-n,by omega⟩
 have hk2:32-(n+1)=k:=by omega
 rw[hk,hk2,Nat.pow_succ 2 k,Nat.pow_succ 2 n]
 have hq:x.toNat/(2 ^ n*2)=x.toNat/2 ^ n/2:=(Nat.div_div_eq_div_mul ..).symm
 have hm:x.toNat % (2 ^ n*2)=x.toNat % 2 ^ n+2 ^ n*(x.toNat/2 ^ n % 2):=Nat.mod_mul ..
 rw[hq,hm]
 generalize x.toNat/2 ^ n=q
 generalize x.toNat % 2 ^ n=m
 have h31:2 ^ n*2 ^ k=2147483648:=by rw[←Nat.pow_add,show n+k=31 by omega]
 have e1:(q+m*(2 ^ k*2))/2=q/2+m*2 ^ k:=by
  rw[show m*(2 ^ k*2)=(m*2 ^ k)*2 by rw[Nat.mul_assoc]];omega
 have e2:(q+m*(2 ^ k*2)) % 2=q % 2:=by
  rw[show m*(2 ^ k*2)=(m*2 ^ k)*2 by rw[Nat.mul_assoc]];omega
 rw[e1,e2,Nat.add_mul,Nat.mul_right_comm (2 ^ n),h31]
 omega
theorem BI{n:Nat}(h0:0<n)(hn:n<32)(x:UInt32):UInt32.ofNat (x.toNat*2 ^ (32-n)) ||| UInt32.ofNat (x.toNat/2 ^ n)=kU n x:=by
 apply UInt32.toNat_inj.1
 have h1:=x.toNat_lt
 rw[mX (by omega),UInt32.toNat_or,UInt32.toNat_ofNat',UInt32.toNat_ofNat']
 have h2:2 ^ n*2 ^ (32-n)=2 ^ 32:=by rw[←Nat.pow_add];congr 1;omega
 have h4:x.toNat/2 ^ n<2 ^ (32-n):=Nat.div_lt_of_lt_mul (by omega)
 have h5:x.toNat/2 ^ n≤x.toNat:=Nat.div_le_self ..
 rw[Nat.mod_eq_of_lt (a:=x.toNat/2 ^ n) (by omega)]
 have h6:x.toNat*2 ^ (32-n) % 2 ^ 32=2 ^ (32-n)*(x.toNat % 2 ^ n):=by
  rw[←h2,Nat.mul_mod_mul_right,Nat.mul_comm]
 rw[h6,←Nat.two_pow_add_eq_or_of_lt h4,Nat.mul_comm,Nat.add_comm]
def fL:List UInt32:=[1116352408,1899447441,3049323471,3921009573,961987163,1508970993,2453635748,2870763221,3624381080,310598401,607225278,1426881987,1925078388,2162078206,2614888103,3248222580,3835390401,4022224774,264347078,604807628,770255983,1249150122,1555081692,1996064986,2554220882,2821834349,2952996808,3210313671,3336571891,3584528711,113926993,338241895,666307205,773529912,1294757372,1396182291,1695183700,1986661051,2177026350,2456956037,2730485921,2820302411,3259730800,3345764771,3516065817,3600352804,4094571909,275423344,430227734,506948616,659060556,883997877,958139571,1322822218,1537002063,1747873779,1955562222,2024104815,2227730452,2361852424,2428436474,2756734187,3204031479,3329325298]
def mw:List UInt32:=[1779033703,3144134277,1013904242,2773480762,1359893119,2600822924,528734635,1541459225]
def turns(a b c:Nat)(x:UInt32):UInt32:=kU a x ^^^ kU b x ^^^ kU c x
def at8(b:List UInt8)(i:Nat):Nat:=(b.getD i 0).toNat
def kY(b:List UInt8)(i:Nat):UInt32:=.ofNat (at8 b i*16777216+at8 b (i+1)*65536+at8 b (i+2)*256+at8 b (i+3))
def wp(b:List UInt8)(i:Nat):Nat→Nat
 |0=>0
 |j+1=>wp b i j*256+at8 b (i+j)
theorem n4(b:List UInt8)(i:Nat):at8 b i<256:=(b.getD i 0).toNat_lt
theorem Ds(b:List UInt8)(i:Nat):∀j,wp b i j<256 ^ j
 |0=>Nat.one_pos
 |j+1=>by
  have h1:=Ds b i j
  have h2:=n4 b (i+j)
  rw[wp,Nat.pow_succ]
  omega
theorem Bw{b:List UInt8}{i j:Nat}(hj:j<4):(UInt32.ofNat (wp b i j)*256) ||| (b.getD (i+j) 0).toUInt32=UInt32.ofNat (wp b i (j+1)):=by
 apply UInt32.toNat_inj.1
 have h1:=Ds b i j
 have h0:256 ^ j≤256 ^ 3:=Nat.pow_le_pow_right (by decide) (by omega)
 have h2:=n4 b (i+j)
 have h3:wp b i j<16777216:=Nat.lt_of_lt_of_le h1 h0
 rw[UInt32.toNat_or,UInt32.toNat_mul,UInt32.toNat_ofNat',UInt8.toNat_toUInt32,UInt32.toNat_ofNat',wp]
 show(wp b i j % 4294967296*256 % 4294967296 ||| at8 b (i+j))=_
 rw[Nat.mod_eq_of_lt (a:=wp b i j) (by omega),Nat.mod_eq_of_lt (a:=wp b i j*256) (by omega),Nat.mod_eq_of_lt (a:=wp b i j*256+_) (by omega),show wp b i j*256=2 ^ 8*wp b i j by omega,Nat.two_pow_add_eq_or_of_lt (i:=8) h2]
theorem Ey(b:List UInt8)(i:Nat):wp b i 4=at8 b i*16777216+at8 b (i+1)*65536+at8 b (i+2)*256+at8 b (i+3):=by
 have e1:wp b i 1=wp b i 0*256+at8 b (i+0):=rfl
 have e2:wp b i 2=wp b i 1*256+at8 b (i+1):=rfl
 have e3:wp b i 3=wp b i 2*256+at8 b (i+2):=rfl
 have e4:wp b i 4=wp b i 3*256+at8 b (i+3):=rfl
 have e0:wp b i 0=0:=rfl
 rw[Nat.add_zero]at e1
 rw[e4,e3,e2,e1,e0]
 generalize at8 b i=p
 generalize at8 b (i+1)=q
 generalize at8 b (i+2)=r
 generalize at8 b (i+3)=s
 omega
theorem BF(b:List UInt8)(i:Nat):UInt32.ofNat (wp b i 4)=kY b i:=congrArg UInt32.ofNat (Ey b i)
theorem xm(b:List UInt8)(i:Nat):(b.getD i 0).toUInt32*16777216+(b.getD (i+1) 0).toUInt32*65536+(b.getD (i+2) 0).toUInt32*256+(b.getD (i+3) 0).toUInt32=kY b i:=by
 apply UInt32.toNat_inj.1
 have h0:(b.getD i 0).toNat<256:=n4 b i
 have h1:(b.getD (i+1) 0).toNat<256:=n4 b (i+1)
 have h2:(b.getD (i+2) 0).toNat<256:=n4 b (i+2)
 have h3:(b.getD (i+3) 0).toNat<256:=n4 b (i+3)
 have k1:(16777216:UInt32).toNat=16777216:=rfl
 have k2:(65536:UInt32).toNat=65536:=rfl
 have k3:(256:UInt32).toNat=256:=rfl
 simp only[kY,at8,UInt32.toNat_add,UInt32.toNat_mul,UInt8.toNat_toUInt32,UInt32.toNat_ofNat',k1,k2,k3]
 generalize(b.getD i 0).toNat=p at*
 generalize(b.getD (i+1) 0).toNat=q at*
 generalize(b.getD (i+2) 0).toNat=r at*
 generalize(b.getD (i+3) 0).toNat=s at*
 omega
def G7(x:UInt32):UInt32:=kU 7 x ^^^ kU 18 x ^^^ (x/8)
def Gf(x:UInt32):UInt32:=kU 17 x ^^^ kU 19 x ^^^ (x/1024)
def mQ(w:List UInt32)(i:Nat):UInt32:=w.getD (i-16) 0+G7 (w.getD (i-15) 0)+w.getD (i-7) 0+Gf (w.getD (i-2) 0)
def wl(b:List UInt8):Nat→List UInt32
 |0=>[]
 |i+1=>wl b i++[if i<16 then kY b (4*i)else mQ (wl b i) i]
theorem fw(b:List UInt8):∀i,(wl b i).length=i
 |0=>rfl
 |i+1=>by rw[wl,List.length_append,fw b i];rfl
def v_(v:List UInt32)(i:Nat):UInt32:=v.getD i 0
def rt(v:List UInt32)(k w:UInt32):UInt32:=v_ v 7+turns 6 11 25 (v_ v 4)+((v_ v 4 &&& v_ v 5) ^^^ (~~~(v_ v 4) &&& v_ v 6))+k+w
def ru(v:List UInt32):UInt32:=turns 2 13 22 (v_ v 0)+((v_ v 0 &&& v_ v 1) ^^^ (v_ v 0 &&& v_ v 2) ^^^ (v_ v 1 &&& v_ v 2))
def GS(v:List UInt32)(k w:UInt32):List UInt32:=[rt v k w+ru v,v_ v 0,v_ v 1,v_ v 2,v_ v 3+rt v k w,v_ v 4,v_ v 5,v_ v 6]
def k4(w v:List UInt32):Nat→List UInt32
 |0=>v
 |i+1=>GS (k4 w v i) (fL.getD i 0) (w.getD i 0)
theorem kD{w v:List UInt32}(h:v.length=8):∀i,(k4 w v i).length=8
 |0=>h
 |i+1=>rfl
def fQ(v h:List UInt32)(i:Nat):List UInt32:=(List.range v.length).map fun j=>if j<i then v_ v j+v_ h j else v_ v j
def ew(h:List UInt32)(b:List UInt8):List UInt32:=fQ (k4 (wl b 64) h 64) h 8
theorem jg{h:List UInt32}(hl:h.length=8)(b:List UInt8):(ew h b).length=8:=by simp[ew,fQ,kD hl]
theorem qX{v h:List UInt32}:fQ v h 0=v:=by
 apply List.ext_getElem?
 intro i
 simp only[fQ,Nat.not_lt_zero,if_false,List.getElem?_map]
 by_cases hi:i<v.length
 ·simp[hi,v_,List.getD]
 ·rw[List.getElem?_eq_none (by simpa using hi),List.getElem?_eq_none (by omega)];rfl
theorem qI{v h:List UInt32}{i:Nat}(hi:i<v.length):fQ v h (i+1)=(fQ v h i).set i (v_ (fQ v h i) i+v_ h i):=by
 apply List.ext_getElem?
 intro j
 have e:v_ (fQ v h i) i=v_ v i:=by simp[fQ,v_,List.getD,hi]
 rw[e]
 by_cases hj:j<v.length
 ·by_cases hij:i=j
  ·subst hij
   simp[fQ,hi]
  ·rw[List.getElem?_set_ne hij]
   simp only[fQ,List.getElem?_map,List.getElem?_range hj,Option.map_some]
   congr 1
   by_cases h1:j<i
   ·rw[if_pos h1,if_pos (by omega)]
   ·rw[if_neg h1,if_neg (by omega)]
 ·rw[List.getElem?_eq_none (by simp[fQ];omega),List.getElem?_eq_none (by simp[fQ];omega)]
def od:Nat→List UInt32→List UInt8→List UInt32
 |0,h,_=>h
 |n+1,h,l=>od n (ew h (l.take 64)) (l.drop 64)
def fB(h:List UInt32)(l:List UInt8):List UInt32:=od (l.length/64) h l
theorem pA:∀(n:Nat) (h:List UInt32) (l b:List UInt8),l.length=64*n→b.length=64→od (n+1) h (l++b)=ew (od n h l) b
 |0,h,l,b,hl,hb=>by
  obtain rfl:=List.eq_nil_of_length_eq_zero hl
  simp only[od,List.nil_append]
  rw[List.take_of_length_le (by omega)]
 |n+1,h,l,b,hl,hb=>by
  have h1:(l++b).take 64=l.take 64:=by rw[List.take_append_of_le_length (by omega)]
  have h2:(l++b).drop 64=l.drop 64++b:=by rw[List.drop_append_of_le_length (by omega)]
  rw[od,h1,h2,pA n _ (l.drop 64) b (by rw[List.length_drop];omega) hb]
  rfl
theorem qn{h:List UInt32}{l b:List UInt8}(hl:l.length % 64=0)(hb:b.length=64):fB h (l++b)=ew (fB h l) b:=by
 unfold fB
 rw[List.length_append,hb,show(l.length+64)/64=l.length/64+1 by omega]
 exact pA _ h l b (by omega) hb
theorem mP:∀(n:Nat) (h:List UInt32) (l:List UInt8),h.length=8→(od n h l).length=8
 |0,h,l,hl=>hl
 |n+1,h,l,hl=>mP n _ _ (jg hl _)
theorem mU{h:List UInt32}(l:List UInt8)(hl:h.length=8):(fB h l).length=8:=mP _ _ _ hl
def Be(x:UInt32):List UInt8:=[.ofNat (x/16777216).toNat,.ofNat (x/65536).toNat,.ofNat (x/256).toNat,.ofNat x.toNat]
def eO(h:List UInt32):List UInt8:=h.flatMap Be
def sT(n:Nat):List UInt8:=(List.range 8).map fun i=>.ofNat (n/256 ^ (7-i))
def ix(n:Nat):Nat:=(119-n % 64) % 64
def jd(b:List UInt8):List UInt8:=b++(128::List.replicate (ix b.length) 0)++sT (8*b.length)
theorem oH(b:List UInt8):(jd b).length % 64=0:=by
 simp only[jd,List.length_append,List.length_cons,List.length_replicate,sT,List.length_map,List.length_range,ix]
 omega
def bc(b:List UInt8):List UInt8:=eO (fB mw (jd b))
theorem mJ{h:List UInt32}(hl:h.length=8):(eO h).length=32:=by
 match h,hl with
 | [a,b,c,d,e,f,g,i],_=>rfl
theorem bk(b:List UInt8):(bc b).length=32:=mJ (mU _ rfl)
end Go.Hx
end
section
namespace Go.Proofs.YtmibdabdlgmafaaGreatDoor
open Go.Eng
theorem fS:dg Tryz.prog 3=some false:=by kernel_rfl
theorem sS:fm Tryz.prog 3=some 1:=by kernel_rfl
theorem DI:TI Tryz.prog 3 (.int .i64 0) 1 8:=by unfold TI;kernel_rfl
theorem HG:dg Tryz.prog 4=some false:=by kernel_rfl
theorem GZ:fm Tryz.prog 4=some 1:=by kernel_rfl
theorem jL:dg Tryz.prog 5=some false:=by kernel_rfl
theorem ek:fm Tryz.prog 5=some 1:=by kernel_rfl
theorem fb:TI Tryz.prog 5 (.int .u8 0) 1 1:=by unfold TI;kernel_rfl
theorem l0:dg Tryz.prog 9=some false:=by kernel_rfl
theorem Hp:fm Tryz.prog 9=some 1:=by kernel_rfl
theorem GV:TI Tryz.prog 9 (.string ⟨#[]⟩) 1 16:=by unfold TI;kernel_rfl
theorem ea:dg Tryz.prog 27=some false:=by kernel_rfl
theorem oO:fm Tryz.prog 27=some 1:=by kernel_rfl
theorem ui:TI Tryz.prog 27 (.slice none 0 0) 1 24:=by unfold TI;kernel_rfl
theorem E1:dg Tryz.prog 28=some false:=by kernel_rfl
theorem Hl:fm Tryz.prog 28=some 1:=by kernel_rfl
theorem kq:dg Tryz.prog 35=some false:=by kernel_rfl
theorem tJ:dg Tryz.prog 36=some false:=by kernel_rfl
theorem FO:fm Tryz.prog 36=some 1:=by kernel_rfl
theorem Hd:dg Tryz.prog 37=some false:=by kernel_rfl
theorem Fx:fm Tryz.prog 37=some 1:=by kernel_rfl
theorem cL:dg Tryz.prog 39=some true:=by kernel_rfl
theorem bB:fm Tryz.prog 39=some 5:=by kernel_rfl
theorem jh:TI Tryz.prog 39 (.agg (([.int .i64 0])++([.slice none 0 0])++([.slice none 0 0])++([.slice none 0 0])++([.int .i64 0]):List Value).toArray) 5 88:=by unfold TI;kernel_rfl
theorem AB:ju Tryz.prog 39 0=some (0,1,3):=by kernel_rfl
theorem j1:ju Tryz.prog 39 1=some (1,1,36):=by kernel_rfl
theorem Ef:ju Tryz.prog 39 2=some (2,1,36):=by kernel_rfl
theorem vg:ju Tryz.prog 39 3=some (3,1,37):=by kernel_rfl
theorem jO:ju Tryz.prog 39 4=some (4,1,3):=by kernel_rfl
theorem Ep:TI Tryz.prog 44 (.slice none 0 0) 1 24:=by unfold TI;kernel_rfl
theorem lK:dg Tryz.prog 47=some false:=by kernel_rfl
theorem xD:fm Tryz.prog 47=some 1:=by kernel_rfl
theorem GY:TI Tryz.prog 47 (.int .i64 0) 1 8:=by unfold TI;kernel_rfl
theorem cx:dg Tryz.prog 53=some true:=by kernel_rfl
theorem bo:fm Tryz.prog 53=some 32:=by kernel_rfl
theorem dT:TI Tryz.prog 53 (.agg (aR (List.replicate 32 0):List Value).toArray) 32 32:=by unfold TI;kernel_rfl
theorem vI{l:List UInt8}(h:l.length=32):Tryz.prog.keyLits 2 53 (aR l)=some (l.map fun b=>Lit.int .u8 (b.toNat:Int)):=fp (D:=0) Tryz.underlying53 Tryz.underlying5 (by kernel_rfl) (by kernel_rfl) h
theorem vF{N:Nat}{D:List Deferred}{ρ:Env}{w:World}{ty t' :TypeId}{x y:Operand}{l m:List UInt8}(hx:ev ρ x=some (.agg (aR l).toArray))(hy:ev ρ y=some (.agg (aR m).toArray))(hl:l.length=32)(hm:m.length=32):Yl Tryz.prog N D ρ w (.binOp .eql 53 x y t') ty (.bool (decide (l=m))):=
 FA (m:=5) hx hy (by decide) (by kernel_rfl) (by kernel_rfl) cx (by rw[ay,hl];kernel_rfl) (by rw[ay,hm];kernel_rfl) (vI hl) (vI hm) iM
theorem o3{N:Nat}{D:List Deferred}{ρ:Env}{w:World}{ty t' :TypeId}{x y:Operand}{l m:List UInt8}(hx:ev ρ x=some (.agg (aR l).toArray))(hy:ev ρ y=some (.agg (aR m).toArray))(hl:l.length=32)(hm:m.length=32):Yl Tryz.prog N D ρ w (.binOp .neq 53 x y t') ty (.bool (decide (¬l=m))):=
 Gi (m:=5) hx hy (by decide) (by kernel_rfl) (by kernel_rfl) cx (by rw[ay,hl];kernel_rfl) (by rw[ay,hm];kernel_rfl) (vI hl) (vI hm) iM
theorem G9:dg Tryz.prog 75=some true:=by kernel_rfl
theorem G5:fm Tryz.prog 75=some 3:=by kernel_rfl
theorem GM:TI Tryz.prog 75 (.agg (([.int .i64 0])++([.int .i64 0])++([.int .i64 0]):List Value).toArray) 3 24:=by unfold TI;kernel_rfl
theorem uO:dg Tryz.prog 80=some false:=by kernel_rfl
theorem Hj:fm Tryz.prog 80=some 1:=by kernel_rfl
theorem yo:dg Tryz.prog 82=some true:=by kernel_rfl
theorem qB:fm Tryz.prog 82=some 36:=by kernel_rfl
theorem CM:TI Tryz.prog 82 (.agg ((([.int .i64 0])++([.int .i64 0])++([.int .i64 0]))++(aR (List.replicate 32 0))++([.slice none 0 0]):List Value).toArray) 36 80:=by unfold TI;kernel_rfl
theorem E8:ju Tryz.prog 82 0=some (0,3,75):=by kernel_rfl
theorem Dy:oW Tryz.prog 82 0=some (0,3):=by kernel_rfl
theorem DF:ju Tryz.prog 82 1=some (3,32,53):=by kernel_rfl
theorem l8:ju Tryz.prog 82 2=some (35,1,80):=by kernel_rfl
theorem FQ:dg Tryz.prog 88=some true:=by kernel_rfl
theorem Ah:fm Tryz.prog 88=some 36:=by kernel_rfl
theorem yf:TI Tryz.prog 88 (.agg ((([.int .i64 0])++([.int .i64 0])++([.int .i64 0]))++(aR (List.replicate 32 0))++([.slice none 0 0]):List Value).toArray) 36 80:=by unfold TI;kernel_rfl
theorem EF:oW Tryz.prog 88 0=some (0,3):=by kernel_rfl
theorem DT:oW Tryz.prog 88 1=some (3,32):=by kernel_rfl
theorem DG:ju Tryz.prog 88 2=some (35,1,80):=by kernel_rfl
theorem Fg:oW Tryz.prog 88 2=some (35,1):=by kernel_rfl
theorem F1:dg Tryz.prog 100=some true:=by kernel_rfl
theorem ub:fm Tryz.prog 100=some 33:=by kernel_rfl
theorem wI:TI Tryz.prog 100 (.agg ((aR (List.replicate 32 0))++([.int .i64 0]):List Value).toArray) 33 40:=by unfold TI;kernel_rfl
theorem rW:ju Tryz.prog 100 0=some (0,32,53):=by kernel_rfl
theorem Bo:oW Tryz.prog 100 0=some (0,32):=by kernel_rfl
theorem CP:oW Tryz.prog 100 1=some (32,1):=by kernel_rfl
theorem Gs:TI Tryz.prog 121 (.agg (([.pointer none])++(([.int .i64 0])++([.slice none 0 0])++([.slice none 0 0])++([.slice none 0 0])++([.int .i64 0])):List Value).toArray) 6 96:=by unfold TI;kernel_rfl
theorem eT:ju Tryz.prog 121 0=some (0,1,35):=by kernel_rfl
theorem Bv:oW Tryz.prog 121 0=some (0,1):=by kernel_rfl
theorem jX:ju Tryz.prog 121 1=some (1,5,39):=by kernel_rfl
theorem Br:oW Tryz.prog 121 1=some (1,5):=by kernel_rfl
theorem rp:dg Tryz.prog 156=some true:=by kernel_rfl
theorem fh:fm Tryz.prog 156=some 2:=by kernel_rfl
theorem iY:TI Tryz.prog 156 (.agg (([.string ⟨#[]⟩])++([.string ⟨#[]⟩]):List Value).toArray) 2 32:=by unfold TI;kernel_rfl
theorem fk:ju Tryz.prog 156 0=some (0,1,9):=by kernel_rfl
theorem oY:ju Tryz.prog 156 1=some (1,1,9):=by kernel_rfl
theorem bR:dg Tryz.prog 166=some false:=by kernel_rfl
theorem bJ:fm Tryz.prog 166=some 1:=by kernel_rfl
theorem oq:TI Tryz.prog 166 (.int .u32 0) 1 4:=by unfold TI;kernel_rfl
theorem iR:dg Tryz.prog 174=some false:=by kernel_rfl
theorem Dd:fm Tryz.prog 174=some 1:=by kernel_rfl
theorem vR:dg Tryz.prog 175=some false:=by kernel_rfl
theorem tZ:fm Tryz.prog 175=some 1:=by kernel_rfl
theorem FB:TI Tryz.prog 177 (.agg (([.int .i64 0])++([.map none])++([.map none])++([.slice none 0 0])++([.int .i64 0]):List Value).toArray) 5 56:=by unfold TI;kernel_rfl
theorem BN:ju Tryz.prog 177 0=some (0,1,3):=by kernel_rfl
theorem gv:ju Tryz.prog 177 1=some (1,1,174):=by kernel_rfl
theorem lB:ju Tryz.prog 177 2=some (2,1,174):=by kernel_rfl
theorem ib:ju Tryz.prog 177 3=some (3,1,175):=by kernel_rfl
theorem lJ:ju Tryz.prog 177 4=some (4,1,3):=by kernel_rfl
theorem C6:dg Tryz.prog 186=some true:=by kernel_rfl
theorem Dh:fm Tryz.prog 186=some 4:=by kernel_rfl
theorem qJ:TI Tryz.prog 186 (.agg (([.int .i64 0])++([.string ⟨#[]⟩])++([.string ⟨#[]⟩])++([.string ⟨#[]⟩]):List Value).toArray) 4 56:=by unfold TI;kernel_rfl
theorem wS:ju Tryz.prog 186 0=some (0,1,3):=by kernel_rfl
theorem oT:ju Tryz.prog 186 1=some (1,1,9):=by kernel_rfl
theorem BR:ju Tryz.prog 186 2=some (2,1,9):=by kernel_rfl
theorem Ca:ju Tryz.prog 186 3=some (3,1,9):=by kernel_rfl
theorem C9:dg Tryz.prog 189=some true:=by kernel_rfl
theorem zj:fm Tryz.prog 189=some 2:=by kernel_rfl
theorem Dm:TI Tryz.prog 189 (.agg (([.string ⟨#[]⟩])++([.slice none 0 0]):List Value).toArray) 2 40:=by unfold TI;kernel_rfl
theorem B1:ju Tryz.prog 189 0=some (0,1,9):=by kernel_rfl
theorem oS:ju Tryz.prog 189 1=some (1,1,27):=by kernel_rfl
theorem Gy:dg Tryz.prog 232=some false:=by kernel_rfl
theorem Fl:fm Tryz.prog 232=some 1:=by kernel_rfl
theorem rb:TI Tryz.prog 232 (.nilIface) 1 16:=by unfold TI;kernel_rfl
theorem FV:TI Tryz.prog 237 (.agg (([.string ⟨#[]⟩]):List Value).toArray) 1 16:=by unfold TI;kernel_rfl
theorem CJ:ju Tryz.prog 237 0=some (0,1,9):=by kernel_rfl
theorem F2:TI Tryz.prog 257 (.agg (([.string ⟨#[]⟩])++([.string ⟨#[]⟩]):List Value).toArray) 2 32:=by unfold TI;kernel_rfl
theorem rN:ju Tryz.prog 257 0=some (0,1,9):=by kernel_rfl
theorem Bx:ju Tryz.prog 257 1=some (1,1,9):=by kernel_rfl
theorem Dq:fm Tryz.prog 288=some 1:=by kernel_rfl
theorem v8:TI Tryz.prog 288 (.agg (([.int .i64 0]):List Value).toArray) 1 8:=by unfold TI;kernel_rfl
theorem CS:ju Tryz.prog 288 0=some (0,1,47):=by kernel_rfl
theorem ra:dg Tryz.prog 295=some true:=by kernel_rfl
theorem jB:fm Tryz.prog 295=some 3:=by kernel_rfl
theorem n9:TI Tryz.prog 295 (.agg (([.slice none 0 0])++([.int .i64 0])++([.int .i64 0]):List Value).toArray) 3 40:=by unfold TI;kernel_rfl
theorem C1:ju Tryz.prog 295 0=some (0,1,27):=by kernel_rfl
theorem Cs:ju Tryz.prog 295 2=some (2,1,47):=by kernel_rfl
theorem w8:dg Tryz.prog 298=some true:=by kernel_rfl
theorem lW:fm Tryz.prog 298=some 2:=by kernel_rfl
theorem rL:TI Tryz.prog 298 (.agg (([.int .i64 0])++([.int .i64 0]):List Value).toArray) 2 16:=by unfold TI;kernel_rfl
theorem lr:ju Tryz.prog 298 0=some (0,1,3):=by kernel_rfl
theorem wM:ju Tryz.prog 298 1=some (1,1,3):=by kernel_rfl
theorem qP:dg Tryz.prog 306=some true:=by kernel_rfl
theorem lP:fm Tryz.prog 306=some 8:=by kernel_rfl
theorem vP:TI Tryz.prog 306 (.agg ((List.replicate 8 ([.int .u32 0])).flatten:List Value).toArray) 8 32:=by unfold TI;kernel_rfl
theorem Dw:TI Tryz.prog 308 (.agg (((List.replicate 8 ([.int .u32 0])).flatten)++([.int .i64 0])++([.slice none 0 0]):List Value).toArray) 10 64:=by unfold TI;kernel_rfl
theorem o5:ju Tryz.prog 308 0=some (0,8,306):=by kernel_rfl
theorem mA:ju Tryz.prog 308 1=some (8,1,3):=by kernel_rfl
theorem jV:ju Tryz.prog 308 2=some (9,1,27):=by kernel_rfl
theorem oA:dg Tryz.prog 322=some false:=by kernel_rfl
theorem Dj:dg Tryz.prog 354=some true:=by kernel_rfl
theorem wH:fm Tryz.prog 354=some 64:=by kernel_rfl
theorem z8:TI Tryz.prog 354 (.agg ((List.replicate 64 ([.int .u32 0])).flatten:List Value).toArray) 64 256:=by unfold TI;kernel_rfl
theorem yN:dg Tryz.prog 357=some false:=by kernel_rfl
theorem Ge:TI Tryz.prog 359 (.agg (([.slice none 0 0])++([.map none])++([.int .i64 0]):List Value).toArray) 3 40:=by unfold TI;kernel_rfl
theorem kd:ju Tryz.prog 359 0=some (0,1,27):=by kernel_rfl
theorem sK:ju Tryz.prog 359 1=some (1,1,357):=by kernel_rfl
theorem gW:ju Tryz.prog 359 2=some (2,1,3):=by kernel_rfl
theorem v7:dg Tryz.prog 364=some true:=by kernel_rfl
theorem tY:fm Tryz.prog 364=some 4:=by kernel_rfl
theorem Gl:TI Tryz.prog 364 (.agg (aR (List.replicate 4 0):List Value).toArray) 4 4:=by unfold TI;kernel_rfl
end Go.Proofs.YtmibdabdlgmafaaGreatDoor
end
section
namespace Go.Hx
open Go.Eng
def nk(x:Nat):Nat:=if x % 2=1 then(x/2) ^^^ 2197175160 else x/2
theorem AF{x:Nat}(h:x<4294967296):nk x<4294967296:=by
 unfold nk
 split
 ·exact Nat.xor_lt_two_pow (n:=32) (by omega) (by decide)
 ·omega
def fX:Nat→Nat→Nat
 |0,x=>x
 |n+1,x=>nk (fX n x)
theorem lA{x:Nat}(h:x<4294967296):∀n,fX n x<4294967296
 |0=>h
 |n+1=>AF (lA h n)
def km(n:Nat)(l:List UInt8):Nat:=l.foldl (fun n b=>fX 8 (n ^^^ b.toNat)) n
theorem mL{n:Nat}(h:n<4294967296):∀l:List UInt8,km n l<4294967296:=by
 intro l
 induction l generalizing n with
 |nil=>exact h
 |cons a r ih=>exact ih (lA (Nat.xor_lt_two_pow (n:=32) h (by have:=a.toNat_lt;omega)) 8)
theorem qb(n:Nat)(l:List UInt8)(b:UInt8):km n (l++[b])=fX 8 (km n l ^^^ b.toNat):=by simp[km]
theorem s8{m:Nat}(h:m<4294967296):4294967295 ^^^ m=4294967295-m:=by
 have h1:(BitVec.allOnes 32 ^^^ BitVec.ofNat 32 m)= ~~~ BitVec.ofNat 32 m:=BitVec.allOnes_xor
 have h2:=congrArg BitVec.toNat h1
 rw[BitVec.toNat_xor,BitVec.toNat_not,BitVec.toNat_allOnes,BitVec.toNat_ofNat,Nat.mod_eq_of_lt h]at h2
 exact h2
def cQ(l:List UInt8):Nat:=4294967295-km 4294967295 l
theorem jt(l:List UInt8):cQ l<4294967296:=by unfold cQ;omega
def gy(n:Nat):List UInt8:=[UInt8.ofNat n,UInt8.ofNat (n/256),UInt8.ofNat (n/65536),UInt8.ofNat (n/16777216)]
def rR:Nat→Nat→Nat
 |0,n=>n
 |k+1,n=>rR k n/256
def EV(k n:Nat):List UInt8:=(List.range k).map fun i=>UInt8.ofNat (rR i n)
theorem za(k n:Nat):EV (k+1) n=EV k n++[UInt8.ofNat (rR k n)]:=by simp[EV,List.range_succ]
theorem zH(n:Nat):EV 4 n=gy n:=by
 simp only[EV,List.range_succ,List.range_zero,List.nil_append,List.cons_append,List.map_cons,List.map_nil,rR,gy,Nat.div_div_eq_div_mul]
theorem wo{n b:Nat}(h:n<b):∀k,rR k n<b
 |0=>h
 |k+1=>by have:=wo h k;simp only[rR];omega
theorem fl(n:Nat):(gy n).length=4:=rfl
def Am(l:List UInt8):List UInt8:=l++gy (cQ l)
theorem x7(x:Nat)(h:x<4294967296):(x/2) ^^^ (2197175160*(x % 2))=nk x:=by
 unfold nk
 split
 ·rename_i h1;rw[h1]
 ·rename_i h1
  have:x % 2=0:=by omega
  rw[this];simp
theorem gS(n:Nat):IntKind.u8.wrap (n:Int)=((UInt8.ofNat n).toNat:Int):=by
 simp[IntKind.wrap,IntKind.signed,IntKind.bits]
theorem Ho(x:Nat)(h:x<4294967296):bits .and .u32 (x:Int) 1=((x % 2:Nat):Int):=by
 have:=u32_and_nat x 1 h (by decide)
 rw[Nat.and_one_is_mod]at this
 exact this
theorem zw(x:Nat)(h:x<4294967296):bits .xor .u32 ((x:Int)/2) (2197175160*((x % 2:Nat):Int))=((nk x:Nat):Int):=by
 have h2:x % 2=0∨x % 2=1:=by omega
 have h3:2197175160*(x % 2)<4294967296:=by rcases h2 with h2|h2 <;> rw[h2] <;> decide
 have:=u32_xor_nat (x/2) (2197175160*(x % 2)) (by omega) h3
 rw[x7 x h]at this
 rw[←this]
 congr 1
theorem ue(x:Nat)(h:x<4294967296)(b:UInt8):bits .xor .u32 (x:Int) (b.toNat:Int)=((x ^^^ b.toNat:Nat):Int):=u32_xor_nat x b.toNat h (by have:=b.toNat_lt;omega)
theorem y6(x:Nat)(h:x<4294967296):bits .xor .u32 ((x:Int)/2) 2197175160=(((x/2) ^^^ 2197175160:Nat):Int):=u32_xor_nat (x/2) 2197175160 (by omega) (by decide)
theorem ow{x:Nat}(h:x<4294967296)(b:UInt8):x ^^^ b.toNat<4294967296:=Nat.xor_lt_two_pow (n:=32) h (by have:=b.toNat_lt;omega)
end Go.Hx
end
section
namespace Go.Hx
open Go.Eng
def ki:List UInt8:=[48,49,50,51,52,53,54,55,56,57,97,98,99,100,101,102]
def pk(b:UInt8):List UInt8:=[ki.getD (b.toNat/16) 0,ki.getD (b.toNat % 16) 0]
def b4(l:List UInt8):List UInt8:=l.flatMap pk
theorem dI(l:List UInt8):(b4 l).length=2*l.length:=by
 induction l with
 |nil=>rfl
 |cons a r ih=>simp only[b4,List.flatMap_cons,List.length_append,List.length_cons]at ih ⊢;rw[ih];simp[pk];omega
theorem tK(l m:List UInt8):b4 (l++m)=b4 l++b4 m:=by simp[b4]
theorem eU{l:List UInt8}{k:Nat}(h:k<l.length):l.take (k+1)=l.take k++[l.getD k 0]:=by
 rw[List.take_succ_eq_append_getElem h];simp[List.getD,List.getElem?_eq_getElem h]
theorem rn{l:List UInt8}{k:Nat}(h:k<l.length):b4 (l.take (k+1))=b4 (l.take k)++pk (l.getD k 0):=by
 rw[eU h,tK];simp[b4]
theorem uo(j:Nat)(h:j<16):((bytesOf ⟨#[48,49,50,51,52,53,54,55,56,57,97,98,99,100,101,102]⟩).take (j+1)).drop j=[ki.getD j 0]:=by
 revert j;decide
theorem yl{l:List UInt8}{k:Nat}(h:k<l.length):strOf (b4 (l.take k))++strOf (((bytesOf ⟨#[48,49,50,51,52,53,54,55,56,57,97,98,99,100,101,102]⟩).take ((l.getD k 0).toNat/16+1)).drop ((l.getD k 0).toNat/16))++
  strOf (((bytesOf ⟨#[48,49,50,51,52,53,54,55,56,57,97,98,99,100,101,102]⟩).take ((l.getD k 0).toNat % 16+1)).drop ((l.getD k 0).toNat % 16))=strOf (b4 (l.take (k+1))):=by
 have hb:=(l.getD k 0).toNat_lt
 rw[uo _ (by omega),uo _ (by omega),dp,dp,rn h]
 simp[pk]
theorem wx(i:Int)(h0:0≤i)(h:i<16):(#[48,49,50,51,52,53,54,55,56,57,97,98,99,100,101,102]:Array UInt8)[i.toNat]? =some (ki.getD i.toNat 0):=by
 have:i.toNat<16:=by omega
 generalize i.toNat=j at this
 revert j
 decide
theorem Cx(x:UInt8):(#[48,49,50,51,52,53,54,55,56,57,97,98,99,100,101,102]:Array UInt8)[((x.toNat:Int)/16).toNat]? =some (ki.getD (x.toNat/16) 0):=by
 have h:=x.toNat_lt
 rw[wx _ (by omega) (by omega)]
 rfl
theorem BV(x:UInt8):(#[48,49,50,51,52,53,54,55,56,57,97,98,99,100,101,102]:Array UInt8)[((x.toNat % 16:Nat):Int).toNat]? =some (ki.getD (x.toNat % 16) 0):=by
 rw[wx _ (by omega) (by omega)]
 rfl
theorem FT(x:UInt8):bits .and .u8 (x.toNat:Int) 15=((x.toNat % 16:Nat):Int):=by
 have:=u8_and_nat x.toNat 15 (by have:=x.toNat_lt;omega) (by decide)
 rw[show((15:Nat):Int)=15 from rfl]at this
 rw[this]
 congr 1
 exact Nat.and_two_pow_sub_one_eq_mod x.toNat 4
end Go.Hx
end
section
namespace Go.Hx
open Go.Eng
def ku(c:UInt8):Int:=if 48≤c.toNat∧c.toNat≤57 then(c.toNat:Int)-48 else if 97≤c.toNat∧c.toNat≤102 then(c.toNat:Int)-87 else-1
theorem lI(c:UInt8):-1≤ku c∧ku c≤15:=by unfold ku;split <;> (try split) <;> omega
def unhex:List UInt8→Option (List UInt8)
 | []=>some []
 | [_]=>none
 |a::b::r=>if ku a<0∨ku b<0 then none else(unhex r).map (UInt8.ofNat (16*(ku a).toNat+(ku b).toNat)::·)
theorem qf:∀(l:List UInt8) (n:Nat) (a b:UInt8) (x:List UInt8),l.length=2*n→unhex l=some x→unhex (l++[a,b])=if ku a<0∨ku b<0 then none else some (x++[UInt8.ofNat (16*(ku a).toNat+(ku b).toNat)])
 | [],n,a,b,x,_,h=>by
  simp only[unhex,Option.some.injEq]at h
  subst h
  simp[unhex]
 | [c],n,a,b,x,hl,h=>by simp at hl;omega
 |c::d::r,n,a,b,x,hl,h=>by
  simp only[unhex]at h
  simp only[List.cons_append,unhex]
  split at h
  ·cases h
  ·rename_i hcd
   rw[if_neg hcd]
   simp only[Option.map_eq_some_iff]at h
   obtain⟨y,hy,rfl⟩:=h
   rw[qf r (n-1) a b y (by simp at hl;omega) hy]
   split <;> simp
theorem iX:∀(l m:List UInt8) (n:Nat),l.length=2*n→unhex l=none→unhex (l++m)=none
 | [],m,n,_,h=>by simp[unhex]at h
 | [c],m,n,hl,h=>by simp at hl;omega
 |c::d::r,m,n,hl,h=>by
  simp only[unhex]at h
  simp only[List.cons_append,unhex]
  split at h
  ·rename_i hcd;rw[if_pos hcd]
  ·rename_i hcd
   rw[if_neg hcd]
   simp only[Option.map_eq_none_iff]at h
   rw[iX r m (n-1) (by simp at hl;omega) h]
   rfl
theorem qO:∀(l:List UInt8),l.length % 2=1→unhex l=none
 | [],h=>by simp at h
 | [_],_=>rfl
 |a::b::r,h=>by
  simp only[unhex]
  split
  ·rfl
  ·rw[qO r (by simp at h;omega)];rfl
theorem kh:∀(l x:List UInt8),unhex l=some x→l.length=2*x.length
 | [],x,h=>by simp[unhex]at h;subst h;rfl
 | [_],x,h=>by simp[unhex]at h
 |a::b::r,x,h=>by
  simp only[unhex]at h
  split at h
  ·cases h
  ·simp only[Option.map_eq_some_iff]at h
   obtain⟨y,hy,rfl⟩:=h
   have:=kh r y hy
   simp;omega
theorem ta(k:Nat)(h:k<16):ku (ki.getD k 0)=k:=by
 revert k;decide
theorem jR:∀(l:List UInt8),unhex (b4 l)=some l
 | []=>rfl
 |a::r=>by
  have ih:=jR r
  have ha:=a.toNat_lt
  have h1:=ta (a.toNat/16) (by omega)
  have h2:=ta (a.toNat % 16) (by omega)
  have e:b4 (a::r)=ki.getD (a.toNat/16) 0::ki.getD (a.toNat % 16) 0::b4 r:=by simp[b4,pk]
  rw[e,unhex,h1,h2,if_neg (by omega),ih]
  simp only[Option.map_some,Int.toNat_natCast]
  congr 2
  have e2:16*(a.toNat/16)+a.toNat % 16=a.toNat:=by omega
  rw[e2]
  simp
theorem Ei(a b:UInt8)(ha:0≤ku a)(hb:0≤ku b):16*ku a+ku b=((UInt8.ofNat (16*(ku a).toNat+(ku b).toNat)).toNat:Int):=by
 have h1:=lI a
 have h2:=lI b
 rw[UInt8.toNat_ofNat',Nat.mod_eq_of_lt (by omega)]
 omega
theorem Ac{l:List UInt8}{k:Nat}(h:2*k+1<l.length):l.take (2*(k+1))=l.take (2*k)++[l.getD (2*k) 0,l.getD (2*k+1) 0]:=by
 have e:2*(k+1)=2*k+1+1:=by omega
 rw[e,eU h,eU (by omega)]
 simp
theorem zy{l m:List UInt8}(h:b4 l=b4 m):l=m:=by
 have:=jR l
 rw[h,jR m]at this
 simpa using this.symm
theorem pY(c:UInt8):Lib.indexByte ki c=ku c:=by
 have h:∀n,n<256→Lib.indexByte ki (UInt8.ofNat n)=ku (UInt8.ofNat n):=by decide+kernel
 have:=h c.toNat c.toNat_lt
 rwa [UInt8.ofNat_toNat]at this
theorem EC(a b:Int)(ha:0≤a)(ha' :a<16)(hb:0≤b)(hb' :b<16):bits .or .i64 (a*16) b=16*a+b:=by
 have h:∀n,n<16→∀m,m<16→bits .or .i64 (((n:Nat):Int)*16) ((m:Nat):Int)=16*((n:Nat):Int)+((m:Nat):Int):=by decide+kernel
 have:=h a.toNat (by omega) b.toNat (by omega)
 rwa [Int.toNat_of_nonneg ha,Int.toNat_of_nonneg hb]at this
end Go.Hx
end
section
set_option maxRecDepth 20000
namespace Go.Proofs.YtmibdabdlgmafaaGreatDoor
open Go.Eng Go.Hx
theorem Cy(g:Nat)(bt:TypeId)(x:Nat)(hx:x<4294967296)(w:World)(hb:fE w g bt [.int .u32 (x:Int)]):
  Calls Tryz.prog 298 #[.pointer (some ⟨g,0,none⟩)] w fun e w' =>e= .returned (.tuple #[])∧Fr (fun i=>i=g) w w' ∧fE w' g bt [.int .u32 (nk x:Nat)]:=by
 have hc:w.cell? ⟨g,0,none⟩=some (.int .u32 (x:Int)):=hb.cell rfl
 have h3:(0:Int)≤2197175160*((x % 2:Nat):Int)∧2197175160*((x % 2:Nat):Int)<4294967296:=by omega
 refine enter (N:=9) Tryz.func298 rfl rfl (by simp) ?_
 refine ba<|bm<|nq (aw rfl bR hc)<|nq (gO (by simp) rfl rfl (Ho x hx))<|nq (ab rfl)<|bl<|bV (ae (t:=1) rfl<|ae (t:=0) rfl<|aF)<|aJ<|bm<|nq (aw rfl bR hc)<|nq (oF (p:=2) rfl rfl (by decide) (by decide) (by decide))<|nq (aa rfl)<|nq (fK rfl rfl (wW h3.1 h3.2))<|nq (gO (by simp) rfl rfl (zw x hx))<| ?_
 refine F8 (yz rfl rfl bJ rfl hb (by simp) fun w1 hf1 hb1 hs1=> ?_)
 refine bl<|bV (ae (t:=1) rfl<|ae (t:=0) rfl<|aF)<| ?_
 exact FC trivial rfl ⟨rfl,hf1,hb1⟩
theorem zC(x n:Nat)(hx:x<4294967296)(hn:n≤1000000)(w:World):
  Calls Tryz.prog 273 #[.int .u32 (x:Int),.int .i64 (n:Int)] w fun e w' =>e= .returned (.int .u32 (fX n x:Nat))∧Fr No w w' :=by
 refine enter (N:=14) Tryz.func273 rfl rfl (by simp) ?_
 refine ba<|bm<| ?_
 refine nx (tB rfl fun g w1 hg hf1 hb1=> ?_)
 refine nq (ab rfl)<|bl<|aJ<|ba<|bm<|nq (iy rfl rfl)<|nq (ab rfl)<|bl<|bV (ae (t:=5) rfl<|ae (t:=4) rfl<|ae (t:=2) rfl<|ae (t:=0) rfl<|ae (t:=1) rfl<|aF)<|aJ<|ba<|ba<|bm<|nq (aa rfl)<|nq (aa rfl)<|bl<|aJ<|dr<| ?_
 refine nG (fun k=>n-k) (fun k=>[(2,.pointer (some ⟨g,0,none⟩)),(5,.func (.func 298) #[] #[.pointer (some ⟨g,0,none⟩)]),(7,.int .i64 (n:Int)),(8,.int .i64 (k:Nat))]) (fun k w' =>k≤n∧Fr No w w' ∧fE w' g 166 [.int .u32 (fX k x:Nat)]) 0 (⟨Nat.zero_le _,hf1,hb1⟩) (ae (t:=2) rfl<|ae (t:=5) rfl<|ae (t:=7) rfl<|ae (t:=8) rfl<|aF) (fun k w2 ⟨hk,hf2,hb2⟩=> ?_)
 refine ba<|bm<|nq (bu rfl rfl)<|bl<|aJ<|ba<| ?_
 refine sU rfl (fun h=> ?_) (fun h=> ?_)
 ·refine fI<|aJ<|ba<|dr<|bm<|nq (aa rfl)<| ?_
  refine nx (vY rfl rfl Tryz.call298 (first:=[]) (cap:=[_]) (Cy g _ _ (lA hx k) _ hb2) ?_)
  rintro e_ w3 ⟨rfl,hf3,hb3⟩
  refine⟨_,rfl, ?_⟩
  refine bl<|bV (ae (t:=9) rfl<|ae (t:=2) rfl<|ae (t:=5) rfl<|ae (t:=7) rfl<|ae (t:=8) rfl<|aF)<|gg<|aJ<|bm<|nq (aN rfl rfl (bC (by omega) (by omega)))<|nq (aa rfl)<|bl<|bV (ae (t:=8) rfl<|ae (t:=9) rfl<|ae (t:=2) rfl<|ae (t:=5) rfl<|ae (t:=7) rfl<|aF)<| ?_
  refine nI (k+1) (ae (t:=2) rfl<|ae (t:=5) rfl<|ae (t:=7) rfl<|ae (t:=8) rfl<|aF) (⟨by omega,hf2.new hf3 (fun i hi=>by omega),hb3⟩) (by omega)
 ·obtain rfl:k=n:=by omega
  refine kM<|cf<|cf<|dw<|aJ<|ba<|bm<|nq (aw rfl bR ((hb2.cell rfl)))<|nq (ab rfl)<|bl<|bV (ae (t:=4) rfl<|ae (t:=9) rfl<|ae (t:=2) rfl<|ae (t:=5) rfl<|ae (t:=7) rfl<|ae (t:=8) rfl<|aF)<|aJ<|e8<| ?_
  exact gz trivial rfl rfl ⟨rfl,hf2⟩
theorem Cw(A:Option Addr)(n c:Nat)(l:List UInt8)(s:Nat)(hs:s<4294967296)(w:World)(hr:Rd w 1 A n (aR l))(hn:n≤140737488351232):
  Calls Tryz.prog 232 #[.int .u32 (s:Int),.slice A n c] w fun e w' =>e= .returned (.int .u32 (4294967295-km (4294967295-s) l:Nat))∧Fr No w w' :=by
 have hl:l.length=n:=by have:=hr.1;rw[ay]at this;omega
 refine enter (N:=25) Tryz.func232 rfl rfl (by simp) ?_
 refine ba<|bm<|nq (ab rfl)<|bl<|aJ<|ba<|bm<|nq (aa rfl)<|nq (yV (r8 rfl hs) (congrArg (fun n:Nat=>Value.int .u32 (n:Int)) (s8 hs)))<|nq (ab rfl)<|bl<|bV (ae (t:=5) rfl<|ae (t:=4) rfl<|ae (t:=0) rfl<|ae (t:=1) rfl<|aF)<|aJ<|ba<|ba<|bm<|nq (aa rfl)<|nq (aU rfl Tryz.underlying27)<|nq (aa rfl)<|bl<|bV (ae (t:=11) rfl<|ae (t:=10) rfl<|ae (t:=5) rfl<|ae (t:=4) rfl<|ae (t:=0) rfl<|ae (t:=1) rfl<|aF)<|aJ<|dr<| ?_
 refine nG (fun k=>n-k) (fun k=>[(1,.slice A n c),(5,.int .u32 (km (4294967295-s) (l.take k):Nat)),(10,.int .i64 (n:Int)),(11,.int .i64 (k:Nat))]) (fun k w' =>k≤n∧Fr No w w') 0 (⟨Nat.zero_le _,Fr.refl _ _⟩) (ae (t:=1) rfl<|ae (t:=5) rfl<|ae (t:=10) rfl<|ae (t:=11) rfl<|aF) (fun k w2 ⟨hk,hf2⟩=> ?_)
 refine ba<|bm<|nq (bu rfl rfl)<|bl<|aJ<|ba<| ?_
 refine sU rfl (fun h=> ?_) (fun h=> ?_)
 ·have hkn:k<l.length:=by omega
  have hm:=mL (n:=4294967295-s) (by omega) (l.take k)
  have hbt:=(l.getD k 0).toNat_lt
  have r2:=hr.qA hf2
  refine fI<|aJ<|ba<|dr<|ba<|bm<|nq (aa rfl)<|nq (ab rfl)<|bl<|bV (ae (t:=6) rfl<|ae (t:=12) rfl<|ae (t:=1) rfl<|ae (t:=5) rfl<|ae (t:=10) rfl<|ae (t:=11) rfl<|aF)<|aJ<|bm<|nq (aa rfl)<|nq (aa rfl)<|nq (aa rfl)<|nq (aO rfl rfl Tryz.underlying27 ek r2.2.1 rfl (by omega))<|nq (aw rfl jL (r2.cell (bM hkn)))<|nq (bW rfl Tryz.underlying5 Tryz.underlying166 ((wW (by omega) (by omega))))<|nq (gO (by simp) rfl rfl (ue _ hm _))<| ?_
  refine nx (eY rfl Tryz.call273 (zC _ 8 (ow hm _) (by decide) _) ?_)
  rintro e_ w3 ⟨rfl,hf3⟩
  refine⟨_,rfl, ?_⟩
  rw[←qb,←Go.Hx.eU hkn]
  refine nq (ab rfl)<|bl<|bV (ae (t:=5) rfl<|ae (t:=6) rfl<|ae (t:=12) rfl<|ae (t:=1) rfl<|ae (t:=10) rfl<|ae (t:=11) rfl<|aF)<|gg<|aJ<|bm<|nq (aN rfl rfl (bC (by omega) (by omega)))<|nq (aa rfl)<|bl<|bV (ae (t:=11) rfl<|ae (t:=5) rfl<|ae (t:=6) rfl<|ae (t:=12) rfl<|ae (t:=1) rfl<|ae (t:=10) rfl<|aF)<| ?_
  refine nI (k+1) (ae (t:=1) rfl<|ae (t:=5) rfl<|ae (t:=10) rfl<|ae (t:=11) rfl<|aF) (⟨by omega,hf2.dE hf3⟩) (by omega)
 ·obtain rfl:k=n:=by omega
  have hm:=mL (n:=4294967295-s) (by omega) (l.take k)
  refine kM<|cf<|cf<|dw<|aJ<|ba<|bm<|nq (aa rfl)<|nq (r8 rfl hm)<|nq (ab rfl)<|bl<|bV (ae (t:=4) rfl<|ae (t:=12) rfl<|ae (t:=1) rfl<|ae (t:=5) rfl<|ae (t:=10) rfl<|ae (t:=11) rfl<|aF)<|aJ<|e8<| ?_
  rw[List.take_of_length_le (by omega)]at hm ⊢
  rw[s8 hm]
  exact gz trivial rfl rfl ⟨rfl,hf2⟩
theorem yB(A:Option Addr)(n c:Nat)(l:List UInt8)(w:World)(hr:Rd w 1 A n (aR l))(hn:n≤140737488351232):
  Calls Tryz.prog 180 #[.slice A n c] w fun e w' =>e= .returned (.int .u32 (cQ l:Nat))∧Fr No w w' :=by
 refine enter (N:=5) Tryz.func180 rfl rfl (by simp) ?_
 refine ba<|bm<|nq (ab rfl)<|bl<|aJ<|ba<|bm<|nq (aa rfl)<| ?_
 refine nx (eY rfl Tryz.call232 (Cw A n c l 0 (by decide) w hr hn) ?_)
 rintro e_ w1 ⟨rfl,hf1⟩
 refine⟨_,rfl, ?_⟩
 refine nq (ab rfl)<|bl<|bV (ae (t:=2) rfl<|ae (t:=0) rfl<|aF)<|aJ<|e8<| ?_
 exact gz trivial rfl rfl ⟨rfl,hf1⟩
theorem clone(A:Option Addr)(n c:Nat)(l:List UInt8)(w:World)(hr:Rd w 1 A n (aR l))(hn:n≤140737488351232):
  Calls Tryz.prog 117 #[.slice A n c] w fun e w' =>∃v,e= .returned v∧Go.Eng.Own w' w.heap.size 5 1 v n (aR l)∧Fr No w w' :=by
 have hl:l.length=n:=by have:=hr.1;rw[ay]at this;omega
 refine enter (N:=8) Tryz.func117 rfl rfl (by simp) ?_
 refine ba<|bm<|nq (ab rfl)<|bl<|aJ<|ba<|ba<|bm<|nq (aa rfl)<|nq (ER rfl rfl Tryz.underlying27)<|bl<|bV (ae (t:=4) rfl<|ae (t:=2) rfl<|ae (t:=0) rfl<|aF)<|aJ<| ?_
 cases A with
 |none=>
  have h0:n=0:=by
   rcases Nat.eq_zero_or_pos n with h|h
   ·exact h
   ·exact absurd rfl (hr.2.1 h)
  subst h0
  obtain rfl:l=[]:=List.eq_nil_of_length_eq_zero hl
  refine CG rfl (rfl) ?_
  refine ba<|bm<|nq (ab rfl)<|bl<|aJ<|e8<|dh<| ?_
  exact gz trivial rfl rfl ⟨_,rfl,Own.nil _ _ _ _,Fr.refl _ _⟩
 |some a=>
  refine u5 rfl (rfl) ?_
  refine fI<|aJ<|ba<|bm<| ?_
  refine nx (DJ Tryz.underlying27 fb fun g w1 hg hf1 hb1=> ?_)
  refine nq (aa rfl)<| ?_
  refine nx (lN rfl rfl Tryz.underlying27 Tryz.underlying27 (by exact .inl rfl) fb rfl (Own.Gm hb1 hg) (Src.b7 (hr.qA hf1)) gC (by unfold maxLen;omega) (by omega) hf1.size fun v w2 ho hf2 hv=> ?_)
  refine nq (ab rfl)<|bl<|bV (ae (t:=2) rfl<|ae (t:=4) rfl<|ae (t:=0) rfl<|aF)<|aJ<|e8<| ?_
  refine gz trivial rfl rfl ⟨v,rfl, ?_,hf1.new hf2 (fun i hi=>by have:i=g:=hi;omega)⟩
  simpa using ho
theorem Ay(A:Option Addr)(n c:Nat)(l:List UInt8)(s:Nat)(hs:s<4294967296)(w:World)(hr:Rd w 1 A n (aR l))(hn:n≤140737488351232):
  Calls Tryz.prog 243 #[.int .u32 (s:Int),.slice A n c] w fun e w' =>e= .returned (.int .u32 (4294967295-km (4294967295-s) l:Nat))∧w=w' :=by
 have hl:l.length=n:=by have:=hr.1;rw[ay]at this;omega
 refine enter (N:=37) Tryz.func243 rfl rfl (by simp) ?_
 refine ba<|bm<|nq (ab rfl)<|bl<|aJ<|ba<|bm<|nq (aa rfl)<|nq (cw rfl rfl ((show IntKind.u32.wrap (4294967295-(s:Int))=((4294967295-s:Nat):Int) by rw[wW (by omega) (by omega)];omega)))<|nq (ab rfl)<|bl<|bV (ae (t:=5) rfl<|ae (t:=4) rfl<|ae (t:=0) rfl<|ae (t:=1) rfl<|aF)<|aJ<|ba<|ba<|bm<|nq (ab rfl)<|bl<|aJ<|dr<| ?_
 refine nG (fun k=>n-k) (fun k=>[(1,.slice A n c),(5,.int .u32 (km (4294967295-s) (l.take k):Nat)),(6,.int .i64 (k:Nat))]) (fun k w' =>k≤n∧w=w') 0 (⟨Nat.zero_le _,rfl⟩) (ae (t:=1) rfl<|ae (t:=5) rfl<|ae (t:=6) rfl<|aF) (fun k w2 ⟨hk,hw⟩=> ?_)
 obtain rfl:=hw
 refine ba<|ba<|bm<|nq (aa rfl)<|nq (aa rfl)<|nq (aU rfl Tryz.underlying27)<|nq (bu rfl rfl)<|bl<|bV (ae (t:=13) rfl<|ae (t:=1) rfl<|ae (t:=5) rfl<|ae (t:=6) rfl<|aF)<|aJ<| ?_
 refine sU rfl (fun h=> ?_) (fun h=> ?_)
 ·have hkn:k<l.length:=by omega
  have hm:=mL (n:=4294967295-s) (by omega) (l.take k)
  have hbt:=(l.getD k 0).toNat_lt
  have hx:=ow hm (l.getD k 0)
  refine fI<|aJ<|ba<|dr<|ba<|bm<|nq (aa rfl)<|nq (aa rfl)<|nq (aa rfl)<|nq (aO rfl rfl Tryz.underlying27 ek hr.2.1 rfl (by omega))<|nq (aw rfl jL (hr.cell (bM hkn)))<|nq (bW rfl Tryz.underlying5 Tryz.underlying166 ((wW (by omega) (by omega))))<|nq (gO (by simp) rfl rfl (ue _ hm _))<|nq (ab rfl)<|bl<|bV (ae (t:=5) rfl<|ae (t:=13) rfl<|ae (t:=1) rfl<|ae (t:=6) rfl<|aF)<|aJ<|ba<|bm<|nq (ab rfl)<|bl<|aJ<|dr<| ?_
  generalize hX:km (4294967295-s) (l.take k) ^^^ (l.getD k 0).toNat=X at hx
  refine nG (fun q=>8-q) (fun q=>[(1,.slice A n c),(5,.int .u32 (fX q X:Nat)),(6,.int .i64 (k:Nat)),(7,.int .i64 (q:Nat))]) (fun q w' =>q≤8∧w=w') 0 (⟨Nat.zero_le _,rfl⟩) (ae (t:=1) rfl<|ae (t:=5) rfl<|ae (t:=6) rfl<|ae (t:=7) rfl<|aF) (fun q w3 ⟨hq,hw⟩=> ?_)
  obtain rfl:=hw
  have hc:=lA hx q
  refine ba<|ba<|bm<|nq (aa rfl)<|nq (bu rfl rfl)<|bl<|bV (ae (t:=24) rfl<|ae (t:=1) rfl<|ae (t:=5) rfl<|ae (t:=6) rfl<|ae (t:=7) rfl<|aF)<|aJ<| ?_
  refine sU rfl (fun h2=> ?_) (fun h2=> ?_)
  ·refine fI<|aJ<|ba<|dr<|ba<|bm<|nq (aa rfl)<|nq (gU rfl rfl (by omega) (by omega))<|nq (cM rfl rfl)<|bl<|bV (ae (t:=29) rfl<|ae (t:=24) rfl<|ae (t:=1) rfl<|ae (t:=5) rfl<|ae (t:=6) rfl<|ae (t:=7) rfl<|aF)<|aJ<| ?_
   refine sU rfl (fun h3=> ?_) (fun h3=> ?_)
   ·refine bm<|nq (aa rfl)<|nq (jF rfl rfl (by omega) (by omega) (wW (by omega) (by omega)))<|nq (gO (by simp) rfl rfl (y6 _ hc))<|nq (ab rfl)<|bl<|bV (ae (t:=5) rfl<|ae (t:=29) rfl<|ae (t:=24) rfl<|ae (t:=1) rfl<|ae (t:=6) rfl<|ae (t:=7) rfl<|aF)<|gg<|aJ<|bm<|nq (aa rfl)<|nq (aN rfl rfl (bC (by omega) (by omega)))<|nq (ab rfl)<|bl<|bV (ae (t:=7) rfl<|ae (t:=5) rfl<|ae (t:=29) rfl<|ae (t:=24) rfl<|ae (t:=1) rfl<|ae (t:=6) rfl<|aF)<| ?_
    rw[show fX q X/2 ^^^ 2197175160=fX (q+1) X by rw[fX,nk,if_pos (by omega)]]
    refine nI (q+1) (ae (t:=1) rfl<|ae (t:=5) rfl<|ae (t:=6) rfl<|ae (t:=7) rfl<|aF) (⟨by omega,rfl⟩) (by omega)
   ·refine bm<|nq (aa rfl)<|nq (jF rfl rfl (by omega) (by omega) (wW (by omega) (by omega)))<|nq (ab rfl)<|bl<|bV (ae (t:=5) rfl<|ae (t:=29) rfl<|ae (t:=24) rfl<|ae (t:=1) rfl<|ae (t:=6) rfl<|ae (t:=7) rfl<|aF)<|gg<|aJ<|bm<|nq (aa rfl)<|nq (aN rfl rfl (bC (by omega) (by omega)))<|nq (ab rfl)<|bl<|bV (ae (t:=7) rfl<|ae (t:=5) rfl<|ae (t:=29) rfl<|ae (t:=24) rfl<|ae (t:=1) rfl<|ae (t:=6) rfl<|aF)<| ?_
    rw[show(fX q X:Int)/2=((fX (q+1) X:Nat):Int) by rw[fX,nk,if_neg (by omega)];omega]
    refine nI (q+1) (ae (t:=1) rfl<|ae (t:=5) rfl<|ae (t:=6) rfl<|ae (t:=7) rfl<|aF) (⟨by omega,rfl⟩) (by omega)
  ·obtain rfl:q=8:=by omega
   refine kM<|cf<|cf<|dw<|gg<|aJ<|bm<|nq (aa rfl)<|nq (aN rfl rfl (bC (by omega) (by omega)))<|nq (ab rfl)<|bl<|bV (ae (t:=6) rfl<|ae (t:=24) rfl<|ae (t:=1) rfl<|ae (t:=5) rfl<|ae (t:=7) rfl<|aF)<| ?_
   rw[←hX,←qb,←Go.Hx.eU hkn]
   refine nI (k+1) (ae (t:=1) rfl<|ae (t:=5) rfl<|ae (t:=6) rfl<|aF) (⟨by omega,rfl⟩) (by omega)
 ·obtain rfl:k=n:=by omega
  have hm:=mL (n:=4294967295-s) (by omega) (l.take k)
  refine kM<|cf<|cf<|dw<|aJ<|ba<|bm<|nq (aa rfl)<|nq (cw rfl rfl ((show IntKind.u32.wrap (4294967295-((km (4294967295-s) (l.take k):Nat):Int))=((4294967295-km (4294967295-s) (l.take k):Nat):Int) by rw[wW (by omega) (by omega)];omega)))<|nq (ab rfl)<|bl<|bV (ae (t:=4) rfl<|ae (t:=13) rfl<|ae (t:=1) rfl<|ae (t:=5) rfl<|ae (t:=6) rfl<|aF)<|aJ<|e8<| ?_
  rw[List.take_of_length_le (by omega)]
  exact gz trivial rfl rfl ⟨rfl,rfl⟩
theorem Co(A:Option Addr)(n c:Nat)(l:List UInt8)(w:World)(hr:Rd w 1 A n (aR l))(hn:n≤70368744177664):
  Calls Tryz.prog 189 #[.slice A n c] w fun e w' =>∃v,e= .returned v∧Go.Eng.Own w' w.heap.size 5 1 v (n+4) (aR (Am l))∧Fr No w w' :=by
 have hl:l.length=n:=by have:=hr.1;rw[ay]at this;omega
 refine enter (N:=24) Tryz.func189 rfl rfl (by simp) ?_
 refine ba<|bm<|nq (ab rfl)<|bl<|aJ<|ba<|bm<|nq (aa rfl)<| ?_
 refine nx (eY rfl Tryz.call243 (Ay A n c l 0 (by decide) w hr (by omega)) ?_)
 rintro e_ w1 ⟨rfl,rfl⟩
 refine⟨_,rfl, ?_⟩
 refine nq (ab rfl)<|bl<|bV (ae (t:=3) rfl<|ae (t:=2) rfl<|ae (t:=0) rfl<|aF)<|aJ<|ba<|bm<|nq (ab rfl)<|bl<|aJ<|ba<|bm<|nq (aa rfl)<|nq (aa rfl)<| ?_
 refine nx (lN rfl rfl Tryz.underlying27 Tryz.underlying27 (by exact .inl rfl) fb rfl (Own.nil w w.heap.size _ 1) (Src.b7 hr) gC (by unfold maxLen;omega) (by omega) (Nat.le_refl _) fun v w2 hv hf2 hvv=> ?_)
 have hlt:=jt l
 have f2:Fr No w w2:=hf2.mono (fun _ _ e=>e.elim)
 refine nq (ab rfl)<|bl<|bV (ae (t:=4) rfl<|ae (t:=3) rfl<|ae (t:=2) rfl<|ae (t:=0) rfl<|aF)<|aJ<|ba<|ba<|bm<|nq (ab rfl)<|bl<|aJ<|dr<| ?_
 refine sN (fun k _=>4-k) (fun k v=>[(3,.int .u32 (rR k (cQ l):Nat)),(4,v),(5,.int .i64 (k:Nat))]) (fun k v w' =>k≤4∧Go.Eng.Own w' w.heap.size 5 1 v (n+k) (aR (l++EV k (cQ l)))∧Fr No w w') 0 v (⟨Nat.zero_le _,by simpa[EV]using hv,f2⟩) (ae (t:=3) rfl<|ae (t:=4) rfl<|ae (t:=5) rfl<|aF) (fun k v w3 ⟨hk,ho,hf⟩=> ?_)
 refine ba<|ba<|bm<|nq (aa rfl)<|nq (bu rfl rfl)<|bl<|bV (ae (t:=12) rfl<|ae (t:=3) rfl<|ae (t:=4) rfl<|ae (t:=5) rfl<|aF)<|aJ<| ?_
 refine sU rfl (fun h=> ?_) (fun h=> ?_)
 ·have hs8:=wo hlt k
  refine fI<|aJ<|ba<|dr<|ba<|bm<|nq (aa rfl)<|nq (aa rfl)<|nq (gU rfl rfl (by omega) (by omega))<|nq (bW rfl Tryz.underlying166 Tryz.underlying5 ((show IntKind.u8.wrap (((rR k (cQ l):Nat):Int) % 256)=((UInt8.ofNat (rR k (cQ l))).toNat:Int) by simp[IntKind.wrap,IntKind.signed,IntKind.bits])))<| ?_
  refine nx (oo Tryz.underlying27 fb rfl rfl rfl (by simp[Value.cells,B8]) (by decide) (by decide) fun g w4 hg hf4 hb4=> ?_)
  refine nx (lN rfl rfl Tryz.underlying27 Tryz.underlying27 (by exact .inl rfl) fb rfl (ho.qA hf4) (Src.gP hb4 rfl) (aS (l:=[_])) (by unfold maxLen;omega) (by omega) (hf.dE hf4).size fun v5 w5 ho5 hf5 hv5=> ?_)
  refine nq (ab rfl)<|bl<|bV (ae (t:=4) rfl<|ae (t:=12) rfl<|ae (t:=3) rfl<|ae (t:=5) rfl<|aF)<|aJ<|bm<|nq (aa rfl)<|nq (jF rfl rfl (by omega) (by omega) (wW (by omega) (by omega)))<|nq (ab rfl)<|bl<|bV (ae (t:=3) rfl<|ae (t:=4) rfl<|ae (t:=12) rfl<|ae (t:=5) rfl<|aF)<|gg<|aJ<|bm<|nq (aa rfl)<|nq (aN rfl rfl (bC (by omega) (by omega)))<|nq (ab rfl)<|bl<|bV (ae (t:=5) rfl<|ae (t:=3) rfl<|ae (t:=4) rfl<|ae (t:=12) rfl<|aF)<| ?_
  refine pU (k+1) v5 (ae (t:=3) rfl<|ae (t:=4) rfl<|ae (t:=5) rfl<|aF) (⟨by omega,by rw[za,←List.append_assoc,bx];exact ho5,(hf.dE hf4).new hf5 (fun i hi=>(ho.from hi).1)⟩) (by omega)
 ·obtain rfl:k=4:=by omega
  refine kM<|cf<|cf<|dw<|aJ<|ba<|bm<|nq (aa rfl)<|nq (ab rfl)<|bl<|bV (ae (t:=2) rfl<|ae (t:=12) rfl<|ae (t:=3) rfl<|ae (t:=4) rfl<|ae (t:=5) rfl<|aF)<|aJ<|e8<| ?_
  rw[zH]at ho
  exact gz trivial rfl rfl ⟨v,rfl,ho,hf⟩
end Go.Proofs.YtmibdabdlgmafaaGreatDoor
end
section
set_option maxRecDepth 20000
namespace Go.Proofs.YtmibdabdlgmafaaGreatDoor
open Go.Eng Go.Hx
theorem uG(A:Option Addr)(n c:Nat)(l:List UInt8)(A' :Option Addr)(n' c' :Nat)(l' :List UInt8)(w:World)(hr:Rd w 1 A n (aR l))(hr' :Rd w 1 A' n' (aR l')):
  Calls Tryz.prog 215 #[.slice A n c,.slice A' n' c'] w fun e w' =>e= .returned (.bool (decide (l=l')))∧w=w' :=by
 refine enter (N:=10) Tryz.func215 rfl rfl (by simp) ?_
 refine ba<|bm<|nq (ab rfl)<|bl<|aJ<|ba<|bm<|nq (aa rfl)<|nq (jH rfl Tryz.underlying27 Tryz.underlying5 Tryz.underlying9 hr)<|nq (aa rfl)<|nq (jH rfl Tryz.underlying27 Tryz.underlying5 Tryz.underlying9 hr')<|nq (tj rfl rfl)<|nq (ab rfl)<|bl<|bV (ae (t:=4) rfl<|ae (t:=0) rfl<|ae (t:=1) rfl<|aF)<|aJ<|e8<| ?_
 refine gz trivial rfl rfl ⟨?_,rfl⟩
 simp only[cF]
end Go.Proofs.YtmibdabdlgmafaaGreatDoor
end
section
set_option maxRecDepth 20000
namespace Go.Proofs.YtmibdabdlgmafaaGreatDoor
open Go.Eng Go.Hx
theorem oI{A A1:Option Addr}{n c n1 c1:Nat}{l l1:List UInt8}:cj Tryz.prog 215 [.slice A n c,.slice A1 n1 c1] [] [cV 1 A n (aR l),cV 1 A1 n1 (aR l1)] (fun v_ X_ S_=>v_=(.bool (decide (l=l1)))∧X_=[]∧S_=[]):=by
 exact iA fun m=>Calls.mono (uG A n c l A1 n1 c1 l1 _ (m.rd 0 rfl) (m.rd 1 rfl)) (fun e w' ⟨h,hw⟩=>⟨_,h,⟨rfl,rfl,rfl⟩,hw▸Fr.refl _ _⟩)
theorem rT{A:Option Addr}{n c:Nat}{l:List UInt8}(hn:n≤140737488351232):cj Tryz.prog 117 [.slice A n c] [] [cV 1 A n (aR l)] (fun v_ X_ S_=>∃v,v_=v∧X_=[aG 5 1 v n (aR l)]∧S_=[]):=by
 exact kF fun m=>Calls.mono (clone A n c l _ (m.rd 0 rfl) hn) (fun e w' ⟨v,h,ho,hf⟩=>⟨v,v,_,_,_,_,h,⟨v,rfl,rfl,rfl⟩,ho,hf⟩)
end Go.Proofs.YtmibdabdlgmafaaGreatDoor
end
section
set_option maxRecDepth 20000
namespace Go.Proofs.YtmibdabdlgmafaaGreatDoor
open Go.Eng Go.Hx
def eX:bh:=cV 1 (some ⟨1,0,none⟩) 64 (eh fL)
theorem EY{n:Nat}(h0:0<n)(hn:n<32):IntKind.u64.wrap (-(n:Int))=((18446744073709551616-n:Nat):Int):=by
 simp[IntKind.wrap,IntKind.signed,IntKind.bits]
 omega
theorem yY{n:Nat}(h0:0<n)(hn:n<32):bits .and .u64 ((18446744073709551616-n:Nat):Int) 31=((32-n:Nat):Int):=by
 have h:=u64_and_nat (18446744073709551616-n) 31 (by omega) (by decide)
 rw[show((31:Nat):Int)=31 from rfl]at h
 rw[h,show(31:Nat)=2 ^ 5-1 from rfl,Nat.and_two_pow_sub_one_eq_mod]
 congr 1
 show(18446744073709551616-n) % 32=32-n
 omega
theorem vd{x:UInt32}{n:Nat}(h0:0<n)(hn:n<32):cj Tryz.prog 296 [Wd x,.int .i64 (-(n:Int))] [] [] (fun v_ X_ S_=>v_=(Wd (kU n x))∧X_=[]∧S_=[]):=by
 refine aQ (N:=17) Tryz.func296 rfl rfl (by simp) fun b=> ?_
 have hs:IntKind.u64.wrap (32-((32-n:Nat):Int))=(n:Int):=by
  rw[show(32:Int)-((32-n:Nat):Int)=(n:Int) by omega]
  simp[IntKind.wrap,IntKind.signed,IntKind.bits]
  omega
 refine ah<|aj<|hy (fun _=>ab rfl)<|ai<|ag<|ah<|aj<|hy (fun _=>aa rfl)<|hy (fun _=>bW rfl Tryz.underlying3 Tryz.underlying263 (EY h0 hn))<|hy (fun _=>gO (by simp) rfl rfl (yY h0 hn))<|hy (fun _=>ab rfl)<|ai<|al (ρ' :=[(5,_),(4,_),(0,_),(1,_)]) ⟨rfl,rfl,rfl,rfl,trivial⟩<|ag<|ah<|aj<|hy (fun _=>aa rfl)<|hy (fun _=>aa rfl)<|hy (fun _=>(zZ (k:=32-n) (by omega) rfl rfl))<|hy (fun _=>aa rfl)<|hy (fun _=>aa rfl)<|hy (fun _=>cw rfl rfl hs)<|hy (fun _=>(yW (k:=n) hn rfl rfl))<|hy (fun _=>yV (Di rfl rfl) ((show Wd (UInt32.ofNat (x.toNat*2 ^ (32-n)) ||| UInt32.ofNat (x.toNat/2 ^ n))=Wd (kU n x) by rw[BI h0 hn])))<|hy (fun _=>ab rfl)<|ai<|al (ρ' :=[(4,_),(5,_),(0,_),(1,_)]) ⟨rfl,rfl,rfl,rfl,trivial⟩<|ag<|aX<| ?_
 exact bf trivial rfl rfl [] rfl [] rfl ⟨rfl,rfl,rfl⟩
theorem wz{x:UInt32}{n1 n2 n3:Nat}(h1:0<n1∧n1<32)(h2:0<n2∧n2<32)(h3:0<n3∧n3<32):cj Tryz.prog 269 [Wd x,.int .i64 (n1:Int),.int .i64 (n2:Int),.int .i64 (n3:Int)] [] [] (fun v_ X_ S_=>v_=(Wd (turns n1 n2 n3 x))∧X_=[]∧S_=[]):=by
 refine aQ (N:=23) Tryz.func269 rfl rfl (by simp) fun b=> ?_
 refine ah<|aj<|hy (fun _=>ab rfl)<|ai<|ag<|ah<|aj<|hy (fun _=>aa rfl)<|hy (fun _=>aa rfl)<|hy (fun _=>xe rfl (bC (by omega) (by omega)))<| ?_
 refine hx (aq rfl Tryz.call296 (vd h1.1 h1.2 (n:=n1)) [] rfl [] rfl ?_)
 rintro _ _ _ ⟨rfl,rfl,rfl⟩
 refine hy (fun _=>aa rfl)<|hy (fun _=>aa rfl)<|hy (fun _=>xe rfl (bC (by omega) (by omega)))<| ?_
 refine hx (aq rfl Tryz.call296 (vd h2.1 h2.2 (n:=n2)) [] rfl [] rfl ?_)
 rintro _ _ _ ⟨rfl,rfl,rfl⟩
 refine hy (fun _=>eg rfl rfl)<|hy (fun _=>aa rfl)<|hy (fun _=>aa rfl)<|hy (fun _=>xe rfl (bC (by omega) (by omega)))<| ?_
 refine hx (aq rfl Tryz.call296 (vd h3.1 h3.2 (n:=n3)) [] rfl [] rfl ?_)
 rintro _ _ _ ⟨rfl,rfl,rfl⟩
 refine hy (fun _=>eg rfl rfl)<|hy (fun _=>ab rfl)<|ai<|al (ρ' :=[(8,_),(0,_),(1,_),(2,_),(3,_)]) ⟨rfl,rfl,rfl,rfl,rfl,trivial⟩<|ak (X' :=[]) (S' :=[]) (fun _ m=>m)<|ag<|aX<| ?_
 exact bf trivial rfl rfl [] rfl [] rfl ⟨rfl,rfl,rfl⟩
theorem mF{a:List UInt32}{i k n:Nat}(ha:a.length=i)(hk:k<i):(eh (a++List.replicate n 0))[k]? =some (Wd (a.getD k 0)):=by
 rw[bg (by simp;omega)]
 simp[List.getD,List.getElem?_append_left (show k<a.length by omega)]
theorem B2{a r:List UInt32}{i:Nat}{x:UInt32}(ha:a.length=i):(eh (a++x::r))[i]? =some (Wd x):=by
 subst ha
 simp[eh]
theorem wC{a r:List UInt32}{i:Nat}{x y:UInt32}(ha:a.length=i):(eh (a++x::r)).set i (Wd y)=eh (a++y::r):=by
 subst ha
 simp[eh,List.set_append]
theorem wi{a r:List UInt32}{y:UInt32}:a++y::r=(a++[y])++r:=by simp
theorem ED{A:Option Addr}{c:Nat}{l:List UInt8}(hc:64≤c):cj Tryz.prog 268 [.slice A 64 c] [] [cV 1 A 64 (aR l)] (fun v_ X_ S_=>v_=(.agg (eh (wl l 64)).toArray)∧X_=[]∧S_=[]):=by
 refine aQ (N:=75) Tryz.func268 rfl rfl (by simp) fun b=> ?_
 refine aY (fun m=>ig (m.rd 0 rfl)) ?_
 rintro⟨hl_r,hA_r⟩
 have hl:l.length=64:=hl_r
 refine ah<|aj<| ?_
 refine hx (aP z8 (fun g2=> ?_))
 refine ai<|ak (X' :=[_]) (S' :=[_]) (fun _ m=>m)<|ag<|ah<|aj<| ?_
 refine hx (aP z8 (fun g3=> ?_))
 refine aT (fun w m=>m.bQ 0 rfl (show _=aL g3 354 (eh (wl l 0++List.replicate (64-0) 0))from rfl)) ?_
 refine ai<|ak (X' :=[_,_]) (S' :=[_]) (fun _ m=>m)<|ag<|ah<|ah<|aj<|hy (fun _=>aa rfl)<|ai<|ag<|aI<| ?_
 refine dD (fun i=>64-i) (fun i=>[(9,.int .i64 (i:Nat))]) (fun i=>[aL g3 354 (eh (wl l i++List.replicate (64-i) 0))]) (fun i=>[]) (fun i=>i≤64) 0 [(3,_),(2,_),(0,_)] ⟨rfl,rfl,rfl,trivial⟩ [0] rfl [] rfl (Nat.zero_le _) ⟨rfl,trivial⟩ (fun i hI=> ?_)
 have hwl:=fw l i
 refine ah<|aj<|hy (fun _=>bu rfl rfl)<|ai<|ag<|ah<| ?_
 refine cD rfl (fun h=> ?_) (fun h=> ?_)
 ·have hr64:(List.replicate (64-i) (0:UInt32))=0::List.replicate (63-i) 0:=by rw[show 64-i=(63-i)+1 by omega,List.replicate_succ]
  have hr63:(64-(i+1))=63-i:=by omega
  refine aC<|ag<|ah<|aI<|ah<|aj<|hy (fun _=>aa rfl)<|hy (fun _=>ab rfl)<|ai<|al (ρ' :=[(4,_),(10,_),(9,_),(3,_),(2,_),(0,_)]) ⟨rfl,rfl,rfl,rfl,rfl,rfl,trivial⟩<|ag<|ah<|ah<|aj<|hy (fun _=>aa rfl)<|hy (fun _=>bu rfl rfl)<|ai<|al (ρ' :=[(13,_),(4,_),(10,_),(9,_),(3,_),(2,_),(0,_)]) ⟨rfl,rfl,rfl,rfl,rfl,rfl,rfl,trivial⟩<|ag<| ?_
  refine cD rfl (fun h16=> ?_) (fun h16=> ?_)
  ·have hws:wl l (i+1)=wl l i++[kY l (4*i)]:=by rw[wl,if_pos (by omega)]
   refine bw (fun w m=>m.jN 0 rfl (View.sub (k:=4*i) (m:=4) hc (by omega))) ?_
   refine aY (fun m=>ig (m.rd 0 rfl)) ?_
   rintro⟨hl_r4,hA_r4⟩
   refine ah<|ah<|aj<|hy (fun _=>aa rfl)<|hy (fun _=>aa rfl)<|hy (fun _=>fK rfl rfl (bC (by omega) (by omega)))<|hy (fun _=>aa rfl)<|hy (fun _=>fK rfl rfl (bC (by omega) (by omega)))<|hy (fun _=>aN rfl rfl (bC (by omega) (by omega)))<|hy (fun _=>yV (eG rfl rfl rfl Tryz.underlying27 ek (show((4*i:Nat):Int)=_ by omega) (show((4*i+4:Nat):Int)=_ by omega) (by omega) (by omega)) ((show Value.slice (if c=4*i then A else A.map (·.add (4*i*1))) (4*i+4-4*i) (c-4*i)= .slice (if c=4*i then A else A.map (·.add (4*i*1))) 4 (c-4*i) by rw[Nat.add_sub_cancel_left])))<|hy (fun _=>aU rfl Tryz.underlying27)<|hy (fun _=>aa rfl)<|ai<|al (ρ' :=[(22,_),(21,_),(20,_),(13,_),(4,_),(10,_),(9,_),(3,_),(2,_),(0,_)]) ⟨rfl,rfl,rfl,rfl,rfl,rfl,rfl,rfl,rfl,rfl,trivial⟩<|ag<|aI<| ?_
   refine bw (fun w m=>m.bQ 0 rfl (show _=aL g3 354 (eh (wl l i++UInt32.ofNat (wp l (4*i) 0)::List.replicate (63-i) 0))from by rw[hr64];rfl)) ?_
   refine dD (fun j=>4-j) (fun j=>[(22,.int .i64 (j:Nat))]) (fun j=>[aL g3 354 (eh (wl l i++UInt32.ofNat (wp l (4*i) j)::List.replicate (63-i) 0))]) (fun j=>[]) (fun j=>j≤4) 0 [(21,_),(20,_),(13,_),(4,_),(10,_),(9,_),(3,_),(2,_),(0,_)] ⟨rfl,rfl,rfl,rfl,rfl,rfl,rfl,rfl,rfl,trivial⟩ [0] rfl [] rfl (Nat.zero_le _) ⟨rfl,trivial⟩ (fun j hj4=> ?_)
   refine ah<|aj<|hy (fun _=>bu rfl rfl)<|ai<|ag<|ah<| ?_
   refine cD rfl (fun hj=> ?_) (fun hj=> ?_)
   ·have hgl:((l.drop (4*i)).take 4).getD j 0=l.getD (4*i+j) 0:=by
     simp[List.getD,List.getElem?_take,List.getElem?_drop,show j<4 by omega]
    refine aC<|ag<|ah<|aI<|ah<|aj<|hy (fun _=>aO rfl rfl Tryz.underlying27 ek hA_r4 rfl (by omega))<|hy (fun m=>aw rfl jL ((m.rd 0 rfl).cell (bM (by omega))))<|hy (fun _=>ab rfl)<|ai<|al (ρ' :=[(6,_),(23,_),(22,_),(21,_),(20,_),(13,_),(4,_),(10,_),(9,_),(3,_),(2,_),(0,_)]) ⟨rfl,rfl,rfl,rfl,rfl,rfl,rfl,rfl,rfl,rfl,rfl,rfl,trivial⟩<|ag<|aj<|hy (fun _=>aa rfl)<|hy (fun _=>aa rfl)<|hy (fun _=>b9 rfl rfl Tryz.underlying354 bJ rfl (by omega))<|hy (fun m=>aw rfl bR ((m.aZ 0 rfl).az i _ (B2 hwl)))<|hy (fun _=>CD (k:=8) (b:=256) (by decide) rfl rfl rfl)<|hy (fun _=>aa rfl)<|hy (fun _=>zQ rfl Tryz.underlying5 Tryz.underlying166)<|hy (fun _=>yV (Di rfl rfl) ((show Wd ((UInt32.ofNat (wp l (4*i) j)*256) ||| (((l.drop (4*i)).take 4).getD j 0).toUInt32)=Wd (UInt32.ofNat (wp l (4*i) (j+1))) by rw[hgl,Bw (by omega)])))<|hy (fun _=>b9 rfl rfl Tryz.underlying354 bJ rfl (by omega))<| ?_
    refine cJ (cm 0 rfl rfl rfl bJ rfl (by rw[bq];simp only[List.length_append,List.length_cons,List.length_replicate,hwl];omega) ?_)
    refine ai<|al (ρ' :=[(6,_),(23,_),(22,_),(21,_),(20,_),(13,_),(4,_),(10,_),(9,_),(3,_),(2,_),(0,_)]) ⟨rfl,rfl,rfl,rfl,rfl,rfl,rfl,rfl,rfl,rfl,rfl,rfl,trivial⟩<|ak (X' :=[_,_]) (S' :=[_,_]) (fun _ m=>m)<|aM<|ag<|aj<|hy (fun _=>aN rfl rfl (bC (by omega) (by omega)))<|hy (fun _=>aa rfl)<|ai<|al (ρ' :=[(22,_),(6,_),(23,_),(21,_),(20,_),(13,_),(4,_),(10,_),(9,_),(3,_),(2,_),(0,_)]) ⟨rfl,rfl,rfl,rfl,rfl,rfl,rfl,rfl,rfl,rfl,rfl,rfl,trivial⟩<| ?_
    refine ak (fun w m=>m.bQ 0 rfl (show _=aL g3 354 (eh (wl l i++UInt32.ofNat (wp l (4*i) (j+1))::List.replicate (63-i) 0))from by rw[Nat.zero_add,wC hwl])) ?_
    refine cR (j+1) ⟨rfl,rfl,rfl,rfl,rfl,rfl,rfl,rfl,rfl,rfl,trivial⟩ [0,0] rfl [0,1] rfl (by omega) (by omega)
   ·obtain rfl:j=4:=by omega
    refine bK<|ao<|ao<|aB<|ag<|bK<|ao<|aB<|ag<|aj<|hy (fun _=>aN rfl rfl (bC (by omega) (by omega)))<|hy (fun _=>aa rfl)<|ai<|al (ρ' :=[(9,_),(23,_),(22,_),(21,_),(20,_),(13,_),(4,_),(10,_),(3,_),(2,_),(0,_)]) ⟨rfl,rfl,rfl,rfl,rfl,rfl,rfl,rfl,rfl,rfl,rfl,trivial⟩<| ?_
    refine ak (fun w m=>m.bQ 0 rfl (show _=aL g3 354 (eh (wl l (i+1)++List.replicate (64-(i+1)) 0))from by rw[BF,wi,hws,hr63])) ?_
    refine cR (i+1) ⟨rfl,rfl,rfl,rfl,trivial⟩ [0,0] rfl [1] rfl (by omega) (by omega)
  ·have hws:wl l (i+1)=wl l i++[mQ (wl l i) i]:=by rw[wl,if_neg (by omega)]
   refine aC<|ag<|ah<|cG [] [(0,some 0),(1,some 0),(2,some 0),(3,some 0),(4,some 0),(5,some 0),(6,some 0),(7,some 0),(8,some 0),(9,some 0)] (by kernel_rfl) (by kernel_rfl) rfl 99<|an (aa rfl)<|an (cw rfl rfl (bC (by omega) (by omega)))<|an (b9 rfl rfl Tryz.underlying354 bJ (show((i-15:Nat):Int)=_ by omega) (by omega))<|ca (fun m=>aw rfl bR ((m.aZ 0 rfl).az (i-15) _ (mF hwl (by omega))))<|an (aa rfl)<|an (cw rfl rfl (bC (by omega) (by omega)))<|an (b9 rfl rfl Tryz.underlying354 bJ (show((i-2:Nat):Int)=_ by omega) (by omega))<|ca (fun m=>aw rfl bR ((m.aZ 0 rfl).az (i-2) _ (mF hwl (by omega))))<|an (ab rfl)<|an (ab rfl)<|br<|al (ρ' :=[(8,_),(7,_),(13,_),(4,_),(10,_),(9,_),(3,_),(2,_),(0,_)]) ⟨rfl,rfl,rfl,rfl,rfl,rfl,rfl,rfl,rfl,trivial⟩<|ag<|cG [6,8,20,22,29] [(0,some 4),(1,some 4),(2,some 4),(3,some 4),(4,some 4),(5,some 0),(7,some 1),(10,some 4),(11,some 4),(14,some 4),(15,some 4),(16,some 4),(17,some 4),(19,some 2),(21,some 3),(24,some 4),(25,some 4),(6,none),(8,none),(9,some 4),(12,some 4),(13,some 4),(18,some 4),(20,none),(22,none),(23,some 4),(26,some 4),(27,some 4),(28,some 4),(29,none)] (by kernel_rfl) (by kernel_rfl) rfl 4<|an (aa rfl)<|an (aa rfl)<|an (cw rfl rfl (bC (by omega) (by omega)))<|an (b9 rfl rfl Tryz.underlying354 bJ (show((i-16:Nat):Int)=_ by omega) (by omega))<|ca (fun m=>aw rfl bR ((m.aZ 0 rfl).az (i-16) _ (mF hwl (by omega))))<|an (aa rfl)<|an (aa rfl)<|an (aa rfl)<|an (mD (k:=3) (b:=8) (by decide) rfl rfl rfl)<|an (aa rfl)<|an (cw rfl rfl (bC (by omega) (by omega)))<|an (b9 rfl rfl Tryz.underlying354 bJ (show((i-7:Nat):Int)=_ by omega) (by omega))<|ca (fun m=>aw rfl bR ((m.aZ 0 rfl).az (i-7) _ (mF hwl (by omega))))<|an (aa rfl)<|an (aa rfl)<|an (aa rfl)<|an (mD (k:=10) (b:=1024) (by decide) rfl rfl rfl)<| ?_
   refine dV (aq rfl Tryz.call296 (vd (by decide) (by decide) (n:=7)) [] rfl [] rfl ?_)
   rintro _ _ _ ⟨rfl,rfl,rfl⟩
   refine⟨(fun _=>wk [0,0] [0] rfl rfl), ?_⟩
   refine dV (aq rfl Tryz.call296 (vd (by decide) (by decide) (n:=18)) [] rfl [] rfl ?_)
   rintro _ _ _ ⟨rfl,rfl,rfl⟩
   refine⟨(fun _=>wk [0,0] [0] rfl rfl), ?_⟩
   refine an (eg rfl rfl)<|an (eg rfl rfl)<|an (dx rfl rfl)<|an (dx rfl rfl)<| ?_
   refine dV (aq rfl Tryz.call296 (vd (by decide) (by decide) (n:=17)) [] rfl [] rfl ?_)
   rintro _ _ _ ⟨rfl,rfl,rfl⟩
   refine⟨(fun _=>wk [0,0] [0] rfl rfl), ?_⟩
   refine dV (aq rfl Tryz.call296 (vd (by decide) (by decide) (n:=19)) [] rfl [] rfl ?_)
   rintro _ _ _ ⟨rfl,rfl,rfl⟩
   refine⟨(fun _=>wk [0,0] [0] rfl rfl), ?_⟩
   refine an (eg rfl rfl)<|an (eg rfl rfl)<|an (yV (dx rfl rfl) ((rfl:_=Wd (mQ (wl l i) i))))<|an (b9 rfl rfl Tryz.underlying354 bJ rfl (by omega))<| ?_
   refine kr (cm 0 rfl rfl rfl bJ rfl (by rw[bq];simp only[List.length_append,List.length_replicate,hwl];omega) ⟨(fun h=>absurd h (by decide)), ?_⟩)
   refine br<|al (ρ' :=[(8,_),(7,_),(13,_),(4,_),(10,_),(9,_),(3,_),(2,_),(0,_)]) ⟨rfl,rfl,rfl,rfl,rfl,rfl,rfl,rfl,rfl,trivial⟩<|ak (X' :=[_,_]) (S' :=[_]) (fun _ m=>m)<|aM<|ag<|aj<|hy (fun _=>aN rfl rfl (bC (by omega) (by omega)))<|hy (fun _=>aa rfl)<|ai<|al (ρ' :=[(9,_),(8,_),(7,_),(13,_),(4,_),(10,_),(3,_),(2,_),(0,_)]) ⟨rfl,rfl,rfl,rfl,rfl,rfl,rfl,rfl,rfl,trivial⟩<| ?_
   refine ak (fun w m=>m.bQ 0 rfl (show _=aL g3 354 (eh (wl l (i+1)++List.replicate (64-(i+1)) 0))from by rw[Nat.zero_add,hr64,wC hwl,wi,hws,hr63])) ?_
   refine cR (i+1) ⟨rfl,rfl,rfl,rfl,trivial⟩ [0,0] rfl [0] rfl (by omega) (by omega)
 ·obtain rfl:i=64:=by omega
  refine bw (fun w m=>m.bQ 0 rfl (show _=aL g3 354 (eh (wl l 64))from by rw[Nat.sub_self];simp)) ?_
  refine bK<|ao<|ao<|aB<|ag<|ah<|aj<|hy (fun m=>yV (a6 rfl Dj wH (by rw[bq,fw]) ((m.aZ 0 rfl).az)) ((rfl:_=Value.agg (eh (wl l 64)).toArray)))<| ?_
  refine cJ (aK 1 rfl rfl rfl wH (by rw[bq,fw]) ia rfl ?_)
  refine ai<|al (ρ' :=[(10,_),(9,_),(3,_),(2,_),(0,_)]) ⟨rfl,rfl,rfl,rfl,rfl,trivial⟩<|ak (X' :=[_,_]) (S' :=[_]) (fun _ m=>m)<|ag<|aX<| ?_
  exact fx trivial rfl rfl Dj wH (by rw[bq,fw]) (fun m=>(m.aZ 0 rfl).az) [] rfl [] rfl ⟨rfl,rfl,rfl⟩
theorem sW(v h:List UInt32)(i:Nat):(fQ v h i).length=v.length:=by simp[fQ]
theorem GN{A:Option Addr}{c:Nat}{l:List UInt8}{h:List UInt32}(hc:64≤c)(hh:h.length=8):cj Tryz.prog 227 [.agg (eh h).toArray,.slice A 64 c] [] [cV 1 A 64 (aR l),eX] (fun v_ X_ S_=>v_=(.agg (eh (ew h l)).toArray)∧X_=[]∧S_=[]):=by
 refine aQ (N:=99) Tryz.func227 rfl rfl (by simp) fun b=> ?_
 refine aY (fun m=>ig (m.rd 0 rfl)) ?_
 rintro⟨hl_r,hA_r⟩
 refine ah<|aj<| ?_
 refine hx (cI rfl (fun g2=> ?_))
 refine aT (fun w m=>m.bQ 0 rfl (show _=aL g2 306 (eh h)from congrArg (aL _ _) (bA _))) ?_
 refine hx (aP vP (fun g4=> ?_))
 refine ai<|ak (X' :=[_,_]) (S' :=[_,_]) (fun _ m=>m)<|ag<|ah<|aj<|hy (fun _=>aa rfl)<| ?_
 refine hx (aq rfl Tryz.call268 (ED (by omega)) [] rfl [0] rfl ?_)
 rintro _ _ _ ⟨rfl,rfl,rfl⟩
 obtain⟨W,hW⟩:∃W,wl l 64=W:=⟨_,rfl⟩
 have hw64:W.length=64:=by rw[←hW];exact fw l 64
 rw[hW]
 refine hx (aP z8 (fun g5=> ?_))
 refine cJ (aK 0 rfl rfl rfl wH (by rw[bq,hw64]) ia rfl ?_)
 refine ai<|al (ρ' :=[(5,_),(4,_),(2,_),(0,_),(1,_)]) ⟨rfl,rfl,rfl,rfl,rfl,trivial⟩<|ak (X' :=[_,_,_]) (S' :=[_,_]) (fun _ m=>m)<|ag<|ah<|aj<|hy (fun m=>yV (a6 rfl qP lP (by rw[bq,hh]) ((m.aZ 2 rfl).az)) ((rfl:_=Value.agg (eh h).toArray)))<| ?_
 refine hx (aP vP (fun g6=> ?_))
 refine cJ (aK 0 rfl rfl rfl lP (by rw[bq,hh]) ia rfl ?_)
 refine ai<|al (ρ' :=[(6,_),(5,_),(4,_),(2,_),(0,_),(1,_)]) ⟨rfl,rfl,rfl,rfl,rfl,rfl,trivial⟩<|ak (X' :=[_,_,_,_]) (S' :=[_,_]) (fun _ m=>m)<|ag<|ah<|ah<|aj<|hy (fun _=>aa rfl)<|ai<|ag<|aI<| ?_
 refine dD (fun i=>64-i) (fun i=>[(16,.int .i64 (i:Nat))]) (fun i=>[aL g6 306 (eh (k4 W h i))]) (fun i=>[]) (fun i=>i≤64) 0 [(6,_),(5,_),(4,_),(2,_),(0,_),(1,_)] ⟨rfl,rfl,rfl,rfl,rfl,rfl,trivial⟩ [0] rfl [] rfl (Nat.zero_le _) ⟨rfl,trivial⟩ (fun i hI=> ?_)
 have hv:=kD (w:=W) hh i
 have hro:fL.length=64:=rfl
 refine ah<|aj<|hy (fun _=>bu rfl rfl)<|ai<|ag<|ah<| ?_
 refine cD rfl (fun hlt=> ?_) (fun hlt=> ?_)
 ·generalize hvd:k4 W h i=v at hv ⊢
  refine aC<|ag<|ah<|aI<|ah<|aj<|hy (fun _=>aa rfl)<|hy (fun _=>ab rfl)<|ai<|al (ρ' :=[(7,_),(17,_),(16,_),(6,_),(5,_),(4,_),(2,_),(0,_),(1,_)]) ⟨rfl,rfl,rfl,rfl,rfl,rfl,rfl,rfl,rfl,trivial⟩<|ag<|ah<|cG [] [(0,some 0),(1,some 0),(2,some 0),(3,some 0),(4,some 0),(5,some 0)] (by kernel_rfl) (by kernel_rfl) rfl 99<|an (b9 rfl rfl Tryz.underlying306 bJ (show((4:Nat):Int)=4 from rfl) (by omega))<|ca (fun m=>aw rfl bR ((m.aZ 0 rfl).az 4 _ (bg (by omega))))<|an (b9 rfl rfl Tryz.underlying306 bJ (show((0:Nat):Int)=0 from rfl) (by omega))<|ca (fun m=>aw rfl bR ((m.aZ 0 rfl).az 0 _ (bg (by omega))))<|an (ab rfl)<|an (ab rfl)<|br<|al (ρ' :=[(9,_),(8,_),(7,_),(17,_),(16,_),(6,_),(5,_),(4,_),(2,_),(0,_),(1,_)]) ⟨rfl,rfl,rfl,rfl,rfl,rfl,rfl,rfl,rfl,rfl,rfl,trivial⟩<|ag<|ah<|cG [3] [(0,some 1),(1,some 1),(2,some 0),(5,some 1),(6,some 1),(7,some 1),(8,some 1),(9,some 1),(10,some 1),(11,some 1),(12,some 1),(13,some 1),(14,some 1),(16,some 1),(17,some 1),(18,some 1),(20,some 1),(21,some 1),(22,some 1),(3,none),(4,some 1),(15,some 1),(19,some 1),(23,some 1),(24,some 1)] (by kernel_rfl) (by kernel_rfl) rfl 99<|an (b9 rfl rfl Tryz.underlying306 bJ (show((7:Nat):Int)=7 from rfl) (by omega))<|ca (fun m=>aw rfl bR ((m.aZ 0 rfl).az 7 _ (bg (by omega))))<|an (aa rfl)<|an (aa rfl)<|an (b9 rfl rfl Tryz.underlying306 bJ (show((5:Nat):Int)=5 from rfl) (by omega))<|ca (fun m=>aw rfl bR ((m.aZ 0 rfl).az 5 _ (bg (by omega))))<|an (jm rfl rfl)<|an (aa rfl)<|an (DE rfl)<|an (b9 rfl rfl Tryz.underlying306 bJ (show((6:Nat):Int)=6 from rfl) (by omega))<|ca (fun m=>aw rfl bR ((m.aZ 0 rfl).az 6 _ (bg (by omega))))<|an (jm rfl rfl)<|an (eg rfl rfl)<|an (aa rfl)<|an (b9 rfl rfl Tryz.underlying354 bJ rfl (by omega))<|ca (fun m=>aw rfl bR ((show Rd _ 1 _ 64 (eh fL)from m.G6 1 rfl).cell (j:=i) (bg (by omega))))<|an (aa rfl)<|an (b9 rfl rfl Tryz.underlying354 bJ rfl (by omega))<|ca (fun m=>aw rfl bR ((m.aZ 1 rfl).az i _ (bg (by omega))))<| ?_
  refine dV (aq rfl Tryz.call269 (wz (by decide) (by decide) (by decide) (n1:=6) (n2:=11) (n3:=25)) [] rfl [] rfl ?_)
  rintro _ _ _ ⟨rfl,rfl,rfl⟩
  refine⟨(fun _=>wk [0,0,0,0] [0,1] rfl rfl), ?_⟩
  refine an (dx rfl rfl)<|an (dx rfl rfl)<|an (dx rfl rfl)<| ?_
  generalize hk:fL.getD i 0=k
  refine an (yV (dx rfl rfl) ((rfl:_=Wd (rt v k (W.getD i 0)))))<|an (ab rfl)<|br<|al (ρ' :=[(10,_),(9,_),(8,_),(7,_),(17,_),(16,_),(6,_),(5,_),(4,_),(2,_),(0,_),(1,_)]) ⟨rfl,rfl,rfl,rfl,rfl,rfl,rfl,rfl,rfl,rfl,rfl,rfl,trivial⟩<|ak (X' :=[_,_,_,_]) (S' :=[_,_]) (fun _ m=>m)<|ag<|ah<|cG [1] [(0,some 0),(2,some 1),(3,some 1),(4,some 1),(5,some 1),(6,some 1),(7,some 1),(8,some 1),(9,some 1),(10,some 1),(11,some 1),(12,some 1),(13,some 1),(14,some 1),(15,some 1),(16,some 1),(1,none),(17,some 1),(18,some 1)] (by kernel_rfl) (by kernel_rfl) rfl 99<|an (aa rfl)<|an (aa rfl)<|an (b9 rfl rfl Tryz.underlying306 bJ (show((1:Nat):Int)=1 from rfl) (by omega))<|ca (fun m=>aw rfl bR ((m.aZ 0 rfl).az 1 _ (bg (by omega))))<|an (jm rfl rfl)<|an (aa rfl)<|an (b9 rfl rfl Tryz.underlying306 bJ (show((2:Nat):Int)=2 from rfl) (by omega))<|ca (fun m=>aw rfl bR ((m.aZ 0 rfl).az 2 _ (bg (by omega))))<|an (jm rfl rfl)<|an (eg rfl rfl)<|an (b9 rfl rfl Tryz.underlying306 bJ (show((1:Nat):Int)=1 from rfl) (by omega))<|ca (fun m=>aw rfl bR ((m.aZ 0 rfl).az 1 _ (bg (by omega))))<|an (b9 rfl rfl Tryz.underlying306 bJ (show((2:Nat):Int)=2 from rfl) (by omega))<|ca (fun m=>aw rfl bR ((m.aZ 0 rfl).az 2 _ (bg (by omega))))<|an (jm rfl rfl)<|an (eg rfl rfl)<| ?_
  refine dV (aq rfl Tryz.call269 (wz (by decide) (by decide) (by decide) (n1:=2) (n2:=13) (n3:=22)) [] rfl [] rfl ?_)
  rintro _ _ _ ⟨rfl,rfl,rfl⟩
  refine⟨(fun _=>wk [0,0,0,0] [0,1] rfl rfl), ?_⟩
  refine an (yV (dx rfl rfl) ((rfl:_=Wd (ru v))))<|an (ab rfl)<|br<|al (ρ' :=[(11,_),(10,_),(9,_),(8,_),(7,_),(17,_),(16,_),(6,_),(5,_),(4,_),(2,_),(0,_),(1,_)]) ⟨rfl,rfl,rfl,rfl,rfl,rfl,rfl,rfl,rfl,rfl,rfl,rfl,rfl,trivial⟩<|ak (X' :=[_,_,_,_]) (S' :=[_,_]) (fun _ m=>m)<|ag<|aj<|hy (fun _=>aa rfl)<|hy (fun _=>aa rfl)<|hy (fun _=>dx rfl rfl)<|hy (fun _=>b9 rfl rfl Tryz.underlying306 bJ (show((0:Nat):Int)=0 from rfl) (by omega))<|hy (fun m=>aw rfl bR ((m.aZ 0 rfl).az 0 _ (bg (by omega))))<|hy (fun _=>b9 rfl rfl Tryz.underlying306 bJ (show((1:Nat):Int)=1 from rfl) (by omega))<|hy (fun m=>aw rfl bR ((m.aZ 0 rfl).az 1 _ (bg (by omega))))<|hy (fun _=>b9 rfl rfl Tryz.underlying306 bJ (show((2:Nat):Int)=2 from rfl) (by omega))<|hy (fun m=>aw rfl bR ((m.aZ 0 rfl).az 2 _ (bg (by omega))))<|hy (fun _=>b9 rfl rfl Tryz.underlying306 bJ (show((3:Nat):Int)=3 from rfl) (by omega))<|hy (fun m=>aw rfl bR ((m.aZ 0 rfl).az 3 _ (bg (by omega))))<|hy (fun _=>aa rfl)<|hy (fun _=>dx rfl rfl)<|hy (fun _=>b9 rfl rfl Tryz.underlying306 bJ (show((4:Nat):Int)=4 from rfl) (by omega))<|hy (fun m=>aw rfl bR ((m.aZ 0 rfl).az 4 _ (bg (by omega))))<|hy (fun _=>b9 rfl rfl Tryz.underlying306 bJ (show((5:Nat):Int)=5 from rfl) (by omega))<|hy (fun m=>aw rfl bR ((m.aZ 0 rfl).az 5 _ (bg (by omega))))<|hy (fun _=>b9 rfl rfl Tryz.underlying306 bJ (show((6:Nat):Int)=6 from rfl) (by omega))<|hy (fun m=>aw rfl bR ((m.aZ 0 rfl).az 6 _ (bg (by omega))))<|hy (fun _=>yV (tG (n:=8) vP (by kernel_rfl) rfl (by kernel_rfl) rfl (by kernel_rfl) (by kernel_rfl) (q7 (l:=[_,_,_,_,_,_,_,_]))) ((rfl:_=Value.agg (eh (GS v k (W.getD i 0))).toArray)))<| ?_
  refine cJ (aK 0 rfl rfl rfl lP rfl ia (by rw[bq,hv]) ?_)
  refine ai<|al (ρ' :=[(11,_),(10,_),(9,_),(8,_),(7,_),(17,_),(16,_),(6,_),(5,_),(4,_),(2,_),(0,_),(1,_)]) ⟨rfl,rfl,rfl,rfl,rfl,rfl,rfl,rfl,rfl,rfl,rfl,rfl,rfl,trivial⟩<|ak (X' :=[_,_,_,_]) (S' :=[_,_]) (fun _ m=>m)<|aM<|ag<|aj<|hy (fun _=>aN rfl rfl (bC (by omega) (by omega)))<|hy (fun _=>aa rfl)<|ai<|al (ρ' :=[(16,_),(11,_),(10,_),(9,_),(8,_),(7,_),(17,_),(6,_),(5,_),(4,_),(2,_),(0,_),(1,_)]) ⟨rfl,rfl,rfl,rfl,rfl,rfl,rfl,rfl,rfl,rfl,rfl,rfl,rfl,trivial⟩<| ?_
  refine ak (fun w m=>m.bQ 0 rfl (show _=aL g6 306 (eh (k4 W h (i+1)))from by rw[←hvd,←hk];rfl)) ?_
  refine cR (i+1) ⟨rfl,rfl,rfl,rfl,rfl,rfl,rfl,trivial⟩ [0,0,0,0] rfl [0,1] rfl (by omega) (by omega)
 ·obtain rfl:i=64:=by omega
  generalize hvv:k4 W h 64=v at hv ⊢
  refine bw (fun w m=>m.bQ 0 rfl (show _=aL g6 306 (eh (fQ v h 0))from by rw[qX])) ?_
  refine bK<|ao<|ao<|aB<|ag<|ah<|ah<|aj<|hy (fun _=>aa rfl)<|ai<|ag<|aI<| ?_
  refine dD (fun j=>8-j) (fun j=>[(86,.int .i64 (j:Nat))]) (fun j=>[aL g6 306 (eh (fQ v h j))]) (fun j=>[]) (fun j=>j≤8) 0 [(17,_),(16,_),(6,_),(5,_),(4,_),(2,_),(0,_),(1,_)] ⟨rfl,rfl,rfl,rfl,rfl,rfl,rfl,rfl,trivial⟩ [0] rfl [] rfl (Nat.zero_le _) ⟨rfl,trivial⟩ (fun j hj8=> ?_)
  have hsl:=sW v h j
  refine ah<|aj<|hy (fun _=>bu rfl rfl)<|ai<|ag<|ah<| ?_
  refine cD rfl (fun hj=> ?_) (fun hj=> ?_)
  ·refine aC<|ag<|ah<|aI<|ah<|aj<|hy (fun _=>aa rfl)<|hy (fun _=>ab rfl)<|ai<|al (ρ' :=[(12,_),(87,_),(86,_),(17,_),(16,_),(6,_),(5,_),(4,_),(2,_),(0,_),(1,_)]) ⟨rfl,rfl,rfl,rfl,rfl,rfl,rfl,rfl,rfl,rfl,rfl,trivial⟩<|ag<|cG [8] [(0,some 0),(1,some 0),(2,some 0),(3,some 0),(4,some 0),(5,some 0),(6,some 0),(7,some 0),(8,none)] (by kernel_rfl) (by kernel_rfl) rfl 0<|an (aa rfl)<|an (b9 rfl rfl Tryz.underlying306 bJ rfl (by omega))<|ca (fun m=>aw rfl bR ((m.aZ 0 rfl).az j _ (bg (by omega))))<|an (aa rfl)<|an (b9 rfl rfl Tryz.underlying306 bJ rfl (by omega))<|ca (fun m=>aw rfl bR ((m.aZ 3 rfl).az j _ (bg (by omega))))<|an (yV (dx rfl rfl) ((rfl:_=Wd (v_ (fQ v h j) j+v_ h j))))<|an (b9 rfl rfl Tryz.underlying306 bJ rfl (by omega))<| ?_
   refine kr (cm 0 rfl rfl rfl bJ rfl (by rw[bq];omega) ⟨(fun h=>absurd h (by decide)), ?_⟩)
   refine br<|al (ρ' :=[(12,_),(87,_),(86,_),(17,_),(16,_),(6,_),(5,_),(4,_),(2,_),(0,_),(1,_)]) ⟨rfl,rfl,rfl,rfl,rfl,rfl,rfl,rfl,rfl,rfl,rfl,trivial⟩<|ak (X' :=[_,_,_,_]) (S' :=[_,_]) (fun _ m=>m)<|aM<|ag<|aj<|hy (fun _=>aN rfl rfl (bC (by omega) (by omega)))<|hy (fun _=>aa rfl)<|ai<|al (ρ' :=[(86,_),(12,_),(87,_),(17,_),(16,_),(6,_),(5,_),(4,_),(2,_),(0,_),(1,_)]) ⟨rfl,rfl,rfl,rfl,rfl,rfl,rfl,rfl,rfl,rfl,rfl,trivial⟩<| ?_
   refine ak (fun w m=>m.bQ 0 rfl (show _=aL g6 306 (eh (fQ v h (j+1)))from by rw[Nat.zero_add,wj,qI (by omega)])) ?_
   refine cR (j+1) ⟨rfl,rfl,rfl,rfl,rfl,rfl,rfl,rfl,rfl,trivial⟩ [0,0,0,0] rfl [0,1] rfl (by omega) (by omega)
  ·obtain rfl:j=8:=by omega
   have hB:fQ v h 8=ew h l:=by rw[ew,hW,hvv]
   rw[hB]
   have hbl:=jg hh l
   refine bK<|ao<|ao<|aB<|ag<|ah<|aj<|hy (fun m=>yV (a6 rfl qP lP (by rw[bq,hbl]) ((m.aZ 0 rfl).az)) ((rfl:_=Value.agg (eh (ew h l)).toArray)))<| ?_
   refine cJ (aK 2 rfl rfl rfl lP (by rw[bq,hbl]) ia rfl ?_)
   refine ai<|al (ρ' :=[(87,_),(86,_),(17,_),(16,_),(6,_),(5,_),(4,_),(2,_),(0,_),(1,_)]) ⟨rfl,rfl,rfl,rfl,rfl,rfl,rfl,rfl,rfl,rfl,trivial⟩<|ak (X' :=[_,_,_,_]) (S' :=[_,_]) (fun _ m=>m)<|ag<|aX<| ?_
   exact fx trivial rfl rfl qP lP (by rw[bq,hbl]) (fun m=>(m.aZ 0 rfl).az) [] rfl [] rfl ⟨rfl,rfl,rfl⟩
end Go.Proofs.YtmibdabdlgmafaaGreatDoor
end
section
set_option maxRecDepth 100000
namespace Go.Proofs.YtmibdabdlgmafaaGreatDoor
open Go.Eng Go.Hx Go.ChangeShapes Go.WideShapes Go.ChangeAt Go.WideMaps Go.WideElems Go.RowKit
theorem Ea : Tryz.prog.globalNamed "lighterage/sha.roots" = some 1 := by kernel_rfl
theorem EI:(Tryz.prog.globals[1]?).map (·.type)=some 354:=by kernel_rfl
theorem vb:(Rows.laid_lighterage_sha_roots:DataW Unit)= .agg (fL.map fun x=>.lit (.int .u32 (x.toNat:Int))):=by kernel_rfl
theorem zK (os : Os) (args : Array Value) : laidMetH Tryz.prog [("lighterage/sha.roots", Rows.laid_lighterage_sha_roots)] ((World.doorLaid Tryz.prog 400 os).forCall (fun _ _ => 0) ⟨#[], args, []⟩).memory :=
  laidMetH_of_parts3 (fuel:=8) (laidMet_of_run' 8 (by kernel_rfl) (by kernel_rfl)) (by kernel_rfl) (by kernel_rfl)
theorem qC {W : World} (h : laidMetH Tryz.prog [("lighterage/sha.roots", Rows.laid_lighterage_sha_roots)] W) : eX.holds W := by
  rw[MakeChecks.laidMetH_plain _ _ _ (by kernel_rfl)]at h
  obtain⟨ps,⟨g0,t0,cs0,f0,p0,q0,hg0,ht0,hv0,hd0,_,_⟩,_,_⟩:=h
  obtain rfl:=Option.some.inj (Ea.symm.trans hg0)
  obtain rfl:=Option.some.inj (EI.symm.trans ht0)
  rw[vb]at hd0
  obtain⟨xs,m1,rfl,hx1,hlen,hn,hel⟩:=DataW.trod_array Tryz.underlying354 hd0
  have c3:Tryz.prog.cellsOf 166=1:=by kernel_rfl
  simp only[Prod.mk.injEq,DataW.agg.injEq]at hx1
  refine⟨by rw[bq];rfl,fun _=>by simp,fun j u hu=> ?_⟩
  have hj:j<64:=by
    obtain⟨h1,_⟩:=List.getElem?_eq_some_iff.1 hu
    rw[bq]at h1
    exact h1
  have h0:=hel j hj
  have hxj:(xs.map (·.1))[j]? =(fL.map fun x=>DataW.lit (Lit.int .u32 (x.toNat:Int)))[j]? :=by rw[←hx1.1]
  obtain⟨y,hy⟩:∃y,xs[j]? =some y:=⟨_,List.getElem?_eq_getElem (by omega)⟩
  rw[hy]at h0
  obtain⟨n,e1,e2,_⟩:=DataW.trod_int Tryz.underlying166 h0
  rw[List.getElem?_map,hy,List.getElem?_map]at hxj
  rw[eh,List.getElem?_map]at hu
  cases hr:fL[j]? with
  |none=>rw[hr]at hu;cases hu
  |some r=>
    rw[hr]at hu hxj
    rw[e2]at hxj
    have hn2:n=(r.toNat:Int):=by simpa using hxj
    have hu2:u= .int .u32 (r.toNat:Int):=by simpa using hu.symm
    have h5:=World.var?_cell hg0 hv0 j
    rw[c3,Nat.mul_one]at e1
    have h6:cs0[j]? =some (.int .u32 n):=by
      have h7:(List.take 1 (List.drop j cs0.toList))[0]? =some (.int .u32 n):=by rw[e1];rfl
      rw[List.getElem?_take,if_pos (by decide),List.getElem?_drop,Nat.add_zero]at h7
      simpa using h7
    show W.cell? ((Option.getD (some _) d0).add j)=some u
    rw[hu2,←hn2,←h6,←h5]
    have e:(⟨1,0,none⟩:Addr).add j=⟨1,j,none⟩:=by simp[Addr.add];omega
    exact congrArg W.cell? e
end Go.Proofs.YtmibdabdlgmafaaGreatDoor
end
section
namespace Go.Hx
open Go.Eng
abbrev cb:=Lib.compareBytes
theorem qk(a b:UInt8):a<b∨a=b∨b<a:=by
 rcases Nat.lt_trichotomy a.toNat b.toNat with h|h|h
 ·exact .inl h
 ·exact .inr (.inl (UInt8.toNat_inj.1 h))
 ·exact .inr (.inr h)
theorem o4:∀a:List UInt8,cb a a=0
 | []=>rfl
 |x::a=>by simp[cb,Lib.compareBytes,UInt8.lt_irrefl];exact o4 a
theorem iP(x y:UInt8)(a b:List UInt8):cb (x::a) (y::b)=if x<y then-1 else if y<x then 1 else cb a b:=rfl
theorem jw{x y:UInt8}(h:x<y):¬y<x:=by
 have:x.toNat<y.toNat:=h
 intro h'
 have:y.toNat<x.toNat:=h'
 omega
theorem gb:∀a b:List UInt8,cb b a=-cb a b
 | [],[]=>rfl
 | [],_::_=>rfl
 |_::_,[]=>rfl
 |x::a,y::b=>by
  rw[iP,iP]
  have ih:=gb a b
  rcases qk x y with h|h|h
  ·rw[if_neg (jw h),if_pos h,if_pos h];rfl
  ·subst h;simp[UInt8.lt_irrefl,ih]
  ·rw[if_pos h,if_neg (jw h),if_pos h]
theorem pa:∀a b:List UInt8,cb a b=0→a=b
 | [],[],_=>rfl
 | [],_::_,h=>by simp[cb,Lib.compareBytes]at h
 |_::_,[],h=>by simp[cb,Lib.compareBytes]at h
 |x::a,y::b,h=>by
  rw[iP]at h
  rcases qk x y with h1|h1|h1
  ·rw[if_pos h1]at h;omega
  ·subst h1
   simp only[UInt8.lt_irrefl,if_false]at h
   rw[pa a b h]
  ·rw[if_neg (jw h1),if_pos h1]at h;omega
theorem mZ:∀a b c:List UInt8,cb a b≤0→cb b c≤0→cb a c≤0
 | [],b,[],_,_=>by simp[cb,Lib.compareBytes]
 | [],b,_::_,_,_=>by simp[cb,Lib.compareBytes]
 |x::a,[],c,h,_=>by simp[cb,Lib.compareBytes]at h
 |x::a,y::b,[],_,h=>by simp[cb,Lib.compareBytes]at h
 |x::a,y::b,z::c,h,h' =>by
  rw[iP]at h h' ⊢
  rcases qk x y with h1|h1|h1
  ·rcases qk y z with h2|h2|h2
   ·have:x<z:=by
     have a1:x.toNat<y.toNat:=h1
     have a2:y.toNat<z.toNat:=h2
     show x.toNat<z.toNat
     omega
    rw[if_pos this];decide
   ·subst h2;rw[if_pos h1];decide
   ·rw[if_neg (jw h2),if_pos h2]at h';omega
  ·subst h1
   simp only[UInt8.lt_irrefl,if_false]at h
   rcases qk x z with h2|h2|h2
   ·rw[if_pos h2];decide
   ·subst h2
    simp only[UInt8.lt_irrefl,if_false]at h' ⊢
    exact mZ a b c h h'
   ·rw[if_neg (jw h2),if_pos h2]at h';omega
  ·rw[if_neg (jw h1),if_pos h1]at h;omega
theorem oZ:∀i j:Nat,i<16→j<16→(ki.getD i 0<ki.getD j 0↔i<j):=by
 have:∀i,i<16→∀j,j<16→(ki.getD i 0<ki.getD j 0↔i<j):=by decide+kernel
 exact fun i j hi hj=>this i hi j hj
theorem wu:∀a b:List UInt8,cb (b4 a) (b4 b)=cb a b
 | [],[]=>rfl
 | [],y::b=>by simp[b4,pk,cb,Lib.compareBytes]
 |x::a,[]=>by simp[b4,pk,cb,Lib.compareBytes]
 |x::a,y::b=>by
  have e:∀(a:UInt8) (r:List UInt8),b4 (a::r)=ki.getD (a.toNat/16) 0::ki.getD (a.toNat % 16) 0::b4 r:=by intro a r;simp[b4,pk]
  have hx:=x.toNat_lt
  have hy:=y.toNat_lt
  rw[e,e,iP,iP,iP,wu a b]
  have l1:=oZ (x.toNat/16) (y.toNat/16) (by omega) (by omega)
  have l2:=oZ (y.toNat/16) (x.toNat/16) (by omega) (by omega)
  have l3:=oZ (x.toNat % 16) (y.toNat % 16) (by omega) (by omega)
  have l4:=oZ (y.toNat % 16) (x.toNat % 16) (by omega) (by omega)
  have m1:(x<y)↔x.toNat<y.toNat:=Iff.rfl
  have m2:(y<x)↔y.toNat<x.toNat:=Iff.rfl
  simp only[l1,l2,l3,l4,m1,m2]
  split
  ·rw[if_pos (by omega)]
  ·split
   ·rw[if_neg (by omega),if_pos (by omega)]
   ·split
    ·rw[if_pos (by omega)]
    ·split
     ·rw[if_neg (by omega),if_pos (by omega)]
     ·rw[if_neg (by omega),if_neg (by omega)]
theorem qR{P:Program}{w:World}{A:Option Addr}{n c:Nat}{l:List UInt8}(h:Rd w 1 A n (aR l)):(Extern.Bytes.bytesOf (.slice A n c)).run P w= .ok (strOf l) w:=by
 have hl:l.length=n:=by have:=h.1;rw[ay]at this;omega
 cases A with
 |none=>
  have:l=[]:=by
   rcases Nat.eq_zero_or_pos n with h0|h0
   ·exact List.eq_nil_of_length_eq_zero (by omega)
   ·exact absurd rfl (h.2.1 h0)
  subst this
  rfl
 |some a=>
  have hr:=Lib.run_loadBytesX (P:=P) (w:=w) (l.map fun b=>((b.toNat:Nat):Int)) a .empty (fun j x hx=>by
   rw[List.getElem?_map,Option.map_eq_some_iff]at hx
   obtain⟨u,hu,rfl⟩:=hx
   exact h.2.2 j (B8 u) (by simp[aR,List.getElem?_map,hu]))
  have e:Lib.bytesOf (l.map fun b=>((b.toNat:Nat):Int))=l:=by
   simp only[Lib.bytesOf,List.map_map]
   conv=>rhs;rw[←List.map_id l]
   apply List.map_congr_left
   intro b _
   simp
  rw[e,List.length_map,hl]at hr
  simp only[Extern.Bytes.bytesOf]
  rw[hr]
  simp[strOf]
theorem uv{P:Program}{w:World}{A A' :Option Addr}{n c n' c' :Nat}{l l' :List UInt8}(h:Rd w 1 A n (aR l))(h' :Rd w 1 A' n' (aR l')):(Extern.BytealgCompare.compare #[.slice A n c,.slice A' n' c']).run P w= .ok (.int .i64 (cb l l')) w:=by
 change Sem.run P (do pure (goInt (Extern.BytealgCompare.cmp (←Extern.Bytes.bytesOf (.slice A n c)) (←Extern.Bytes.bytesOf (.slice A' n' c'))))) w=_
 simp only[Sem.run_bind,Sem.run_pure,Result.andThen,qR h,qR h']
 rw[Lib.cmp_eq]
 rfl
end Go.Hx
end
section
set_option maxRecDepth 20000
namespace Go.Proofs.YtmibdabdlgmafaaGreatDoor
open Go.Eng Go.Hx
theorem HY(A:Option Addr)(n c:Nat)(l:List UInt8)(m:Nat)(w:World)(hr:Rd w 1 A n (aR l))(hc:n≤c)(hn:n≤140737488351232):
  Calls Tryz.prog 32 #[.slice A n c,.int .i64 (m:Int)] w fun e w' =>∃v,e= .returned v∧Go.Eng.Own w' w.heap.size 5 1 v (min n m) (aR (l.take m))∧Fr No w w' :=by
 have hl:l.length=n:=by have:=hr.1;rw[ay]at this;omega
 have hrd:Rd w 1 A (min n m) (aR (l.take m)):=by
  have:=hr.take (k:=min n m) (by omega)
  have e:(aR l).take (min n m*1)=aR (l.take m):=by
   rw[aR,aR,←List.map_take,Nat.mul_one]
   congr 1
   by_cases h:m≤n
   ·congr 1;omega
   ·rw[List.take_of_length_le (by omega),List.take_of_length_le (by omega)]
  rw[e]at this
  exact this
 refine enter (N:=14) Tryz.func32 rfl rfl (by simp) ?_
 refine ba<|bm<|nq (ab rfl)<|bl<|aJ<|ba<|bm<|nq (ab rfl)<|bl<|aJ<|ba<|bm<|nq (aa rfl)<|nq (aa rfl)<|nq (aa rfl)<|nq (aU rfl Tryz.underlying27)<|nq (aa rfl)<|nq (wa rfl rfl)<|nq (nY rfl rfl Tryz.underlying27 ek (show((min n m:Nat):Int)=_ by omega) ((by omega)))<| ?_
 refine nx (lN rfl rfl Tryz.underlying27 Tryz.underlying27 (by exact .inl rfl) fb rfl (Own.nil w w.heap.size _ 1) (Src.b7 hrd) aS (by unfold maxLen;omega) (by omega) (by omega) fun v w1 ho hf hv=> ?_)
 refine nq (ab rfl)<|bl<|bV (ae (t:=4) rfl<|ae (t:=5) rfl<|ae (t:=0) rfl<|ae (t:=1) rfl<|aF)<|aJ<|e8<| ?_
 refine gz trivial rfl rfl ⟨v,rfl, ?_,hf.mono (fun _ _ e=>e.elim)⟩
 simpa using ho
def cU(n m:Int):Int:=(if n<0 then-(n+1)else n) % m
theorem nC(n m:Int)(hm:0<m):0≤cU n m∧cU n m<m:=⟨Int.emod_nonneg _ (by omega),Int.emod_lt_of_pos _ hm⟩
theorem AD(n m:Int)(w:World)(h1:-9223372036854775808≤n)(h2:n≤9223372036854775807)(hm:0<m):
  Calls Tryz.prog 16 #[.int .i64 n,.int .i64 m] w fun e w' =>e= .returned (.int .i64 (cU n m))∧w=w' :=by
 refine enter (N:=13) Tryz.func16 rfl rfl (by simp) ?_
 refine ba<|bm<|nq (ab rfl)<|bl<|aJ<|ba<|ba<|bm<|nq (aa rfl)<|nq (bu rfl rfl)<|bl<|bV (ae (t:=6) rfl<|ae (t:=4) rfl<|ae (t:=0) rfl<|ae (t:=1) rfl<|aF)<|aJ<| ?_
 refine sU rfl (fun h=> ?_) (fun h=> ?_)
 ·refine bm<|nq (aa rfl)<|nq (aN rfl rfl (bC (by omega) (by omega)))<|nq (xe rfl (bC (by omega) (by omega)))<|nq (ab rfl)<|bl<|bV (ae (t:=0) rfl<|ae (t:=6) rfl<|ae (t:=4) rfl<|ae (t:=1) rfl<|aF)<|aJ<|ba<|bm<|nq (aa rfl)<|nq (aa rfl)<|nq (gU rfl rfl (by omega) (by omega))<|nq (ab rfl)<|bl<|bV (ae (t:=4) rfl<|ae (t:=0) rfl<|ae (t:=6) rfl<|ae (t:=1) rfl<|aF)<|aJ<|e8<| ?_
  refine gz trivial rfl rfl ⟨?_,rfl⟩
  simp only[cU,if_pos h]
 ·refine fI<|aJ<|ba<|bm<|nq (aa rfl)<|nq (aa rfl)<|nq (gU rfl rfl (by omega) (by omega))<|nq (ab rfl)<|bl<|bV (ae (t:=4) rfl<|ae (t:=6) rfl<|ae (t:=0) rfl<|ae (t:=1) rfl<|aF)<|aJ<|e8<| ?_
  refine gz trivial rfl rfl ⟨?_,rfl⟩
  simp only[cU,if_neg h]
theorem sF(A:Option Addr)(n c:Nat)(l:List UInt8)(A' :Option Addr)(n' c' :Nat)(l' :List UInt8)(w:World)(h:Rd w 1 A n (aR l))(h' :Rd w 1 A' n' (aR l')):
  Calls Tryz.prog 208 #[.slice A n c,.slice A' n' c'] w fun e w' =>e= .returned (.int .i64 (cb l l'))∧w=w' :=by
 refine enter (N:=8) Tryz.func208 rfl rfl (by simp) ?_
 refine ba<|bm<|nq (ab rfl)<|bl<|aJ<|ba<|bm<|nq (aa rfl)<|nq (aa rfl)<| ?_
 refine nq (wR rfl Tryz.func256 (by kernel_rfl) (by kernel_rfl) (by kernel_rfl) (show _=some Extern.BytealgCompare.compare by kernel_rfl) (uv h h')) ?_
 refine nq (ab rfl)<|bl<|bV (ae (t:=4) rfl<|ae (t:=0) rfl<|ae (t:=1) rfl<|aF)<|aJ<|e8<| ?_
 exact gz trivial rfl rfl ⟨rfl,rfl⟩
theorem Az:(Value.agg (aR (List.replicate 32 0)).toArray).cells.toList=aR (List.replicate 32 0):=rfl
theorem bytes(a:List UInt8)(w:World)(ha:a.length=32):
  Calls Tryz.prog 183 #[.agg (aR a).toArray] w fun e w' =>∃v,e= .returned v∧Go.Eng.Own w' w.heap.size 5 1 v 32 (aR a)∧Fr No w w' :=by
 refine enter (N:=16) Tryz.func183 rfl rfl (by simp) ?_
 refine ba<|bm<| ?_
 refine nx (tB rfl fun g1 w1 hg1 hf1 hb1=> ?_)
 rw[bA]at hb1
 refine nq (ab rfl)<|bl<|aJ<|ba<|bm<|nq (ab rfl)<|bl<|aJ<|ba<|ba<|bm<|nq (ab rfl)<|bl<|aJ<|dr<| ?_
 refine sN (fun k _=>32-k) (fun k v=>[(1,.pointer (some ⟨g1,0,none⟩)),(3,v),(4,.int .i64 (k:Nat))]) (fun k v w' =>k≤32∧Go.Eng.Own w' w1.heap.size 5 1 v k (aR (a.take k))∧Fr No w1 w') 0 (.slice none 0 0) (⟨Nat.zero_le _,Own.nil w1 w1.heap.size _ 1,Fr.refl _ _⟩) (ae (t:=1) rfl<|ae (t:=3) rfl<|ae (t:=4) rfl<|aF) (fun k v w2 ⟨hk,ho,hf⟩=> ?_)
 refine ba<|ba<|bm<|nq (aa rfl)<|nq (bu rfl rfl)<|bl<|bV (ae (t:=6) rfl<|ae (t:=1) rfl<|ae (t:=3) rfl<|ae (t:=4) rfl<|aF)<|aJ<| ?_
 refine sU rfl (fun h=> ?_) (fun h=> ?_)
 ·have ga:=bM (l:=a) (i:=k) (by omega)
  refine fI<|aJ<|ba<|dr<|bm<|nq (aa rfl)<|nq (aa rfl)<|nq (b9 rfl rfl Tryz.underlying53 ek rfl (by omega))<|nq (aw rfl jL ((hb1.qA hf).az _ _ ga))<| ?_
  refine nx (oo Tryz.underlying27 fb rfl rfl rfl (by simp[Value.cells,B8]) (by decide) (by decide) fun g w3 hg hf3 hb3=> ?_)
  refine nx (lN rfl rfl Tryz.underlying27 Tryz.underlying27 (by exact .inl rfl) fb rfl (ho.qA hf3) (Src.gP hb3 rfl) (aS (l:=[_])) (by unfold maxLen;omega) (by omega) (hf.dE hf3).size fun v4 w4 ho4 hf4 hv4=> ?_)
  refine nq (ab rfl)<|bl<|bV (ae (t:=3) rfl<|ae (t:=6) rfl<|ae (t:=1) rfl<|ae (t:=4) rfl<|aF)<|gg<|aJ<|bm<|nq (aa rfl)<|nq (aN rfl rfl (bC (by omega) (by omega)))<|nq (ab rfl)<|bl<|bV (ae (t:=4) rfl<|ae (t:=3) rfl<|ae (t:=6) rfl<|ae (t:=1) rfl<|aF)<| ?_
  refine pU (k+1) v4 (ae (t:=1) rfl<|ae (t:=3) rfl<|ae (t:=4) rfl<|aF) (⟨by omega,by rw[eU (by omega),bx];exact ho4,(hf.dE hf3).new hf4 (fun i hi=>(ho.from hi).1)⟩) (by omega)
 ·obtain rfl:k=32:=by omega
  refine kM<|cf<|cf<|dw<|aJ<|ba<|bm<|nq (aa rfl)<|nq (ab rfl)<|bl<|bV (ae (t:=2) rfl<|ae (t:=6) rfl<|ae (t:=1) rfl<|ae (t:=3) rfl<|ae (t:=4) rfl<|aF)<|aJ<|e8<| ?_
  rw[List.take_of_length_le (by omega)]at ho
  exact gz trivial rfl rfl ⟨v,rfl,ho.wide hf1.size,hf1.dE hf⟩
end Go.Proofs.YtmibdabdlgmafaaGreatDoor
end
section
set_option maxRecDepth 20000
namespace Go.Proofs.YtmibdabdlgmafaaGreatDoor
open Go.Eng Go.Hx
theorem AI{P:Program}{Q:Exit→Act→World→Prop}{N:Nat}{D:List Deferred}{ρ:Env}{w:World}{x:Operand}{ty t:TypeId}{v:Value}{K:Value→World→Prop}(hx:ev ρ x=some v)(k:∀g w',w.heap.size≤g→Fr No w w' →fE w' g t v.cells.toList→w' =w.alloc (.cells v.cells t)→K (.pointer (some ⟨g,0,none⟩)) w'):XW P Q N D ρ w (.box t x) ty K:=
 cS (w' :=w.alloc (.cells v.cells t)) (fun a _ _ _ _ ha=>by simp[execOp,ha.eval hx,Instr.box,newVar,newRow])
  (k _ _ (Nat.le_refl _) (Fr.alloc w _) (by have:=fE.new w t v.cells.toList;simpa using this) rfl)
theorem y7(a b:List UInt8)(w:World)(ha:a.length=32)(hb:b.length=32):
  Calls Tryz.prog 148 #[.agg (aR a).toArray,.agg (aR b).toArray] w fun e w' =>e= .returned (.int .i64 (cb a b))∧∃q os,w' =Go.Sort.grow (w.drewN q) os:=by
 refine enter (N:=8) Tryz.func148 rfl rfl (by simp) ?_
 refine ba<|bm<| ?_
 refine nx (AI rfl fun g1 w1 hg1 hf1 hb1 hw1=> ?_)
 refine nx (AI rfl fun g2 w2 hg2 hf2 hb2 hw2=> ?_)
 rw[bA]at hb1 hb2
 refine nq (ab rfl)<|bl<|aJ<|ba<| ?_
 refine Bt [(0,false),(1,false),(2,true),(3,false)] (by kernel_rfl) (by kernel_rfl) rfl (fun w' =>Fr No w2 w' ∧∃q,w' =w2.drewN q) (⟨Fr.drew _,1,rfl⟩) (fun w3 hf3 hS3=> ?_)
 refine sq (fun w_ hS_=>rZ rfl Tryz.underlying53 ek)<|sq (fun w_ hS_=>rZ rfl Tryz.underlying53 ek)<| ?_
 refine sx (eY rfl Tryz.call208 (sF _ _ _ a _ _ _ b _ (Rd.gP ((hb1.qA hf2).qA hf3) (by rw[ay];omega)) (Rd.gP (hb2.qA hf3) (by rw[ay];omega))) ?_)
 rintro e_ w4 ⟨rfl,rfl⟩
 refine⟨_,rfl, ?_⟩
 refine⟨hS3, ?_⟩
 refine sq (fun w_ hS_=>ab rfl)<|send<|bV (ae (t:=4) rfl<|ae (t:=3) rfl<|ae (t:=2) rfl<|ae (t:=0) rfl<|ae (t:=1) rfl<|aF)<|aJ<|e8<| ?_
 obtain⟨_,q,rfl⟩:=hS3
 exact gz trivial rfl rfl ⟨rfl,q,_,by rw[hw2,hw1,Go.Sort.alloc_eq_grow,Go.Sort.alloc_eq_grow,Go.Sort.grow_grow];rfl⟩
end Go.Proofs.YtmibdabdlgmafaaGreatDoor
end
section
namespace Go.Proofs
open Go.Shelf
def Tryz.x5:Go.Shelf.Ren:=⟨fun|6=>147|15=>207|14=>206|28=>254|29=>255|20=>246|21=>247|22=>248|23=>249|24=>250|25=>251|26=>252|27=>253|46=>286|47=>287|48=>288|49=>289|50=>290|57=>306|n=>n,fun|22=>33|24=>53|25=>228|3=>3|39=>263|0=>0|53=>166|55=>310|4=>4|46=>339|45=>338|50=>343|5=>5|9=>9|66=>376|70=>380|76=>391|77=>324|n=>n,fun|n=>n⟩
theorem Tryz.C5:Go.Proofs.SlLaysF0.n6 Tryz.prog Tryz.x5:={
 mixed:=by kernel_rfl
 f6:=⟨Tryz.f147.name,by decide,Tryz.func147.trans (congrArg some (by kernel_rfl))⟩
 f14:=⟨Tryz.f206.name,by decide,Tryz.func206.trans (congrArg some (by kernel_rfl))⟩
 f15:=Tryz.func207.trans (congrArg some (by kernel_rfl))
 f20:=⟨Tryz.f246.name,by decide,Tryz.func246.trans (congrArg some (by kernel_rfl))⟩
 f21:=⟨Tryz.f247.name,by decide,Tryz.func247.trans (congrArg some (by kernel_rfl))⟩
 f22:=⟨Tryz.f248.name,by decide,Tryz.func248.trans (congrArg some (by kernel_rfl))⟩
 f23:=⟨Tryz.f249.name,by decide,Tryz.func249.trans (congrArg some (by kernel_rfl))⟩
 f24:=⟨Tryz.f250.name,by decide,Tryz.func250.trans (congrArg some (by kernel_rfl))⟩
 f25:=⟨Tryz.f251.name,by decide,Tryz.func251.trans (congrArg some (by kernel_rfl))⟩
 f26:=⟨Tryz.f252.name,by decide,Tryz.func252.trans (congrArg some (by kernel_rfl))⟩
 f27:=⟨Tryz.f253.name,by decide,Tryz.func253.trans (congrArg some (by kernel_rfl))⟩
 f28:=Tryz.func254.trans (congrArg some (by kernel_rfl))
 f29:=Tryz.func255.trans (congrArg some (by kernel_rfl))
 f46:=⟨Tryz.f286.name,by decide,Tryz.func286.trans (congrArg some (by kernel_rfl))⟩
 f47:=Tryz.func287.trans (congrArg some (by kernel_rfl))
 f48:=Tryz.func288.trans (congrArg some (by kernel_rfl))
 f49:=⟨Tryz.f289.name,by decide,Tryz.func289.trans (congrArg some (by kernel_rfl))⟩
 f50:=⟨Tryz.f290.name,by decide,Tryz.func290.trans (congrArg some (by kernel_rfl))⟩
 f57:=⟨Tryz.f306.name,by decide,Tryz.func306.trans (congrArg some (by kernel_rfl))⟩
 t0:=Tryz.underlying0
 a0:=Tryz.isAgg0
 z0:=Tryz.sizeOf0
 v0:=Tryz.zeroValue0
 t3:=Tryz.underlying3
 a3:=Tryz.isAgg3
 z3:=Tryz.sizeOf3
 v3:=Tryz.zeroValue3
 t4:=Tryz.underlying4
 a4:=Tryz.isAgg4
 z4:=Tryz.sizeOf4
 v4:=Tryz.zeroValue4
 t5:=Tryz.underlying5
 a5:=Tryz.isAgg5
 z5:=Tryz.sizeOf5
 v5:=Tryz.zeroValue5
 t9:=Tryz.underlying9
 a9:=Tryz.isAgg9
 z9:=Tryz.sizeOf9
 v9:=Tryz.zeroValue9
 t22:=Tryz.underlying33
 a22:=Tryz.isAgg33
 z22:=Tryz.sizeOf33
 v22:=Tryz.zeroValue33
 t25:=Tryz.underlying228
 a25:=Tryz.isAgg228
 z25:=Tryz.sizeOf228
 v25:=Tryz.zeroValue228
 t39:=Tryz.underlying263
 a39:=Tryz.isAgg263
 z39:=Tryz.sizeOf263
 v39:=Tryz.zeroValue263
 t45:=Tryz.underlying338
 a45:=Tryz.isAgg338
 z45:=Tryz.sizeOf338
 v45:=Tryz.zeroValue338
 t46:=Tryz.underlying339
 a46:=Tryz.isAgg339
 z46:=Tryz.sizeOf339
 v46:=Tryz.zeroValue339
 t50:=Tryz.underlying343
 a50:=Tryz.isAgg343
 z50:=Tryz.sizeOf343
 v50:=Tryz.zeroValue343
 t53:=Tryz.underlying166
 a53:=Tryz.isAgg166
 z53:=Tryz.sizeOf166
 v53:=Tryz.zeroValue166
 t55:=Tryz.underlying310
 a55:=Tryz.isAgg310
 z55:=Tryz.sizeOf310
 v55:=Tryz.zeroValue310
 t66:=Tryz.underlying376
 a66:=Tryz.isAgg376
 z66:=Tryz.sizeOf376
 v66:=Tryz.zeroValue376
 t70:=Tryz.underlying380
 a70:=Tryz.isAgg380
 z70:=Tryz.sizeOf380
 v70:=Tryz.zeroValue380
 t76:=Tryz.underlying391
 a76:=Tryz.isAgg391
 z76:=Tryz.sizeOf391
 v76:=Tryz.zeroValue391
 t77:=Tryz.underlying324
 a77:=Tryz.isAgg324
 z77:=Tryz.sizeOf324
 v77:=Tryz.zeroValue324}
end Go.Proofs
end
section
namespace Go.Hx
open Go.Eng
abbrev nr(ds:List (List UInt8)):Prop:=∀d∈ds,d.length=32
def eK:List (List UInt8)→List UInt8→List (List UInt8)
 | [],d=>[d]
 |a::r,d=>if cb a d<0 then a::eK r d else if a=d then a::r else d::a::r
theorem wF:∀(ds:List (List UInt8)) (d:List UInt8) (k:Nat),k≤ds.length→(∀i,i<k→cb (ds.getD i []) d<0)→(k<ds.length→¬cb (ds.getD k []) d<0)→
  eK ds d=if k<ds.length∧ds.getD k []=d then ds else ds.take k++[d]++ds.drop k
 | [],d,k,hk,_,_=>by
  obtain rfl:k=0:=by simpa using hk
  simp[eK]
 |a::r,d,0,_,_,h=>by
  have h0:=h (by simp)
  simp only[List.getD_cons_zero]at h0
  simp only[eK,if_neg h0,List.getD_cons_zero,List.take_zero,List.nil_append,List.drop_zero,List.singleton_append,List.length_cons,Nat.zero_lt_succ,true_and]
 |a::r,d,k+1,hk,h1,h2=>by
  have ha:=h1 0 (by omega)
  simp only[List.getD_cons_zero]at ha
  have ih:=wF r d k (by simpa using hk) (fun i hi=>by have:=h1 (i+1) (by omega);simpa using this) (fun hl=>by have:=h2 (by simpa using hl);simpa using this)
  simp only[eK,if_pos ha,ih,List.getD_cons_succ,List.length_cons,Nat.succ_lt_succ_iff,List.take_succ_cons,List.drop_succ_cons,List.cons_append]
  split <;> rfl
theorem tl(ds:List (List UInt8))(d:List UInt8):ds.length≤(eK ds d).length∧(eK ds d).length≤ds.length+1:=by
 induction ds with
 |nil=>simp[eK]
 |cons a r ih=>
  simp only[eK]
  split
  ·simp only[List.length_cons];omega
  ·split <;> simp
theorem zW{ds:List (List UInt8)}{d:List UInt8}(h:nr ds)(hd:d.length=32):nr (eK ds d):=by
 induction ds with
 |nil=>intro x hx;simp[eK]at hx;subst hx;exact hd
 |cons a r ih=>
  have ih' :=ih (fun x hx=>h x (List.mem_cons_of_mem _ hx))
  have ha:=h a (List.mem_cons_self ..)
  intro x hx
  simp only[eK]at hx
  split at hx
  ·rcases List.mem_cons.1 hx with rfl|hx
   ·exact ha
   ·exact ih' x hx
  ·split at hx
   ·exact h x hx
   ·rcases List.mem_cons.1 hx with rfl|hx
    ·exact hd
    ·exact h x hx
end Go.Hx
end
section
namespace Go.Hx
open Go.Eng
def de(l:List (List UInt8)):Prop:=l.Pairwise fun a b=>cb a b<0
theorem yw{a b:List UInt8}(h:cb a b<0):¬cb b a<0:=by have:=gb a b;omega
theorem kV{a b c:List UInt8}(h:cb a b<0)(k:cb b c<0):cb a c<0:=by
 have h1:=mZ a b c (by omega) (by omega)
 refine Decidable.byContradiction fun hn=> ?_
 have h0:cb a c=0:=by omega
 have:=pa a c h0
 subst this
 have:=gb a b
 omega
theorem tX{a b c:List UInt8}(h:cb a b<0)(k:cb b c≤0):cb a c<0:=by
 by_cases h0:cb b c=0
 ·have:=pa b c h0
  subst this
  exact h
 ·exact kV h (by omega)
theorem de.ext:∀{l m:List (List UInt8)},de l→de m→(∀x,x∈l↔x∈m)→l=m
 | [],[],_,_,_=>rfl
 | [],y::m,_,_,h=>absurd ((h y).2 (List.mem_cons_self ..)) (List.not_mem_nil)
 |x::l,[],_,_,h=>absurd ((h x).1 (List.mem_cons_self ..)) (List.not_mem_nil)
 |x::l,y::m,hl,hm,h=>by
  have hl' :=List.pairwise_cons.1 hl
  have hm' :=List.pairwise_cons.1 hm
  have e:x=y:=by
   rcases List.mem_cons.1 ((h x).1 (List.mem_cons_self ..))with e|e
   ·exact e
   ·rcases List.mem_cons.1 ((h y).2 (List.mem_cons_self ..))with e' |e'
    ·exact e'.symm
    ·exact absurd (hl'.1 y e') (yw (hm'.1 x e))
  subst e
  rw[de.ext hl'.2 hm'.2 (fun z=> ?_)]
  have ne:∀{n:List (List UInt8)},(∀a' ∈n,cb x a' <0)→z∈n→z≠x:=fun hn hz e=>by
   subst e
   have:=hn z hz
   rw[o4]at this
   omega
  constructor
  ·intro hz
   exact(List.mem_cons.1 ((h z).1 (List.mem_cons_of_mem _ hz))).resolve_left (ne hl'.1 hz)
  ·intro hz
   exact(List.mem_cons.1 ((h z).2 (List.mem_cons_of_mem _ hz))).resolve_left (ne hm'.1 hz)
theorem jZ:∀(l:List (List UInt8)) (d x:List UInt8),x∈eK l d↔x=d∨x∈l
 | [],d,x=>by simp[eK]
 |a::r,d,x=>by
  unfold eK
  split
  ·rw[List.mem_cons,jZ r d x,List.mem_cons]
   constructor
   ·rintro(h|h|h)
    ·exact .inr (.inl h)
    ·exact .inl h
    ·exact .inr (.inr h)
   ·rintro(h|h|h)
    ·exact .inr (.inl h)
    ·exact .inl h
    ·exact .inr (.inr h)
  ·split
   ·next h=>subst h;simp
   ·simp
theorem kX:∀(l:List (List UInt8)) (d:List UInt8),de l→de (eK l d)
 | [],d,_=>by simp[eK,de]
 |a::r,d,h=>by
  have h' :=List.pairwise_cons.1 h
  unfold eK
  split
  ·next hc=>
   refine List.pairwise_cons.2 ⟨fun y hy=> ?_,kX r d h'.2⟩
   rcases(jZ r d y).1 hy with rfl|hy
   ·exact hc
   ·exact h'.1 y hy
  ·next hc=>
   split
   ·exact h
   ·next hne=>
    have hd:cb d a<0:=by
     have h1:=gb a d
     have h2:cb a d≠0:=fun e=>hne (pa a d e)
     omega
    refine List.pairwise_cons.2 ⟨fun y hy=> ?_,h⟩
    rcases List.mem_cons.1 hy with rfl|hy
    ·exact hd
    ·exact kV hd (h'.1 y hy)
theorem kB:∀(l acc:List (List UInt8)),de acc→de (l.foldl eK acc)∧∀x,x∈l.foldl eK acc↔x∈acc∨x∈l
 | [],acc,h=>⟨h,fun x=>by simp⟩
 |d::r,acc,h=>by
  obtain⟨h1,h2⟩:=kB r (eK acc d) (kX acc d h)
  refine⟨h1,fun x=> ?_⟩
  rw[List.foldl_cons,h2,jZ,List.mem_cons]
  constructor
  ·rintro((h|h)|h)
   ·exact .inr (.inl h)
   ·exact .inl h
   ·exact .inr (.inr h)
  ·rintro(h|h|h)
   ·exact .inl (.inr h)
   ·exact .inl (.inl h)
   ·exact .inr h
def Ar(l:List (List UInt8)):Prop:=l.Pairwise fun a b=>cb a b≤0
def Gb(a b:List UInt8):Bool:= !(decide (cb b a<0))
def jT(l:List (List UInt8)):List (List UInt8):=l.mergeSort Gb
theorem oz(l:List (List UInt8)):Ar (jT l):=by
 have:=List.pairwise_mergeSort (le:=Gb) (fun a b c hab hbc=>by
  simp only[Gb,Bool.not_eq_true',decide_eq_false_iff_not]at*
  have h1:=gb a b
  have h2:=gb b c
  have h3:=gb a c
  have h4:=mZ a b c (by omega) (by omega)
  omega) (fun a b=>by
  simp only[Gb,Bool.or_eq_true,Bool.not_eq_true',decide_eq_false_iff_not]
  have h1:=gb a b
  omega) l
 exact this.imp fun{a b} h=>by
  simp only[Gb,Bool.not_eq_true',decide_eq_false_iff_not]at h
  have h1:=gb a b
  omega
theorem jD(l:List (List UInt8)):(jT l).Perm l:=List.mergeSort_perm _ _
theorem tN(l:List (List UInt8)):(jT l).length=l.length:=List.length_mergeSort ..
def lV:List (List UInt8)→List (List UInt8)
 | []=>[]
 | [a]=>[a]
 |a::b::r=>if a=b then lV (b::r)else a::lV (b::r)
theorem sl:∀(l:List (List UInt8)) (x:List UInt8),x∈lV l↔x∈l
 | [],x=>Iff.rfl
 | [a],x=>Iff.rfl
 |a::b::r,x=>by
  unfold lV
  have ih:=sl (b::r) x
  split
  ·next h=>subst h;rw[ih];simp
  ·rw[List.mem_cons,ih,←List.mem_cons]
theorem pM:∀(l:List (List UInt8)),Ar l→de (lV l)
 | [],_=>List.Pairwise.nil
 | [a],_=>by simp[lV,de]
 |a::b::r,h=>by
  have h' :=List.pairwise_cons.1 h
  have ih:=pM (b::r) h'.2
  unfold lV
  split
  ·exact ih
  ·next hne=>
   refine List.pairwise_cons.2 ⟨fun y hy=> ?_,ih⟩
   have hab:cb a b<0:=by
    have h1:=h'.1 b (List.mem_cons_self ..)
    have h2:cb a b≠0:=fun e=>hne (pa a b e)
    omega
   rcases List.mem_cons.1 ((sl (b::r) y).1 hy)with rfl|hy
   ·exact hab
   ·exact tX hab ((List.pairwise_cons.1 h'.2).1 y hy)
theorem sX(l:List (List UInt8)):lV (jT l)=l.foldl eK []:=by
 obtain⟨h1,h2⟩:=kB l [] List.Pairwise.nil
 refine de.ext (pM _ (oz l)) h1 (fun x=> ?_)
 rw[sl,h2,(jD l).mem_iff]
 simp
theorem uh{l:List (List UInt8)}(h:l.Nodup):de (jT l):=by
 have h1:=oz l
 have h2:(jT l).Nodup:=(jD l).nodup_iff.2 h
 refine(h1.and h2).imp fun{a b} hab=> ?_
 have:cb a b≠0:=fun e=>hab.2 (pa a b e)
 omega
end Go.Hx
end
section
namespace Go.Eng
open Go.RowKit
abbrev Gr(v:Value):List PanicEntry:=[{v,recovered:=false}]
def RE(b:cC)(R Rp:Value→List bh→List bh→Prop):Ending→World→Prop:=fun e w' =>
 (∃v X' S',e= .returned v∧R v X' S' ∧Mem b X' S' w')∨(∃v X' S',e= .panicked (Gr v)∧Rp v X' S' ∧Mem b X' S' w')
def EZ(P:Program)(f:Nat)(args:List Value)(X0 S0:List bh)(R Rp:Value→List bh→List bh→Prop):Prop:=
 ∀w,Mem ⟨w,dB X0,dB S0⟩ X0 S0 w→Calls P f args.toArray w (RE ⟨w,dB X0,dB S0⟩ R Rp)
section
variable{P:Program}{Q:Exit→Act→World→Prop}{N:Nat}{D:List Deferred}{ρ:Env}{b:cC}{X X' X0 Xr S S' S0:List bh}{ty:TypeId}{x:Operand}{K:Value→List bh→List bh→Prop}
theorem Ci{w:World}{K:Value→World→Prop}{f:Nat}{l:List Operand}{vs:List Value}{tys:Array TypeId}{R:Ending→World→Prop}(hv:oQ ρ l=some vs)(hf:∀args w,(callFunc f args).run P w= .ok (.enter f args) w)
  (hc:Calls P f vs.toArray w R) (hR:∀e w',R e w' →(∃v,e= .returned v∧K v w')∨∃c,e= .panicked c∧WQ Q N D (.panic c) ρ w'):XW P Q N D ρ w (.call ⟨.value (.func f),l.toArray,tys⟩) ty K:=by
 intro a dst pos af g ha
 unfold Oper.wp
 have:(execOp a.eval ⟨dst,.call ⟨.value (.func f),l.toArray,tys⟩,ty,pos,af,g⟩).run P w= .ok (.enter f vs.toArray) w:=by
  simp[execOp,resolve,Deferred.ofValue,Act.eval,invoke,ha.jA hv,hf]
 rw[this]
 refine Calls.mono hc ?_
 intro e w' he
 rcases hR e w' he with⟨v,rfl,hk⟩|⟨c,rfl,hk⟩
 ·exact⟨v,rfl,hk⟩
 ·exact hk a ha
theorem gL{f:Nat}{l:List Operand}{vs:List Value}{tys:Array TypeId}{R Rp:Value→List bh→List bh→Prop}(hv:oQ ρ l=some vs)(hf:∀args w,(callFunc f args).run P w= .ok (.enter f args) w)
  (hc:EZ P f vs X0 S0 R Rp) (is:List Nat) (hX:bT is X=some (X0,Xr)) (js:List Nat) (hS:dS js S=some S0)
  (kp:∀v X' S',Rp v X' S' →HQ Q N D (.panic (Gr v)) ρ b (X' ++Xr) (S' ++S)) (k:∀v X' S',R v X' S' →K v (X' ++Xr) (S' ++S)):XH P Q N D ρ b X S (.call ⟨.value (.func f),l.toArray,tys⟩) ty K:=fun w m=>by
 have m1:=m.perm (ar _ _ _ _ hX)
 refine Ci hv hf (hc w (m1.part (cr _ _ _ hS))) ?_
 rintro e w' (⟨v,X',S',rfl,hR,m'⟩|⟨v,X',S',rfl,hR,m'⟩)
 ·exact .inl ⟨v,rfl,_,_,m1.frame (cr _ _ _ hS) m',k v X' S' hR⟩
 ·exact .inr ⟨_,rfl,kp v X' S' hR w' (m1.frame (cr _ _ _ hS) m')⟩
theorem eu{K:Act→World→Prop}{c:List PanicEntry}(h:HQ Q N D (.panic c) ρ b X S):HQ (Exit.then K Q) N D (.panic c) ρ b X S:=h
end
theorem C0{P:Program}{f:Nat}{fn:Func}{c:Code}{vs:List Value}{R Rp:Value→List bh→List bh→Prop}{N:Nat}{X0 S0:List bh}(hf:P.funcs[f]? =some fn)(hb:fn.body=some c)(hN:fn.ntmps=N)(hl:vs.length≤N)
  (h:∀b,HC P (bodyPost P fn (RE b R Rp)) N [] c (gq vs 0) b X0 S0):EZ P f vs X0 S0 R Rp:=fun w m=>enter hf hb hN hl (h _ w m)
section
variable{P:Program}{fn:Func}{R Rp:Value→List bh→List bh→Prop}{N:Nat}{D:List Deferred}{ρ:Env}{b:cC}{X X' Xz Xr X0 S S' S0:List bh}{e:Exit}{u:FrameMode}
theorem qF{R1 R2:Ending→World→Prop}(h:∀e w,R1 e w→R2 e w):∀e a w,bodyPost P fn R1 e a w→bodyPost P fn R2 e a w
 | .normal,a,w,⟨h1,v,h2,h3⟩=>⟨h1,v,h2,h _ _ h3⟩
 | .ret,a,w,⟨h1,v,h2,h3⟩=>⟨h1,v,h2,h _ _ h3⟩
 | .panic c,a,w,⟨h1,h2⟩=>⟨h1,h _ _ h2⟩
 | .outgrown,a,w,h1=>h _ _ h1
 | .exit _,a,w,h1=>h1.elim
 | .goto _,a,w,h1=>h1.elim
theorem Gt(h:HQ (bodyPost P fn (RB b R)) N D e ρ b X S):HQ (bodyPost P fn (RE b R Rp)) N D e ρ b X S:=fun w m a ha=>
 qF (fun e w h=>by obtain⟨v,X',S',h1,h2,h3⟩:=h;exact .inl ⟨v,X',S',h1,h2,h3⟩) _ _ _ (h w m a ha)
theorem Ga{v:Value}(is:List Nat)(hX:bT is X=some (X',Xz))(js:List Nat)(hS:dS js S=some S')(hR:Rp v X' S'):HQ (bodyPost P fn (RE b R Rp)) N [] (.panic (Gr v)) ρ b X S:=fun w m a ha=>
 ⟨ha.df,.inr ⟨v,X',S',rfl,hR,m.out is hX js hS⟩⟩
def Ex(P:Program)(fn:Func)(b:cC)(R:Value→List bh→List bh→Prop)(N:Nat)(D:List Deferred)(ρ:Env)(X S:List bh)(u:FrameMode):Prop:=∀w,Mem b X S w→∀tmps:Array Value,(∀t v,get ρ t=some v→tmps[t]? =some v)→Go.Leaves P fn tmps (RB b R) D u w
theorem vG(he:Leaves e)(h:Ex P fn b R N D ρ X S .returning):HQ (bodyPostD P fn (RB b R)) N D e ρ b X S:=EH he h
theorem iS{c:List PanicEntry}(h:Ex P fn b R N D ρ X S (.panicking c)):HQ (bodyPostD P fn (RB b R)) N D (.panic c) ρ b X S:=fun w m a ha=>by
 have:=h w m a.tmps ha.gt
 show Go.Leaves P fn a.tmps (RB b R) a.defers (.panicking c) w
 rw[ha.df]
 exact this
def Bl(P:Program)(f:Nat)(args:List Value)(u:FrameMode)(X0 S0:List bh)(R:FrameMode→List bh→List bh→Prop):Prop:=
 ∀w,Mem ⟨w,dB X0,dB S0⟩ X0 S0 w→CallsD P f args.toArray u w fun e u' w' =>e= .returned (.tuple #[])∧∃X' S',R (settle u') X' S' ∧Mem ⟨w,dB X0,dB S0⟩ X' S' w'
theorem mV{f:Nat}{vs cap:List Value}{Rd:FrameMode→List bh→List bh→Prop}(hu:u≠ .run)(hcall:∀args w,(callFunc f args).run P w= .ok (.enter f args) w)(hc:Bl P f (vs++cap) u X0 S0 Rd)(is:List Nat)(hX:bT is X=some (X0,Xr))(js:List Nat)(hS:dS js S=some S0)
  (k:∀u' X' S',Rd u' X' S' →Ex P fn b R N D ρ (X' ++Xr) (S' ++S) u'):Ex P fn b R N (⟨.fn (.func f) cap.toArray,vs.toArray⟩::D) ρ X S u:=fun w m tmps ht=>by
 have m1:=m.perm (ar _ _ _ _ hX)
 refine leaves_cons (f:=f) (args:=(vs++cap).toArray) hu ?_ ?_
 ·simp[invoke,hcall]
 ·refine CallsD.mono (hc w (m1.part (cr _ _ _ hS))) ?_
  rintro e u' w' ⟨rfl,X',S',hR,m'⟩
  exact k _ _ _ hR w' (m1.frame (cr _ _ _ hS) m') tmps ht
end
section
variable{P:Program}{ops:Array Oper}{fn:Func}{N:Nat}{D:List Deferred}{ρ ρ' :Env}{w:World}{c₀:Frame}{cs:List Frame}{R:Ending→FrameMode→World→Prop}{Q:Exit→Act→List Frame→World→Prop}{op:Op}{ty:TypeId}{pos:String}{af:Array Edge}{d:Nat}{v:Value}{rest:List Nat}{u:FrameMode}
def SL(P:Program)(ops:Array Oper)(Q:Exit→Act→List Frame→World→Prop)(N:Nat)(D:List Deferred)(l:List Nat)(ρ:Env)(cs:List Frame)(w:World):Prop:=∀a,Ag N D ρ a→wpOpsS P ops Q l a cs w
theorem Hc{i:Nat}(ho:ops[i]? =some ⟨some d,op,ty,pos,af,none⟩)(h:Yl P N D ρ w op ty v)(k:SL P ops Q N D rest ((d,v)::ρ) cs w)(hd:d<N:=by decide):SL P ops Q N D (i::rest) ρ cs w:=fun a ha=>by
 simp only[wpOpsS,ho]
 rw[if_pos (by simp[Region.wanted]),h a (some d) pos af none ha]
 exact k _ (ha.put hd)
theorem E5{i:Nat}{tys:Array TypeId}{pv:Value}{older:List PanicEntry}(ho:ops[i]? =some ⟨some d,.call ⟨.builtin .recover, #[],tys⟩,ty,pos,af,none⟩)(hu:c₀.mode= .panicking ({v:=pv,recovered:=false}::older))
  (k:SL P ops Q N D rest ((d,pv)::ρ) ({c₀ with mode:=.panicking ({v:=pv,recovered:=true}::older)}::cs) w) (hd:d<N:=by decide):SL P ops Q N D (i::rest) ρ (c₀::cs) w:=fun a ha=>by
 have hr:(execOp a.eval ⟨some d,.call ⟨.builtin .recover, #[],tys⟩,ty,pos,af,none⟩).run P w= .ok .recover w:=by
  simp[execOp,resolve,invoke,builtin]
 have h2:recoverD (c₀::cs)=some (pv,{c₀ with mode:=.panicking ({v:=pv,recovered:=true}::older)}::cs):=by simp[recoverD,hu]
 simp only[wpOpsS,ho]
 rw[if_pos (by simp[Region.wanted]),hr]
 simp only[h2]
 exact k _ (ha.put hd)
theorem Ce{i:Nat}{tys:Array TypeId}(ho:ops[i]? =some ⟨some d,.call ⟨.builtin .recover, #[],tys⟩,ty,pos,af,none⟩)(hu:c₀.mode= .returning)
  (k:SL P ops Q N D rest ((d,.nilIface)::ρ) (c₀::cs) w) (hd:d<N:=by decide):SL P ops Q N D (i::rest) ρ (c₀::cs) w:=fun a ha=>by
 have hr:(execOp a.eval ⟨some d,.call ⟨.builtin .recover, #[],tys⟩,ty,pos,af,none⟩).run P w= .ok .recover w:=by
  simp[execOp,resolve,invoke,builtin]
 have h2:recoverD (c₀::cs)=none:=by simp[recoverD,hu]
 simp only[wpOpsS,ho]
 rw[if_pos (by simp[Region.wanted]),hr]
 simp only[h2]
 exact k _ (ha.put hd)
theorem Eb{c:Code}{a:Act}{b:cC}{X S:List bh}{R0:Ending→World→Prop}(m:Mem b X S w)(h:HC P (bodyPost P fn R0) N [] c ρ b X S)(ha:Ag N [] ρ a)(hR:∀e w',R0 e w' →∃v,e= .returned v∧R (.returned v) u w'):c.wpS P (bodyPostS P fn c₀ cs R) a ({c₀ with mode:=u}::cs) w:=by
 refine wpS_of_wp (wp_mono (h w m a ha) ?_)
 intro e a' w' hb
 cases e with
 |normal=>
  obtain⟨h1,v,h2,h3⟩:=hb
  obtain⟨v',hv,h4⟩:=hR _ _ h3
  cases hv
  exact⟨h1,u,rfl,v,h2,h4⟩
 |ret=>
  obtain⟨h1,v,h2,h3⟩:=hb
  obtain⟨v',hv,h4⟩:=hR _ _ h3
  cases hv
  exact⟨h1,u,rfl,v,h2,h4⟩
 |panic c=>
  obtain⟨h1,h2⟩:=hb
  obtain⟨v',hv,h4⟩:=hR _ _ h2
  cases hv
 |outgrown=>
  obtain⟨v',hv,h4⟩:=hR _ _ hb
  cases hv
 |exit id=>exact hb.elim
 |goto l=>exact hb.elim
end
end Go.Eng
end
section
namespace Go.Eng
open Go.RowKit
def qL(ds:List Nat)(a a' :Act):Prop:=a'.defers=a.defers∧a'.tmps.size=a.tmps.size∧∀t:Nat,t∉ds→a'.tmps[t]? =a.tmps[t]?
theorem qL.refl(ds:List Nat)(a:Act):qL ds a a:=⟨rfl,rfl,fun _ _=>rfl⟩
theorem qL.put{ds:List Nat}{a a' :Act}{d:Nat}{v:Value}(hd:d∈ds)(h:qL ds a a'):qL ds (a.put (some d) v) a' :=by
 obtain⟨h1,h2,h3⟩:=h
 refine⟨h1,by rw[h2];simp[Act.put],fun t ht=> ?_⟩
 rw[h3 t ht]
 have hne:d≠t:=fun e=>ht (e▸hd)
 simp only[Act.put]
 rw[Array.getElem?_setIfInBounds_ne hne]
def z7(ds:List Nat)(Q:Exit→Act→World→Prop):Exit→Act→World→Prop
 | .panic c,a,w=>∀a',qL ds a a' →Q (.panic c) a' w
 | .outgrown,_,_=>False
 |e,a,w=>Q e a w
section
variable{P:Program}{ops:Array Oper}{Q:Exit→Act→World→Prop}
theorem iQ{T:Nat→World→Prop}{X:List Nat}(hs:Region.noSelect ops=true)(hQ:∀(i:Nat) (o:Oper),ops[i]? =some o→∀c a v w,Q (.panic c) (a.put o.dst v) w→Q (.panic c) a w):∀(L:List (Nat×Option Nat)) (sq:List (Option Nat×Oper)) (l:Array Bool) (a:Act) (w:World) (n k:Nat),
  iI ops L=some sq→eC ops X L l=true→L.length≤n→Kept ops l→jc X l=k→T k w→fo P ops Q T k sq a w→Cq P ops Q (fun l w=>T (jc X l) w) n l a w
 | [],sq,l,a,w,n,k,hp,hk,_,_,_,_,h=>by
  simp only[iI,Option.some.injEq]at hp
  subst hp
  have hr:Region.ready .any ops l=[]:=by simpa[eC]using hk
  cases n with
  |zero=>exact⟨hr,h⟩
  |succ n=>exact⟨fun _=>h,by rw[hr];simp⟩
 |(i,x)::r,sq,l,a,w,0,k,hp,hk,hf,_,_,_,h=>by simp at hf
 |(i,x)::r,sq,l,a,w,n+1,k,hp,hk,hf,hK,hc,hT,h=>by
  unfold iI at hp
  split at hp
  ·rename_i o l' ho hl'
   cases hp
   have hf' :r.length≤n:=by simp at hf;omega
   cases x with
   |none=>
    simp only[eC,Bool.and_eq_true,beq_iff_eq]at hk
    obtain⟨⟨hrd,hct⟩,hk⟩:=hk
    have hmem:i∈Region.ready .any ops l:=by rw[hrd];simp
    have hcs:jc X (l.setIfInBounds i true)=k+1:=by rw[sD (mem_ready.1 hmem).1,hct,hc]
    have hK' :=hK.set hmem
    refine⟨fun h0=>(by rw[h0]at hmem;cases hmem),fun j hj=> ?_⟩
    have hji:j=i:=by rw[hrd]at hj;simpa using hj
    subst hji
    unfold wpOp
    simp only[ho]
    simp only[fo]at h
    split at h
    ·rename_i hw
     rw[if_pos hw]
     refine .inl (Oper.wp_mono ?_ h)
     rintro a' w' ⟨hS',h'⟩
     exact⟨by rw[hcs];exact hS',iQ hs hQ r l' _ a' w' n (k+1) hl' hk hf' hK' hcs hS' h'⟩
    ·rename_i hw
     rw[if_neg hw]
     exact⟨by rw[hcs];exact h.1,iQ hs hQ r l' _ _ w n (k+1) hl' hk hf' hK' hcs h.1 h.2⟩
   |some m=>
    simp only[eC,Bool.and_eq_true,Bool.not_eq_true']at hk
    obtain⟨⟨⟨⟨hfree,hcon⟩,hX⟩,hcap⟩,hk⟩:=hk
    obtain⟨v,hy,h'⟩:=h
    have hmem:i∈Region.ready .any ops l:=by simpa using hcon
    have hcs:jc X (l.setIfInBounds i true)=k:=by rw[nQ hX,hc]
    refine nZ ho (Region.noSelect_spec hs) (fun c a w=>hQ i o ho c a _ w) (fun l' =>Kept ops l' ∧∀q,l.getD q false=true→l'.getD q false=true) (fun l' j hR hj=>⟨hR.1.set hj,fun q hq=>getD_set_true (hR.2 q hq)⟩)
     (fun l' w' =>by rw[nQ hX]) n l a w (Region.free_spec ho hfree) hmem ?_ ⟨hK,fun q hq=>hq⟩ (by rw[hc];exact hT) (iQ hs hQ r l' _ _ w n k hl' hk hf' (hK.set hmem) hcs hT h')
    rcases hy with⟨hw,hv⟩|hy
    ·refine .inl ⟨hw,fun w' hw' =>hv w' ?_⟩
     obtain⟨l2,⟨hK2,al⟩,hun,hT2⟩:=hw'
     exact⟨jc X l2,by rw[←hc];exact qd al,r9 hK2 hun hcap,hT2⟩
    ·exact .inr hy
  ·cases hp
theorem pg{T:Nat→World→Prop}{X ds:List Nat}{id:Nat}{a:Act}{w:World}{sq:List (Option Nat×Oper)}(L:List (Nat×Option Nat))(hds:ops.all (fun o=>match o.dst with|some d=>ds.contains d|none=>true)=true)(hm:P.follows .mixedOrders=true)(hs:Region.noSelect ops=true)(hk:eC ops X L (Array.replicate ops.size false)=true)(hn:L.length≤ops.size)
  (hp:iI ops L=some sq) (hT:T 0 w.drew) (h:fo P ops (z7 ds Q) T 0 sq a w.drew):(Code.region id ops true).wp P Q a w:=by
 refine Code.wp_mono (Q:=z7 ds Q) (fun e a w q=>by cases e <;> first|exact q|exact q.elim|exact q a (.refl _ _)) ?_
 refine wp_region_any hm (eR _ _ _ _ (iQ (X:=X) hs (fun i o ho c a v w q a' ha' => ?_) L sq _ a _ _ 0 hp hk hn ?_ ?_ hT h))
 ·have hmem:o∈ops:=by
   obtain⟨hi,he⟩:=Array.getElem?_eq_some_iff.1 ho
   exact he▸Array.getElem_mem hi
  have:=Array.all_eq_true_iff_forall_mem.1 hds o hmem
  cases hd:o.dst with
  |none=>rw[hd]at q;exact q a' ha'
  |some d=>
   rw[hd]at this q
   exact q a' (ha'.put (by simpa using this))
 ·intro j hj
  simp[Array.getElem?_replicate]at hj
  split at hj <;> cases hj
 ·unfold jc
  rw[List.countP_eq_zero]
  intro x _
  simp[Array.getElem?_replicate]
  split <;> rfl
end
def Bg(ds:List Nat)(ρ:Env):Env:=ρ.filter fun p=> !ds.contains p.1
theorem ph{ds:List Nat}:∀{ρ:Env} {t:Nat} {v:Value},get (Bg ds ρ) t=some v→t∉ds∧get ρ t=some v
 | [],t,v,h=>by simp[Bg,get]at h
 |(t0,v0)::ρ,t,v,h=>by
  unfold Bg at h
  rw[List.filter_cons]at h
  by_cases hc:ds.contains t0=true
  ·rw[if_neg (by simpa using hc)]at h
   obtain⟨h1,h2⟩:=ph (ρ:=ρ) h
   refine⟨h1, ?_⟩
   have hne:t0≠t:=fun e=>h1 (by rw[←e];simpa using hc)
   simp only[get]
   have hbf:Nat.beq t0 t=false:=by
    cases hb:Nat.beq t0 t with
    |true=>exact absurd (Nat.eq_of_beq_eq_true hb) hne
    |false=>rfl
   rw[hbf]
   exact h2
  ·rw[if_pos (by simpa using hc)]at h
   simp only[get]at h ⊢
   cases hb:Nat.beq t0 t with
   |true=>
    rw[hb]at h
    have:t0=t:=Nat.eq_of_beq_eq_true hb
    subst this
    exact⟨by simpa using hc,h⟩
   |false=>
    rw[hb]at h
    exact ph (ρ:=ρ) h
section
variable{P:Program}{ops:Array Oper}{Q:Exit→Act→World→Prop}{N:Nat}{D:List Deferred}{ρ ρ' :Env}{b:cC}{X X' X0 Xr S S' S0 X1 S1:List bh}{k c:Nat}{ds:List Nat}
theorem ze{id:Nat}{l:List (Option Nat×Oper)}(ds:List Nat)(is js:List Nat)(hX:bT is X=some (X1,Xr))(hS:dS js S=some S1)(Xs:List Nat)(L:List (Nat×Option Nat))(hm:P.follows .mixedOrders=true)
  (hk:(Region.noSelect ops && eC ops Xs L (Array.replicate ops.size false) && decide (L.length≤ops.size))=true) (hds:ops.all (fun o=>match o.dst with|some d=>ds.contains d|none=>true)=true)
  (hp:iI ops L=some l) (c:Nat) (h:HT P ops (z7 ds Q) (TT b X1 S1 c) N D 0 l ρ b X S):HC P Q N D (.region id ops true) ρ b X S:=fun w m a ha=>by
 simp only[Bool.and_eq_true,decide_eq_true_eq]at hk
 exact pg (X:=Xs) L hds hm hk.1.1 hk.1.2 hk.2 hp (fun _=>(wk is js hX hS).mem (m.lift (Fr.drew w))) (h _ (m.lift (Fr.drew w)) a ha)
theorem Aa{T:Nat→World→Prop}(h:HQ Q N D .normal ρ b X S):HT P ops (z7 ds Q) T N D k [] ρ b X S:=fun w m a ha=>h w m a ha
theorem Dt{e:List PanicEntry}(h:HQ Q N D (.panic e) (Bg ds ρ) b X S):HQ (z7 ds Q) N D (.panic e) ρ b X S:=fun w m a ha a' hag=>by
 obtain⟨h1,h2,h3⟩:=hag
 refine h w m a' ⟨by rw[h2];exact ha.sz,by rw[h1];exact ha.df,fun t v ht=> ?_⟩
 obtain⟨h4,h5⟩:=ph ht
 rw[h3 t h4]
 exact ha.gt t v h5
end
section
variable{P:Program}{ops:Array Oper}{fn:Func}{Q:Exit→Act→List Frame→World→Prop}{N:Nat}{D:List Deferred}{ρ:Env}{b:cC}{X X' S S' :List bh}{cs:List Frame}{c₀:Frame}{rest:List Nat}{op:Op}{ty:TypeId}{pos:String}{af:Array Edge}{d i:Nat}{v:Value}
def uE(P:Program)(ops:Array Oper)(Q:Exit→Act→List Frame→World→Prop)(N:Nat)(D:List Deferred)(l:List Nat)(ρ:Env)(cs:List Frame)(b:cC)(X S:List bh):Prop:=∀w,Mem b X S w→SL P ops Q N D l ρ cs w
theorem oy{o:Oper}{a:Act}{w:World}(ho:ops[i]? =some o)(hw:Region.wanted o (yielded ops a.tmps)=true)(h:o.wp P a w (fun a' w' =>wpOpsS P ops Q rest a' cs w') (fun e a' w' =>Q e a' cs w')):wpOpsS P ops Q (i::rest) a cs w:=by
 simp only[wpOpsS,ho]
 rw[if_pos hw]
 unfold Oper.wp at h
 split
 ·rename_i w' hr
  rw[hr]at h
  exact h.elim
 ·exact h
theorem lT(ho:ops[i]? =some ⟨some d,op,ty,pos,af,none⟩)(h:∀{w},Mem b X S w→Yl P N D ρ w op ty v)(k:uE P ops Q N D rest ((d,v)::ρ) cs b X S)(hd:d<N:=by decide):uE P ops Q N D (i::rest) ρ cs b X S:=fun w m=>Hc ho (h m) (k w m) hd
theorem Dn(ho:ops[i]? =some ⟨some d,op,ty,pos,af,none⟩)(h:XH P (fun e a w=>Q e a cs w) N D ρ b X S op ty fun v X' S' =>uE P ops Q N D rest ((d,v)::ρ) cs b X' S')(hd:d<N:=by decide):uE P ops Q N D (i::rest) ρ cs b X S:=fun w m a ha=>by
 refine oy ho (by simp[Region.wanted]) (Oper.wp_mono ?_ (h w m a (some d) pos af none ha))
 rintro a' w' ⟨v,rfl,X',S',m',hk⟩
 exact hk w' m' _ (ha.put hd)
theorem AU(ho:ops[i]? =some ⟨none,op,ty,pos,af,none⟩)(h:XH P (fun e a w=>Q e a cs w) N D ρ b X S op ty fun _ X' S' =>uE P ops Q N D rest ρ cs b X' S'):uE P ops Q N D (i::rest) ρ cs b X S:=fun w m a ha=>by
 refine oy ho (by simp[Region.wanted]) (Oper.wp_mono ?_ (h w m a none pos af none ha))
 rintro a' w' ⟨v,rfl,X',S',m',hk⟩
 exact hk w' m' _ ha
theorem B9{tys:Array TypeId}{pv:Value}{older:List PanicEntry}(ho:ops[i]? =some ⟨some d,.call ⟨.builtin .recover, #[],tys⟩,ty,pos,af,none⟩)(hu:c₀.mode= .panicking ({v:=pv,recovered:=false}::older))
  (k:uE P ops Q N D rest ((d,pv)::ρ) ({c₀ with mode:=.panicking ({v:=pv,recovered:=true}::older)}::cs) b X S) (hd:d<N:=by decide):uE P ops Q N D (i::rest) ρ (c₀::cs) b X S:=fun w m=>E5 ho hu (k w m) hd
theorem AN{tys:Array TypeId}(ho:ops[i]? =some ⟨some d,.call ⟨.builtin .recover, #[],tys⟩,ty,pos,af,none⟩)(hu:c₀.mode= .returning)(k:uE P ops Q N D rest ((d,.nilIface)::ρ) ({c₀ with mode:=.returning}::cs) b X S)(hd:d<N:=by decide):uE P ops Q N D (i::rest) ρ (c₀::cs) b X S:=fun w m=>
 Ce ho hu (by have:=k w m;rwa [show({c₀ with mode:=FrameMode.returning}:Frame)=c₀ by cases c₀;simp_all]at this) hd
theorem D5{l:List Nat}(h:∀w,Mem b X S w→Mem b X' S' w)(k:uE P ops Q N D l ρ cs b X' S'):uE P ops Q N D l ρ cs b X S:=fun w m=>k w (h w m)
def Hq(b:cC)(R:FrameMode→List bh→List bh→Prop):Ending→FrameMode→World→Prop:=fun e u' w' =>e= .returned (.tuple #[])∧∃X' S',R (settle u') X' S' ∧Mem b X' S' w'
def QD(P:Program)(fn:Func)(c₀:Frame)(cs:List Frame)(b:cC)(R:FrameMode→List bh→List bh→Prop)(c2:Code):Exit→Act→List Frame→World→Prop:=Exit.thenS (fun a cs' w=>c2.wpS P (bodyPostS P fn c₀ cs (Hq b R)) a cs' w) (bodyPostS P fn c₀ cs (Hq b R))
theorem sZ{R:FrameMode→List bh→List bh→Prop}{c2:Code}{u2:FrameMode}(h:HC P (bodyPost P fn (RB b fun v X S=>v= .tuple #[]∧R (settle u2) X S)) N [] c2 ρ b X S):uE P ops (QD P fn c₀ cs b R c2) N [] [] ρ ({c₀ with mode:=u2}::cs) b X S:=fun w m a ha=>by
 refine Eb m h ha ?_
 rintro e w' ⟨v,X',S',rfl,⟨rfl,hR⟩,m'⟩
 exact⟨_,rfl,rfl,X',S',hR,m'⟩
end
theorem vO{P:Program}{f:Nat}{fn:Func}{id:Nat}{ops:Array Oper}{c2:Code}{vs:List Value}{u:FrameMode}{N:Nat}{X0 S0:List bh}{R:FrameMode→List bh→List bh→Prop}(hf:P.funcs[f]? =some fn)(hb:fn.body=some (.seq (.region id ops false) c2))(hN:fn.ntmps=N)(hl:vs.length≤N)
  (h:∀(b:cC) (c₀:Frame) (cs:List Frame),c₀.mode=u→uE P ops (QD P fn c₀ cs b R c2) N [] (List.range ops.size) (gq vs 0) (c₀::cs) b X0 S0):Bl P f vs u X0 S0 R:=fun w m=>by
 refine callsD_of_wpS hf hb fun c₀ cs hu=> ?_
 refine wpS_seq (wpS_region ?_)
 refine h _ c₀ cs hu w m _ ⟨?_,rfl,fun t v ht=> ?_⟩
 ·simp[hN];omega
 ·obtain⟨_,h2⟩:=gK vs 0 t v ht
  have hlt:=(List.getElem?_eq_some_iff.1 h2).1
  rw[Array.getElem?_append_left (by simpa using hlt)]
  simpa using h2
section
variable{P:Program}{Q:Exit→Act→World→Prop}{N:Nat}{D:List Deferred}{ρ:Env}{b:cC}{X S:List bh}{ty t:TypeId}{x:Operand}{v:Value}{K:Value→List bh→List bh→Prop}
theorem Aw(hx:ev ρ x=some (.iface t v))(h:HQ Q N D (.panic (Gr (.iface t v))) ρ b X S):XH P Q N D ρ b X S (.panic x) ty K:=fun w m a dst pos af g ha=>by
 unfold Oper.wp
 have:(execOp a.eval ⟨dst,.panic x,ty,pos,af,g⟩).run P w= .halt (.panic (.iface t v)) w:=by
  simp[execOp,ha.eval hx,Instr.panic,goPanic]
 rw[this]
 exact h w m a ha
theorem zS{fs:Array Field}{xT:TypeId}{w:World}(ht:P.underlying t=some (.struct fs)):(Instr.typeAssert (.iface t v) xT t true).run P w= .ok (.tuple #[v,.bool true]) w:=by
 simp[Instr.typeAssert,run_underlying ht]
theorem A9{fs:Array Field}{xT:TypeId}{w:World}{z:Value}{sz bytes:Nat}(ht:P.underlying t=some (.struct fs))(hT:TI P t z sz bytes):(Instr.typeAssert .nilIface xT t true).run P w= .ok (.tuple #[z,.bool false]) w:=by
 simp[Instr.typeAssert,run_underlying ht,p5 hT]
end
section
variable{P:Program}{fn:Func}{R:Value→List bh→List bh→Prop}{N:Nat}{ρ:Env}{b:cC}{X X' Xz S S' :List bh}{w:World}
theorem rG{t:TypeId}{p:Addr}{v:Value}(ha:dg P t=some false)(hc:w.cell? p=some v):(loadVar t p).run P w= .ok v w:=by
 simp[loadVar,jx ha,hc]
theorem gZ{t t' :Nat}{ty ty' :TypeId}{p p' :Addr}{v v' :Value}(hr:fn.results= #[.cell t ty,.cell t' ty'])(hv:get ρ t=some (.pointer (some p)))(hv' :get ρ t' =some (.pointer (some p')))(ha:dg P ty=some false)(ha' :dg P ty' =some false)
  (hc:∀{w},Mem b X S w→w.cell? p=some v) (hc' :∀{w},Mem b X S w→w.cell? p' =some v') (is:List Nat) (hX:bT is X=some (X',Xz)) (js:List Nat) (hS:dS js S=some S') (hR:R (.tuple #[v,v']) X' S'):Ex P fn b R N [] ρ X S .returning:=fun w m tmps h=>
 ⟨.tuple #[v,v'],by have h1:=qZ h hv;have h2:=qZ h hv';simp at h1 h2;simp[results,hr,h1,h2,asAddr,rG ha (hc m),rG ha' (hc' m)],_,_,_,rfl,hR,m.out is hX js hS⟩
theorem Aj{e:Exit}{t1 t2 t3 t4:Nat}{v1 v2 v3 v4:Value}(he:Leaves e)(hr:fn.results= #[.tmp t1,.tmp t2,.tmp t3,.tmp t4])(h1:get ρ t1=some v1)(h2:get ρ t2=some v2)(h3:get ρ t3=some v3)(h4:get ρ t4=some v4)(is:List Nat)(hX:bT is X=some (X',Xz))(js:List Nat)(hS:dS js S=some S')(hR:R (.tuple #[v1,v2,v3,v4]) X' S'):HQ (bodyPost P fn (RB b R)) N [] e ρ b X S:=
 fun w m=>iK he (fun a hA=>by have g1:=hA.getD h1;have g2:=hA.getD h2;have g3:=hA.getD h3;have g4:=hA.getD h4;simp at g1 g2 g3 g4;simp[results,hr,g1,g2,g3,g4]) ⟨_,_,_,rfl,hR,m.out is hX js hS⟩
theorem pB{u:FrameMode}{D:List Deferred}(h:∀w,Mem b X S w→Mem b X' S' w)(k:Ex P fn b R N D ρ X' S' u):Ex P fn b R N D ρ X S u:=fun w m=>k w (h w m)
end
end Go.Eng
end
section
namespace Go.Eng
open Go.RowKit
section
variable{P:Program}{Q:Exit→Act→World→Prop}{N:Nat}{D:List Deferred}{c:Code}{ρ:Env}{b:cC}{X S:List bh}
theorem rS{α β:Type}(R:α→β→Env)(X1 S1:α→β→List bh)(I:α→β→Prop)(ρk:Env)(hk:fv ρk ρ)(is:List Nat){Xt Xr:List bh}(hX:bT is X=some (Xt,Xr))
  (h:HC P (xN N D (fun i:α×β=>R i.1 i.2++ρk) fun i w=>Mem b (X1 i.1 i.2++Xr) (S1 i.1 i.2++S) w∧I i.1 i.2) N D c ρ b X S) (k:∀x y,I x y→HQ Q N D .normal (R x y++ρk) b (X1 x y++Xr) (S1 x y++S)):HC P Q N D c ρ b X S:=
 GL (fun i:α×β=>R i.1 i.2++ρk) (fun i=>X1 i.1 i.2++Xr) (fun i=>S1 i.1 i.2++S) (fun i=>I i.1 i.2) h fun i hi=>k (i.1) (i.2) hi
theorem dz{α β:Type}{R:α→β→Env}{X1 S1:α→β→List bh}{I:α→β→Prop}{ρ0:Env}{Xr Sr:List bh}(x:α)(y:β)(hs:fv (R x y++ρ0) ρ)(is:List Nat){Xz:List bh}(hX:bT is X=some (X1 x y++Xr,Xz))(js:List Nat)(hS:dS js S=some (S1 x y++Sr))(hI:I x y):
  HQ (xN N D (fun i:α×β=>R i.1 i.2++ρ0) fun i w=>Mem b (X1 i.1 i.2++Xr) (S1 i.1 i.2++Sr) w∧I i.1 i.2) N D .normal ρ b X S:=
 Fm (i:=(x,y)) hs is hX js hS hI
end
end Go.Eng
end
section
namespace Go.Eng
open Go.RowKit
open Go.ChangeMaps (setBlock)
section
variable{b:cC}{X S Xp Xq:List bh}{w:World}{r:bh}
theorem Mem.my(m:Mem b (fG Xp::X) S w)(h:Xp.Perm Xq):Mem b (fG Xq::X) S w:=((m.unpack).perm (h.append_right X)).pack
theorem Mem.tR(m:Mem b (fG Xp::X) S w)(i:Nat)(h:Xp[i]? =some r):Mem b (r::fG (Xp.eraseIdx i)::X) S w:=by
 obtain⟨hlt,rfl⟩:=List.getElem?_eq_some_iff.1 h
 have m1:=(m.my (gr Xp i hlt).symm).unpack
 rw[List.cons_append]at m1
 have m2:Mem b (Xp.eraseIdx i++(Xp[i]::X)) S w:=m1.perm (List.perm_middle.symm)
 exact(m2.pack).perm (List.Perm.swap ..)
theorem Mem.si(m:Mem b (r::fG Xp::X) S w):Mem b (fG (r::Xp)::X) S w:=by
 have m1:Mem b (fG Xp::r::X) S w:=m.perm (List.Perm.swap ..)
 have m2:=m1.unpack
 have m3:Mem b ((r::Xp)++X) S w:=m2.perm (List.perm_middle)
 exact m3.pack
theorem Mem.Ch(m:Mem b X S w):Mem b (fG []::X) S w:=Mem.pack (Xp:=[]) m
end
abbrev Bn(n:Nat):={l:List UInt8//l.length=n}
def KN{n:Nat}(d:Bn n):Value:=DV d.1
theorem zN{P:Program}{kt e:TypeId}{n:Nat}(ht:P.underlying kt=some (.array n e))(he:P.underlying e=some (.int .u8))(hs:P.cellsOf kt=n)(hse:P.cellsOf e=1)(hk:P.keyTypeAt 2 kt=true):oL P kt (KN (n:=n))where
 inj a b h:=Subtype.ext (sJ h)
 check w em d:=by
  have h1:(KN d).formed P kt=true:=by simp[Value.formed,KN,DV,ht,ay,d.2,hs]
  have h2:=fp (P:=P) (D:=0) (l:=d.1) ht he hs hse d.2
  exact run_checkKey_deep em 9998 2 kt hk w 2 (KN d) _ h1 (by simpa[KN,DV,Value.cells]using h2)
 find w k es h:=by
  have hag:dg P kt=some true:=by simp[dg,ht]
  have heq:∀q:Bn n,(Op.equal kt (KN k) (KN q)).run P w= .ok (decide (k=q)) w:=fun q=>by
   have h2:=fp (P:=P) (D:=0) (l:=k.1) ht he hs hse k.2
   have h3:=fp (P:=P) (D:=0) (l:=q.1) ht he hs hse q.2
   exact mK (m:=2) (p:=k=q) (by decide) hk hag (by rw[ay,hs];exact k.2) (by rw[ay,hs];exact q.2) h2 h3 (by rw[iM];exact⟨fun e=>Subtype.ext e,fun e=>by rw[e]⟩)
  have hnow:∀(es:List MapEntry) (i:Nat),es≠ []→Instr.findNow (.array n e) (KN k) es i=none:=fun es i hne=>by
   cases es with
   |nil=>exact absurd rfl hne
   |cons x r=>rfl
  have hask:∀(es:List MapEntry) (i:Nat),(∀x∈es,∃q:Bn n,x.key=KN q)→(∃j x,es[j]? =some x∧x.key=KN k∧(Instr.findAsking kt (KN k) es i).run P w= .ok (some (i+j,x.val)) w)∨((∀x∈es,x.key≠KN k)∧(Instr.findAsking kt (KN k) es i).run P w= .ok none w):=by
   intro es
   induction es with
   |nil=>intro i _;exact .inr ⟨by simp,rfl⟩
   |cons x r ih=>
    intro i h
    obtain⟨q,hq⟩:=h x (by simp)
    have hx:=heq q
    rw[←hq]at hx
    by_cases hkq:k=q
    ·rw[decide_eq_true hkq]at hx
     exact .inl ⟨0,x,rfl,by rw[hq,hkq],by simp[Instr.findAsking,hx]⟩
    ·rw[decide_eq_false hkq]at hx
     rcases ih (i+1) (fun y hy=>h y (by simp[hy]))with⟨j,y,hj,hy,hf⟩|⟨hall,hf⟩
     ·refine .inl ⟨j+1,y,by simpa using hj,hy, ?_⟩
      simp[Instr.findAsking,hx,hf]
      omega
     ·refine .inr ⟨fun y hy=> ?_,by simp[Instr.findAsking,hx,hf]⟩
      rcases List.mem_cons.1 hy with rfl|hy
      ·rw[hq];exact fun e=>hkq (Subtype.ext (sJ e)).symm
      ·exact hall y hy
  cases es with
  |nil=>exact .inr ⟨by simp,by simp[Instr.findKey,run_underlying ht,Instr.findNow]⟩
  |cons x r=>
   have h0:=hnow (x::r) 0 (by simp)
   rcases hask (x::r) 0 h with⟨j,y,hj,hy,hf⟩|⟨hall,hf⟩
   ·refine .inl ⟨j,y,hj,hy, ?_⟩
    simp[Instr.findKey,run_underlying ht,h0,hf]
   ·exact .inr ⟨hall,by simp[Instr.findKey,run_underlying ht,h0,hf]⟩
 stays w k:=by
  have:Instr.sameBits 10000 (KN k) (KN k)=true:=by
   show((aR k.1).toArray.size == (aR k.1).toArray.size && ((aR k.1).toArray.toList.zip (aR k.1).toArray.toList).all fun(x,y)=>Instr.sameBits 9999 x y)=true
   simp only[beq_self_eq_true,Bool.true_and]
   exact pC 9999 k.1
  simp[Instr.keyThatStays,this]
section
variable{κ:Type}[DecidableEq κ]{enc:κ→Value}
def wT(enc:κ→Value)(w:World)(b:Nat)(l:List (κ×Value))(k:κ)(st:Nat):Prop:=
 ∃es clock,w.heap[b]? =some (.map es clock)∧es.toList.map (fun e=>(e.key,e.val))=l.map (fun p=>(enc p.1,p.2))∧(cn l).Nodup∧(∀e∈es.toList,e.born<clock)∧(es.toList.map (·.born)).Nodup∧∃(i:Nat) (x:MapEntry) (u:Value),es.toList[i]? =some x∧x.born=st∧l[i]? =some (k,u)
def Bu(enc:κ→Value)(b:Nat)(l:List (κ×Value))(k:κ)(st:Nat):bh where
 dm i:=i=b
 holds w:=wT enc w b l k st
 keep f h m:=by
  obtain⟨es,clock,hb,rest⟩:=m
  exact⟨es,clock,(f.block b (cW hb) (h b rfl)).trans hb,rest⟩
 low m hk:=by
  obtain⟨es,clock,hb,rest⟩:=m
  exact hk▸cW hb
theorem qM{l:List (κ×Value)}{k:κ}{u v:Value}:cE (cE l k u) k v=cE l k v:=by
 induction l with
 |nil=>simp[cE]
 |cons p r ih=>
  obtain⟨q,x⟩:=p
  by_cases h:q=k
  ·simp[cE,h]
  ·simp[cE,h,ih]
theorem uP{P:Program}{w:World}{t kt et:TypeId}{b:Nat}{l:List (κ×Value)}{z:Value}{sz bytes:Nat}(ht:P.underlying t=some (.map kt et))(hT:TI P et z sz bytes)(K:oL P kt enc)(h:gH enc w b l)(k:κ):
  ∃(st:Nat) (w' :World),(Instr.mapEntry t (.map (some b)) (enc k)).run P w= .ok (.tuple #[(b8 l k).getD z,.int .i64 (st:Nat)]) w' ∧wT enc w' b (cE l k ((b8 l k).getD z)) k st∧Fr (fun i=>i=b) w w' :=by
 have hn:=h.keys
 obtain⟨es,clock,hb,hl,hborn,hnb,hf⟩:=h.found K k
 have hg:(getObj b).run P w= .ok (.map es clock) w:=by simp[getObj,Sem.run,hb]
 have hc:=K.check w false k
 rcases hf with⟨i,x,hi,hp,ha,hx,hf⟩|⟨ha,hf⟩
 ·have hst:=K.stays w k
  have hxi:es[i]? =some x:=by simpa using hi
  have hsame:es.modify i (fun e=>{e with key:=enc k})=es:=by
   apply Array.ext'
   apply List.ext_getElem?
   intro j
   rw[Array.toList_modify,List.getElem?_modify]
   by_cases hij:i=j
   ·subst hij
    rw[hi]
    show some (if i=i then({x with key:=enc k}:MapEntry)else x)=some x
    rw[if_pos rfl,←hx]
   ·simp[hij]
  refine⟨x.born,setBlock w b (.map es clock), ?_,⟨es,clock,er hb, ?_,gj hn,hborn,hnb,i,x,x.val,hi,rfl, ?_⟩,dW⟩
  ·rw[ha]
   simp[Instr.mapEntry,run_underlying ht,hg,hc,hf,hxi,hx,hst,hsame,eF hb,goInt]
  ·rw[ha,o9 hn hp,hl]
   congr 1
   apply List.ext_getElem?
   intro j
   rw[List.getElem?_set]
   by_cases hij:i=j
   ·subst hij
    rw[if_pos rfl,if_pos (List.getElem?_eq_some_iff.1 hp).1,hp]
    rfl
   ·rw[if_neg hij]
  ·rw[ha,o9 hn hp,List.getElem?_set,if_pos rfl,if_pos (List.getElem?_eq_some_iff.1 hp).1]
   rfl
 ·have hlen:es.toList.length=l.length:=by have:=congrArg List.length hl;simpa using this
  refine⟨clock,setBlock w b (.map (es.push {key:=enc k,val:=z,born:=clock}) (clock+1)), ?_,⟨_,_,er hb, ?_,gj hn, ?_, ?_,es.toList.length,{key:=enc k,val:=z,born:=clock},z,by simp,rfl, ?_⟩,dW⟩
  ·rw[ha]
   simp[Instr.mapEntry,run_underlying ht,hg,hc,hf,p5 hT,eF hb,goInt]
  ·rw[ha,nf ha,Array.toList_push,List.map_append,hl]
   simp
  ·intro e he
   rw[Array.toList_push]at he
   rcases List.mem_append.1 he with he|he
   ·have:=hborn e he;omega
   ·rcases List.mem_singleton.1 he with rfl
    exact Nat.lt_succ_self _
  ·rw[Array.toList_push,List.map_append]
   refine mr hnb (fun hm=> ?_)
   obtain⟨e,he,hk⟩:=List.mem_map.1 hm
   have:=hborn e he
   simp only at hk
   omega
  ·rw[ha,nf ha,hlen]
   simp
theorem tE{P:Program}{w:World}{t:TypeId}{b:Nat}{l:List (κ×Value)}{k:κ}{st:Nat}(h:wT enc w b l k st)(v:Value):
  ∃w',(Instr.entryStore t (.map (some b)) (.int .i64 (st:Nat)) v).run P w= .ok () w' ∧gH enc w' b (cE l k v)∧Fr (fun i=>i=b) w w' :=by
 obtain⟨es,clock,hb,hl,hn,hborn,hnb,i,x,u,hi,rfl,hp⟩:=h
 have hg:(getObj b).run P w= .ok (.map es clock) w:=by simp[getObj,Sem.run,hb]
 have hidx:es.findIdx? (fun e=>((e.born:Nat):Int) == ((x.born:Nat):Int))=some i:=by
  rw[WideElems.findIdx_arr]
  exact WideElems.findIdx_born hnb hi
 refine⟨setBlock w b (.map (es.modify i fun e=>{e with val:=v}) clock), ?_,⟨_,clock,er hb, ?_,gj hn, ?_, ?_⟩,dW⟩
 ·simp[Instr.entryStore,hg,asInt,asIntOf,hidx,eF hb]
 ·rw[o9 hn hp,Array.toList_modify]
  apply List.ext_getElem?
  intro j
  have hj:=congrArg (fun q:List (Value×Value)=>q[j]?) hl
  simp only[List.getElem?_map]at hj
  simp only[List.getElem?_map,List.getElem?_modify,List.getElem?_set]
  by_cases hij:i=j
  ·subst hij
   have hlt:=(List.getElem?_eq_some_iff.1 hp).1
   rw[hi,hp]at hj
   simp only[Option.map_some,Option.some.injEq,Prod.mk.injEq]at hj
   simp[hi,hlt,hj.1]
  ·simp only[hij,if_false]
   simpa using hj
 ·intro e he
  rw[Array.toList_modify]at he
  obtain⟨j,hj⟩:=List.mem_iff_getElem?.1 he
  rw[List.getElem?_modify]at hj
  cases hej:es.toList[j]? with
  |none=>rw[hej]at hj;simp at hj
  |some e0=>
   have:=hborn e0 (List.mem_of_getElem? hej)
   rw[hej]at hj
   simp only[Option.map_eq_map,Option.map_some,Option.some.injEq]at hj
   subst hj
   split <;> exact this
 ·have:(es.modify i fun e=>{e with val:=v}).toList.map (·.born)=es.toList.map (·.born):=by
   apply List.ext_getElem?
   intro j
   rw[Array.toList_modify]
   simp only[List.getElem?_map,List.getElem?_modify]
   cases es.toList[j]? with
   |none=>rfl
   |some e0=>simp only[Option.map_eq_map,Option.map_some];split <;> rfl
  rw[this]
  exact hnb
section
variable{P:Program}{Q:Exit→Act→World→Prop}{N:Nat}{D:List Deferred}{ρ:Env}{b:cC}{X S:List bh}{ty t kt et:TypeId}{x y q:Operand}{K:Value→List bh→List bh→Prop}{g:Nat}{l:List (κ×Value)}
theorem zA{k:κ}{z:Value}{sz bytes:Nat}(i:Nat)(hi:X[i]? =some (cT enc g l))(hx:ev ρ x=some (.map (some g)))(hy:ev ρ y=some (enc k))(ht:P.underlying t=some (.map kt et))(hT:TI P et z sz bytes)(hK:oL P kt enc)
  (kk:∀st:Nat,K (.tuple #[(b8 l k).getD z,.int .i64 (st:Nat)]) (Bu enc g (cE l k ((b8 l k).getD z)) k st::X.eraseIdx i) S):XH P Q N D ρ b X S (.mapEntry t x y) ty K:=fun w m=>by
 obtain⟨st,w',hrun,hE,hf⟩:=uP ht hT hK (m.p4 i hi) k
 refine cS (v' :=.tuple #[(b8 l k).getD z,.int .i64 (st:Nat)]) (w' :=w') (fun a _ _ _ _ ha=>by simp[execOp,ha.eval hx,ha.eval hy,hrun]) ⟨_,_, ?_,kk st⟩
 have m' :=m.perm (ar [i] X [cT enc g l] (X.eraseIdx i) (by simp[bT,hi]))
 exact m'.change (r' :=Bu enc g (cE l k ((b8 l k).getD z)) k st) hf hE (fun k hk=>.inl hk)
theorem qT{k:κ}{st:Nat}{v:Value}(i:Nat)(hi:X[i]? =some (Bu enc g l k st))(hx:ev ρ x=some (.map (some g)))(hy:ev ρ y=some (.int .i64 (st:Nat)))(hq:ev ρ q=some v)
  (kk:K undef (cT enc g (cE l k v)::X.eraseIdx i) S):XH P Q N D ρ b X S (.entryStore t x y q) ty K:=fun w m=>by
 have hE:wT enc w g l k st:=m.hx _ (List.mem_of_getElem? hi)
 obtain⟨w',hrun,hM,hf⟩:=tE (P:=P) (t:=t) hE v
 refine jP (w' :=w') (fun a _ _ _ _ ha=>by simp[execOp,ha.eval hx,ha.eval hy,ha.eval hq,hrun]) ⟨_,_, ?_,kk⟩
 have m' :=m.perm (ar [i] X [Bu enc g l k st] (X.eraseIdx i) (by simp[bT,hi]))
 exact m'.change (r' :=cT enc g (cE l k v)) hf hM (fun k hk=>.inl hk)
end
end
end Go.Eng
end
section
namespace Go.Eng
theorem lY{cur vs:List Value}{o m j:Nat}(hj:j+vs.length≤m)(hm:o+m≤cur.length):((bz cur (o+j) vs).drop o).take m=bz ((cur.drop o).take m) j vs:=by
 apply List.ext_getElem?
 intro i
 rw[qo (by simp;omega)]
 by_cases hi:i<m
 ·rw[List.getElem?_take_of_lt hi,List.getElem?_drop,qo (by omega)]
  by_cases h1:i<j
  ·rw[if_pos h1,if_pos (by omega),List.getElem?_take_of_lt hi,List.getElem?_drop]
  ·rw[if_neg h1,if_neg (by omega)]
   by_cases h2:i<j+vs.length
   ·rw[if_pos h2,if_pos (by omega)];congr 1;omega
   ·rw[if_neg h2,if_neg (by omega),List.getElem?_take_of_lt hi,List.getElem?_drop]
 ·rw[List.getElem?_take_eq_none (by omega),if_neg (by omega),if_neg (by omega),List.getElem?_take_eq_none (by omega)]
section
variable{P:Program}{Q:Exit→Act→World→Prop}{N:Nat}{D:List Deferred}{ρ:Env}{w:World}{x y:Operand}{ty t e:TypeId}{v:Value}{K:Value→World→Prop}
theorem EO{A:Option Addr}{n c base sz szt j:Nat}{xs vs:List Value}(hx:ev ρ x=some (.pointer (some ((A.getD d0).add j))))(hy:ev ρ y=some (.agg vs.toArray))(hs:fm P t=some szt)(hl:vs.length=szt)(h1:∀u∈vs,u.oneCell' =true)(h:Own w base e sz (.slice A n c) n xs)(hj:j+szt≤n*sz)(hn0:0<n)
  (k:∀w',Fr (je (.slice A n c)) w w' →Own w' base e sz (.slice A n c) n (bz xs j vs)→w'.heap.size=w.heap.size→K undef w'):XW P Q N D ρ w (.store t x y) ty K:=by
 rcases h with⟨hl',⟨h2,rfl⟩|⟨g,o,cap,cur,h2,hb,hg,hn,hm,hc,hxs⟩⟩
 ·omega
 ·injection h2 with h2 h3 h4
  subst h2;subst h4
  have hle:n*sz≤c*sz:=Nat.mul_le_mul_right _ hn
  refine zG (g:=g) (o:=o+j) (by rw[hx,Option.getD_some,ff]) hy hs hl h1 hg (by omega) fun w' hf hb' hsz=>k w' ?_ ⟨?_,.inr ⟨g,o,c,_,rfl,hb,hb',hn,hm,by rw[dK (by omega)];exact hc, ?_⟩⟩ hsz
  ·exact hf.mono fun i _ hi=>hi
  ·rw[dK (by omega)];exact hl'
  ·rw[lY (by omega) (by omega),hxs]
theorem BW{A B:Option Addr}{n c base sz bytes m c' k:Nat}{z:Value}{xs:List Value}(hx:ev ρ x=some (.slice B m c'))(ht:P.underlying t=some (.slice e))(hT:TI P e z sz bytes)(hz:z.cells.size=sz)(h1:∀u∈z.cells.toList,u.oneCell' =true)(h:Own w base e sz (.slice A n c) n xs)(hB:0<m→B=some ((A.getD d0).add (k*sz)))(hk:k+m≤n)
  (kk:∀w' zs,Fr (je (.slice A n c)) w w' →zs.length=m*sz→Own w' base e sz (.slice A n c) n (bz xs (k*sz) zs)→w'.heap.size=w.heap.size→K (.tuple #[]) w'):XW P Q N D ρ w (.call ⟨.builtin .clear, #[x], #[t]⟩) ty K:=by
 obtain⟨i,hi,hzero,_,_⟩:=hT.get
 rcases Nat.eq_zero_or_pos m with rfl|hm
 ·refine cS (v' :=.tuple #[]) (w' :=w) (fun a _ _ _ _ ha=> ?_) (kk w [] (Fr.refl _ _) (by simp) (by rw[ma];exact h) rfl)
  cases B <;> simp[execOp,resolve,invoke,builtin,Builtin.clear_,ha.eval hx,run_underlying ht]
 ·obtain rfl:=hB hm
  rcases h with⟨hl',⟨h2,rfl⟩|⟨g,o,cap,cur,h2,hb,hg,hn,hmx,hc,hxs⟩⟩
  ·omega
  ·injection h2 with h2 h3 h4
   subst h2;subst h4
   have hle:n*sz≤c*sz:=Nat.mul_le_mul_right _ hn
   have hkm:k*sz+m*sz≤n*sz:=by rw[←Nat.add_mul];exact Nat.mul_le_mul_right _ hk
   have hzl:(Builtin.zeroCells z.cells m).toList.length=m*sz:=by simp[Builtin.zeroCells,hz]
   have hz1:∀u∈(Builtin.zeroCells z.cells m).toList,u.oneCell' =true:=by
    intro u hu
    rw[Builtin.zeroCells,Array.toList_map,List.mem_map]at hu
    obtain⟨j,hj,rfl⟩:=hu
    have hj2:j<m*z.cells.size:=by simpa using hj
    have h0:0<z.cells.size:=by
     rcases Nat.eq_zero_or_pos z.cells.size with h|h
     ·rw[h,Nat.mul_zero]at hj2;omega
     ·exact h
    have hlt:j % z.cells.size<z.cells.size:=Nat.mod_lt _ h0
    rw[getElem!_pos z.cells _ hlt]
    exact h1 _ (Array.getElem_mem_toList hlt)
   obtain⟨w',hst,hb',hf,hsz⟩:=j8 (P:=P) (Builtin.zeroCells z.cells m).toList (o+k*sz) 0 cur w hg (by omega) hz1
   refine cS (v' :=.tuple #[]) (w' :=w') (fun a _ _ _ _ ha=> ?_) (kk w' _ (hf.mono fun i _ hi=>hi) hzl ⟨by rw[dK (by omega)];exact hl',.inr ⟨g,o,c,_,rfl,hb,(by simpa using hb'),hn,hmx,by rw[dK (by omega)];exact hc,by rw[lY (by omega) (by omega),hxs]⟩⟩ hsz)
   obtain⟨m',rfl⟩:∃m',m=m' +1:=⟨m-1,by omega⟩
   simp[execOp,resolve,invoke,builtin,Builtin.clear_,ha.eval hx,run_underlying ht,zeroValue,typeInfo,hi,hzero,ff,hst]
end
section
variable{P:Program}{Q:Exit→Act→World→Prop}{N:Nat}{D:List Deferred}{ρ:Env}{b:cC}{X S:List bh}{x y:Operand}{ty t t' e:TypeId}{K:Value→List bh→List bh→Prop}
theorem Bp{A:Option Addr}{n c sz szt j:Nat}{xs vs:List Value}(i:Nat)(hi:X[i]? =some (aG e sz (.slice A n c) n xs))(hx:ev ρ x=some (.pointer (some ((A.getD d0).add j))))(hy:ev ρ y=some (.agg vs.toArray))(hs:fm P t=some szt)(hl:vs.length=szt)(h1:∀u∈vs,u.oneCell' =true)(hj:j+szt≤n*sz)(hn0:0<n)
  (k:K undef (aG e sz (.slice A n c) n (bz xs j vs)::X.eraseIdx i) S):XH P Q N D ρ b X S (.store t x y) ty K:=fun w m=>EO hx hy hs hl h1 (m.own i hi) hj hn0 fun w' hf hb hsz=>⟨_,_,by
  have m' :=m.perm (ar [i] X [aG e sz (.slice A n c) n xs] (X.eraseIdx i) (by simp[bT,hi]))
  exact m'.change (r' :=aG e sz (.slice A n c) n (bz xs j vs)) hf hb (fun k hk=>.inl hk),k⟩
theorem zi{A B:Option Addr}{n c sz bytes m c' k:Nat}{z:Value}{xs:List Value}(i:Nat)(hi:X[i]? =some (aG e sz (.slice A n c) n xs))(hx:ev ρ x=some (.slice B m c'))(ht:P.underlying t=some (.slice e))(hT:TI P e z sz bytes)(hz:z.cells.size=sz)(h1:∀u∈z.cells.toList,u.oneCell' =true)(hB:0<m→B=some ((A.getD d0).add (k*sz)))(hk:k+m≤n)
  (kk:∀zs,zs.length=m*sz→K (.tuple #[]) (aG e sz (.slice A n c) n (bz xs (k*sz) zs)::X.eraseIdx i) S):XH P Q N D ρ b X S (.call ⟨.builtin .clear, #[x], #[t]⟩) ty K:=fun w mm=>BW hx ht hT hz h1 (mm.own i hi) hB hk fun w' zs hf hzl hb hsz=>⟨_,_,by
  have m' :=mm.perm (ar [i] X [aG e sz (.slice A n c) n xs] (X.eraseIdx i) (by simp[bT,hi]))
  exact m'.change (r' :=aG e sz (.slice A n c) n (bz xs (k*sz) zs)) hf hb (fun k hk=>.inl hk),kk zs hzl⟩
end
end Go.Eng
end
section
set_option maxRecDepth 20000
namespace Go.Proofs.YtmibdabdlgmafaaGreatDoor
open Go.Eng Go.Hx
theorem Eg{w:World}{A:Option Addr}{n:Nat}{ds:List (List UInt8)}(h:Rd w 32 A n (dc ds))(hd:nr ds):ds.length=n:=by
 have:=h.1
 rw[fY hd]at this
 omega
end Go.Proofs.YtmibdabdlgmafaaGreatDoor
end
section
set_option maxRecDepth 20000
namespace Go.Proofs.YtmibdabdlgmafaaGreatDoor
open Go.Eng Go.Hx
theorem xv(ds:List (List UInt8))(k:Nat)(h:k<ds.length):(ds.take (k+1)).foldl eK []=eK ((ds.take k).foldl eK []) (ds.getD k []):=by
 rw[List.take_succ_eq_append_getElem h,List.foldl_append,List.getD,List.getElem?_eq_getElem h]
 rfl
theorem A6{ds:List (List UInt8)}(h:nr ds)(k:Nat):nr ((ds.take k).foldl eK [])∧((ds.take k).foldl eK []).length≤k:=by
 induction k with
 |zero=>exact⟨fun d hd=>by simp at hd,by simp⟩
 |succ k ih=>
  by_cases hk:k<ds.length
  ·rw[xv ds k hk]
   have:=tl ((ds.take k).foldl eK []) (ds.getD k [])
   exact⟨zW ih.1 (gV h hk),by omega⟩
  ·rw[List.take_of_length_le (by omega)]at ih ⊢
   exact⟨ih.1,by omega⟩
end Go.Proofs.YtmibdabdlgmafaaGreatDoor
end
section
set_option maxRecDepth 20000
namespace Go.Proofs.YtmibdabdlgmafaaGreatDoor
open Go.Eng Go.Hx
end Go.Proofs.YtmibdabdlgmafaaGreatDoor
end
section
set_option maxRecDepth 20000
namespace Go.Proofs.YtmibdabdlgmafaaGreatDoor
open Go.Eng Go.Hx
theorem number(n:Nat)(w:World)(hn:n<4294967296):
  Calls Tryz.prog 160 #[.int .i64 (n:Int)] w fun e w' =>∃v,e= .returned v∧Go.Eng.Own w' w.heap.size 5 1 v 4 (aR (gy n))∧Fr No w w' :=by
 refine enter (N:=21) Tryz.func160 rfl rfl (by simp) ?_
 refine ba<|bm<|nq (ab rfl)<|bl<|aJ<|ba<|bm<|nq (aa rfl)<|nq (bW rfl Tryz.underlying3 Tryz.underlying166 ((wW (by omega) (by omega))))<|nq (ab rfl)<|bl<|bV (ae (t:=3) rfl<|ae (t:=2) rfl<|ae (t:=0) rfl<|aF)<|aJ<|ba<|bm<|nq (aa rfl)<|nq (gU rfl rfl (by omega) (by omega))<|nq (bW rfl Tryz.underlying166 Tryz.underlying5 ((show IntKind.u8.wrap ((n:Int) % 256)=((UInt8.ofNat n).toNat:Int) by simp[IntKind.wrap,IntKind.signed,IntKind.bits])))<|nq (aa rfl)<|nq (jF rfl rfl (by omega) (by omega) (wW (by omega) (by omega)))<|nq (gU rfl rfl (by omega) (by omega))<|nq (bW rfl Tryz.underlying166 Tryz.underlying5 ((show IntKind.u8.wrap ((n:Int)/256 % 256)=((UInt8.ofNat (n/256)).toNat:Int) by simp[IntKind.wrap,IntKind.signed,IntKind.bits])))<|nq (aa rfl)<|nq (jF rfl rfl (by omega) (by omega) (wW (by omega) (by omega)))<|nq (gU rfl rfl (by omega) (by omega))<|nq (bW rfl Tryz.underlying166 Tryz.underlying5 ((show IntKind.u8.wrap ((n:Int)/65536 % 256)=((UInt8.ofNat (n/65536)).toNat:Int) by simp[IntKind.wrap,IntKind.signed,IntKind.bits])))<|nq (aa rfl)<|nq (jF rfl rfl (by omega) (by omega) (wW (by omega) (by omega)))<|nq (bW rfl Tryz.underlying166 Tryz.underlying5 ((show IntKind.u8.wrap ((n:Int)/16777216)=((UInt8.ofNat (n/16777216)).toNat:Int) by simp[IntKind.wrap,IntKind.signed,IntKind.bits])))<| ?_
 refine nx (oo Tryz.underlying27 fb rfl rfl rfl (by simp[Value.cells,B8]) (by decide) (by decide) fun g w1 hg hf1 hb1=> ?_)
 refine nq (ab rfl)<|bl<|bV (ae (t:=2) rfl<|ae (t:=3) rfl<|ae (t:=0) rfl<|aF)<|aJ<|e8<| ?_
 exact gz trivial rfl rfl ⟨_,rfl,Own.made hb1 hg (Nat.le_refl _) (by decide) rfl,hf1⟩
end Go.Proofs.YtmibdabdlgmafaaGreatDoor
end
section
set_option maxRecDepth 20000
namespace Go.Proofs.YtmibdabdlgmafaaGreatDoor
open Go.Eng Go.Hx
theorem E0{A:Option Addr}{n c:Nat}{l:List UInt8}{m:Nat}(hc:n≤c)(hn:n≤140737488351232):cj Tryz.prog 32 [.slice A n c,.int .i64 (m:Int)] [] [cV 1 A n (aR l)] (fun v_ X_ S_=>∃v,v_=v∧X_=[aG 5 1 v (min n m) (aR (l.take m))]∧S_=[]):=by
 exact kF fun mm=>Calls.mono (HY A n c l m _ (mm.rd 0 rfl) hc hn) (fun e w' ⟨v,h,ho,hf⟩=>⟨v,v,_,_,_,_,h,⟨v,rfl,rfl,rfl⟩,ho,hf⟩)
theorem rO{n m:Int}(h1:-9223372036854775808≤n)(h2:n≤9223372036854775807)(hm:0<m):cj Tryz.prog 16 [.int .i64 n,.int .i64 m] [] [] (fun v_ X_ S_=>v_=(.int .i64 (cU n m))∧X_=[]∧S_=[]):=by
 exact iA fun mm=>Calls.mono (AD n m _ h1 h2 hm) (fun e w' ⟨h,hw⟩=>⟨_,h,⟨rfl,rfl,rfl⟩,hw▸Fr.refl _ _⟩)
theorem zB{A:Option Addr}{n c:Nat}{l:List UInt8}(hn:n≤70368744177664):cj Tryz.prog 189 [.slice A n c] [] [cV 1 A n (aR l)] (fun v_ X_ S_=>∃v,v_=v∧X_=[aG 5 1 v (n+4) (aR (Am l))]∧S_=[]):=by
 exact kF fun m=>Calls.mono (Co A n c l _ (m.rd 0 rfl) hn) (fun e w' ⟨v,h,ho,hf⟩=>⟨v,v,_,_,_,_,h,⟨v,rfl,rfl,rfl⟩,ho,hf⟩)
theorem CH{n:Nat}(hn:n<4294967296):cj Tryz.prog 160 [.int .i64 (n:Int)] [] [] (fun v_ X_ S_=>∃v,v_=v∧X_=[aG 5 1 v 4 (aR (gy n))]∧S_=[]):=by
 exact kF fun m=>Calls.mono (number n _ hn) (fun e w' ⟨v,h,ho,hf⟩=>⟨v,v,_,_,_,_,h,⟨v,rfl,rfl,rfl⟩,ho,hf⟩)
end Go.Proofs.YtmibdabdlgmafaaGreatDoor
end
section
set_option maxRecDepth 20000
namespace Go.Proofs.YtmibdabdlgmafaaGreatDoor
open Go.Eng Go.Hx Go.Sort
structure oX where
 b:List UInt8
 h:b.length=32
theorem oX.ext'{x y:oX}(e:x.b=y.b):x=y:=by
 cases x
 cases y
 cases e
 rfl
instance:Inhabited oX:=⟨⟨List.replicate 32 0,List.length_replicate⟩⟩
def l6(x:oX):List Value:=aR x.b
theorem tW(x:oX):(l6 x).length=32:=by rw[l6,ay,x.h]
theorem wD(l:List oX):nr (l.map (·.b)):=fun d hd=>by
 obtain⟨x,_,rfl⟩:=List.mem_map.1 hd
 exact x.h
theorem BP{ds:List (List UInt8)}(h:nr ds):∃l:List oX,l.map (·.b)=ds:=by
 induction ds with
 |nil=>exact⟨[],rfl⟩
 |cons d r ih=>
  obtain⟨l,hl⟩:=ih (fun x hx=>h x (List.mem_cons_of_mem _ hx))
  exact⟨⟨d,h d (List.mem_cons_self ..)⟩::l,by rw[List.map_cons,hl]⟩
theorem wV(l:List oX):flatK l6 32 l.toArray=(dc (l.map (·.b))).toArray:=by
 have hD:=wD l
 apply Array.ext
 ·simp[fY hD]
 ·intro t h1 h2
  have ht:t<l.length*32:=by simpa using h1
  have hq:t/32<l.length:=by omega
  have e1:(flatK l6 32 l.toArray)[t]! =(l6 l.toArray[t/32]!)[t % 32]! :=get_flatK _ _ _ t (by simpa using ht)
  have e0:l.toArray[t/32]! =l[t/32]:=by simp[hq]
  have hl32:=tW l[t/32]
  have hm:t % 32<(l6 l[t/32]).length:=by rw[hl32];omega
  have e2:(aR ((l.map (·.b)).getD (t/32) []))[t % 32]? =some ((l6 l[t/32])[t % 32]):=by
   have:(l.map (·.b)).getD (t/32) []=l[t/32].b:=by simp[List.getD,hq]
   rw[this]
   exact List.getElem?_eq_getElem hm
  have e3:=Aq hD (t/32) (by simpa using hq) (t % 32) _ e2
  have e4:t/32*32+t % 32=t:=by omega
  rw[e4]at e3
  have e5:=(List.getElem?_eq_some_iff.1 e3).2
  rw[←getElem!_pos (flatK l6 32 l.toArray) t h1,e1,e0,getElem!_pos (l6 l[t/32]) (t % 32) hm,List.getElem_toArray]
  exact e5.symm
theorem zu(aZ off size:Nat)(w:World):CmpLays Tryz.prog 148 #[] l6 32 (fun x y:oX=>cb x.b y.b) aZ off size w:=fun m os dk _ x y=>by
 have:=y7 x.b y.b (sortWorldK l6 32 w aZ off m dk os) x.h y.h
 simpa[l6]using this
theorem GC(x y:oX):ltOf (fun x y:oX=>cb x.b y.b) x y=decide (cb x.b y.b<0):=rfl
theorem Ha:SWO (ltOf fun x y:oX=>cb x.b y.b)where
 irrefl x:=by rw[GC,o4];rfl
 trans x y z h1 h2:=by
  rw[GC]at*
  simp only[decide_eq_true_eq]at*
  exact kV h1 h2
 ntrans x y z h1 h2:=by
  rw[GC]at*
  simp only[decide_eq_false_iff_not]at*
  have a1:=gb x.b y.b
  have a2:=gb y.b z.b
  have a3:=gb x.b z.b
  have:=mZ z.b y.b x.b (by omega) (by omega)
  omega
theorem He(x y:oX)(h:ltOf (fun x y:oX=>cb x.b y.b) x y=false)(h2:ltOf (fun x y:oX=>cb x.b y.b) y x=false):x=y:=by
 rw[GC]at*
 simp only[decide_eq_false_iff_not]at*
 have:=gb x.b y.b
 exact oX.ext' (pa _ _ (by omega))
theorem Cl(l:List oX):(l.mergeSort fun x y=> !(ltOf (fun x y:oX=>cb x.b y.b)) y x).map (·.b)=jT (l.map (·.b)):=List.map_mergeSort fun a _ b _=>rfl
theorem xS{w:World}{g n o:Nat}{os:Array Obj}{cur:Array Value}{e:TypeId}{fr:Nat×Nat}(d:Array Value)(hb:w.heap[g]? =some (.cells cur e fr)):
  (grow (putRow id (Go.Sort.ahead w n) g o d) os).heap[g]? =some (.cells (putCells id o d cur) e fr):=by
 have hg:g<w.heap.size:=(Array.getElem?_eq_some_iff.1 hb).1
 rw[heap_grow_old _ _ (by simpa using hg)]
 simp[putRow,mapBlock,Go.Sort.ahead,Array.getElem?_modify,hb,onCells]
theorem Cp{w:World}{g n o:Nat}{os:Array Obj}(d:Array Value):Fr (fun k=>k=g) w (grow (putRow id (Go.Sort.ahead w n) g o d) os):=by
 refine⟨rfl,rfl,rfl,by simp,fun k hk hne=> ?_⟩
 rw[heap_grow_old _ _ (by simpa using hk)]
 have:g≠k:=fun e=>hne e.symm
 simp[putRow,mapBlock,Go.Sort.ahead,Array.getElem?_modify,this]
theorem xt(cur:List Value)(o:Nat)(vs:List Value)(h:o+vs.length≤cur.length):((putCells id o vs.toArray cur.toArray).toList.drop o).take vs.length=vs:=by
 apply List.ext_getElem?
 intro j
 by_cases hj:j<vs.length
 ·rw[List.getElem?_take_of_lt hj,List.getElem?_drop,Array.getElem?_toList]
  simp[putCells,hj,show o+j<cur.length by omega]
 ·rw[List.getElem?_take_eq_none (by omega),List.getElem?_eq_none (by omega)]
theorem BA{A:Option Addr}{n c base:Nat}{e:TypeId}{l:List oX}{w:World}(h:Go.Eng.Own w base e 32 (.slice A n c) n (dc (l.map (·.b))))(hn6:n≤1000000):
  Calls Tryz.prog 147 #[.slice A n c,.func (.func 148) #[] #[]] w fun r w' =>r= .returned (.tuple #[])∧Go.Eng.Own w' base e 32 (.slice A n c) n (dc (jT (l.map (·.b))))∧Fr (je (.slice A n c)) w w' :=by
 obtain⟨h1,h2⟩:=h
 have hD:=wD l
 have hl:l.length=n:=by
  rw[fY hD,List.length_map]at h1
  omega
 rcases h2 with⟨hv,hn⟩|⟨g,o,cap,cur,hv,hb,⟨fr,hh,hf,hfl⟩,hnc,hcm,hfit,hcs⟩
 ·cases hv
  obtain rfl:l=[]:=List.eq_nil_of_length_eq_zero hl
  refine Calls.mono (AnyF.slices_SortFunc_none Tryz.C5 none 0 _ w) (fun r w' ⟨hr,hw⟩=>⟨hr, ?_, ?_⟩)
  ·subst hw;exact⟨by simp[jT,dc],.inl ⟨rfl,rfl⟩⟩
  ·subst hw;exact Fr.refl _ _
 ·cases hv
  subst hl
  have hB:fE w g e cur:=⟨fr,hh,hf,hfl⟩
  have hdl:(dc (l.map (·.b))).length=l.length*32:=by rw[fY hD,List.length_map]
  have hH:HoldsK l6 32 w g o l.toArray:=by
   unfold HoldsK
   rw[wV]
   intro j hj
   have hj' :j<(dc (l.map (·.b))).length:=by simpa using hj
   have h3:((cur.drop o).take (l.length*32))[j]? =(dc (l.map (·.b)))[j]? :=by rw[hcs]
   rw[List.getElem?_take_of_lt (by omega),List.getElem?_drop,List.getElem?_eq_getElem hj']at h3
   refine⟨?_,hB.frozen (by omega)⟩
   rw[hB.cell h3]
   simp[hj']
  have hen:∀args w,(callFunc 148 args).run Tryz.prog w= .ok (.enter 148 args) w:=Tryz.call148
  refine Calls.mono (AnyQ.slices_SortFunc_total Tryz.C5 32 Tryz.isAgg53 Tryz.sizeOf53 l6 tW (fun x v hv=>gC v hv) (fun x y=>cb x.b y.b) Ha 148 #[] g o c l.toArray w hen (zu g o _ w) hH hB.lt (by simp;omega) He) ?_
  rintro r w' ⟨hr,k,os,rfl⟩
  have hsl:(dc (jT (l.map (·.b)))).length=l.length*32:=by
   rw[fY (fun d hd=>hD d ((jD _).mem_iff.1 hd)),tN,List.length_map]
  have hw' :sortWorldK l6 32 w g o k (l.toArray.toList.mergeSort fun x y=> !(ltOf (fun x y:oX=>cb x.b y.b)) y x).toArray os=grow (putRow id (Go.Sort.ahead w k) g o (dc (jT (l.map (·.b)))).toArray) os:=by
   unfold sortWorldK putRowK
   rw[wV,Cl]
  rw[hw']
  refine⟨hr,⟨hsl,.inr ⟨g,o,c,(putCells id o (dc (jT (l.map (·.b)))).toArray cur.toArray).toList,rfl,hb, ?_,hnc,hcm,by simp[putCells];omega, ?_⟩⟩,Cp _⟩
  ·have:=xS (n:=k) (o:=o) (os:=os) (dc (jT (l.map (·.b)))).toArray hh
   exact⟨fr,by simpa using this,fun i hi=>hf i (by simpa[putCells]using hi),by simpa[putCells]using hfl⟩
  ·have:=xt cur o (dc (jT (l.map (·.b)))) (by rw[hsl];omega)
   rw[hsl]at this
   exact this
theorem rC{A:Option Addr}{n c:Nat}{e:TypeId}{ds:List (List UInt8)}(hD:nr ds)(hn:n≤1000000):cj Tryz.prog 147 [.slice A n c,.func (.func 148) #[] #[]] [aG e 32 (.slice A n c) n (dc ds)] [] (fun v_ X_ S_=>v_=(.tuple #[])∧X_=[aG e 32 (.slice A n c) n (dc (jT ds))]∧S_=[]):=by
 obtain⟨l,rfl⟩:=BP hD
 refine fun w m=>Calls.mono (BA (m.own 0 rfl) hn) ?_
 rintro r w' ⟨hr,ho,hf⟩
 exact⟨_,_,_,hr,⟨rfl,rfl,rfl⟩,m.change (r' :=aG e 32 (.slice A n c) n (dc (jT (l.map (fun x:oX=>x.b))))) hf ho (fun k hk=>.inl hk)⟩
end Go.Proofs.YtmibdabdlgmafaaGreatDoor
end
section
set_option maxRecDepth 20000
set_option maxHeartbeats 4000000
namespace Go.Proofs.YtmibdabdlgmafaaGreatDoor
open Go.Eng Go.Hx
theorem ux:∀(l:List (List UInt8)) (a b:List UInt8),lV (l++[a,b])=if a=b then lV (l++[a])else lV (l++[a])++[b]
 | [],a,b=>by
  by_cases h:a=b
  ·simp[lV,h]
  ·simp[lV,h]
 | [x],a,b=>by
  by_cases h:a=b
  ·by_cases h2:x=a <;> simp[lV,h,h2]
  ·by_cases h2:x=a <;> simp[lV,h,h2]
 |x::y::r,a,b=>by
  have ih:=ux (y::r) a b
  simp only[List.cons_append]at ih ⊢
  by_cases h2:x=y
  ·rw[lV,if_pos h2,ih,lV,if_pos h2]
  ·rw[lV,if_neg h2,ih,lV,if_neg h2]
   split <;> rfl
theorem nt{ds:List (List UInt8)}{m:Nat}(h0:0<m)(hm:m<ds.length):lV (ds.take (m+1))=if ds.getD m []=ds.getD (m-1) []then lV (ds.take m)else lV (ds.take m)++[ds.getD m []]:=by
 have e1:ds.take (m+1)=ds.take (m-1)++[ds.getD (m-1) [],ds.getD m []]:=by
  obtain⟨j,rfl⟩:∃j,m=j+1:=⟨m-1,by omega⟩
  rw[Nat.add_sub_cancel,List.take_succ_eq_append_getElem hm,List.take_succ_eq_append_getElem (by omega:j<ds.length),List.append_assoc]
  simp[List.getD,hm,(by omega:j<ds.length)]
 have e2:ds.take m=ds.take (m-1)++[ds.getD (m-1) []]:=by
  obtain⟨j,rfl⟩:∃j,m=j+1:=⟨m-1,by omega⟩
  rw[Nat.add_sub_cancel,List.take_succ_eq_append_getElem (by omega:j<ds.length)]
  simp[List.getD,(by omega:j<ds.length)]
 rw[e1,e2,ux]
 by_cases h:ds.getD (m-1) []=ds.getD m []
 ·rw[if_pos h,if_pos h.symm]
 ·rw[if_neg h,if_neg (fun e=>h e.symm)]
theorem vU(l:List (List UInt8)):(lV l).length≤l.length:=by
 match l with
 | []=>exact Nat.le_refl _
 | [a]=>exact Nat.le_refl _
 |a::b::r=>
  have ih:=vU (b::r)
  unfold lV
  split
  ·simp only[List.length_cons]at ih ⊢;omega
  ·simp only[List.length_cons]at ih ⊢;omega
theorem qV{l:List (List UInt8)}(h:l.length<2):lV l=l:=by
 match l,h with
 | [],_=>rfl
 | [a],_=>rfl
theorem zJ{w:World}{base:Nat}{e:TypeId}{sz n c q:Nat}{A:Option Addr}{xs:List Value}(h:Go.Eng.Own w base e sz (.slice A n c) n xs)(hq:q≤n):Go.Eng.Own w base e sz (.slice A q c) q (xs.take (q*sz)):=by
 obtain⟨h1,h2⟩:=h
 have hle:q*sz≤n*sz:=Nat.mul_le_mul_right _ hq
 refine⟨by rw[List.length_take];omega, ?_⟩
 rcases h2 with⟨hv,rfl⟩|⟨g,o,cap,cur,hv,hb,hB,hnc,hcm,hfit,hcs⟩
 ·cases hv
  obtain rfl:q=0:=by omega
  exact .inl ⟨rfl,rfl⟩
 ·cases hv
  refine .inr ⟨g,o,c,cur,rfl,hb,hB,by omega,hcm,hfit, ?_⟩
  rw[←hcs,List.take_take,Nat.min_eq_left hle]
theorem View.Bj{e:TypeId}{sz n c q:Nat}{A:Option Addr}{xs:List Value}(hq:q≤n):View (aG e sz (.slice A n c) n xs) (aG e sz (.slice A q c) q (xs.take (q*sz))):=
 .of (fun w h=>zJ h hq) (fun k h=>by cases A <;> exact h)
theorem sf{w:World}{a0:Addr}{k k2:Nat}{l:List Value}(h:∀(j:Nat) (u:Value),l[j]? =some u→w.cell? ((((some a0:Option Addr).getD d0).add ((k+k2)*32)).add j)=some u):
  ∀(j:Nat) (u:Value),l[j]? =some u→w.cell? ((((some (a0.add (k*32)):Option Addr).getD d0).add (k2*32)).add j)=some u:=fun j u hu=>by
 have:=h j u hu
 rw[Option.getD_some]at this ⊢
 rw[add_add]at this ⊢
 rw[add_add]
 have e:k*32+(k2*32+j)=(k+k2)*32+j:=by omega
 rw[e]
 exact this
theorem xy{ys:List (List UInt8)}{q:Nat}{d:List UInt8}(hD:nr ys)(hd:d.length=32)(hq:q<ys.length):bz (dc ys) (q*32) (aR d)=dc (ys.set q d):=by
 have e:ys=ys.take q++[ys[q]]++ys.drop (q+1):=by simp
 have e2:ys.set q d=ys.take q++[d]++ys.drop (q+1):=by
  rw[List.set_eq_take_append_cons_drop,if_pos hq];simp
 rw[e2]
 conv=>lhs;rw[e]
 rw[fy,fy,fy,fy,yL,yL]
 refine iB ?_ ?_
 ·rw[fY (fun x hx=>hD x (List.mem_of_mem_take hx)),List.length_take];omega
 ·rw[ay,ay,hd,hD _ (List.getElem_mem hq)]
theorem pI{ys ds:List (List UInt8)}{q j:Nat}(h:ys.drop q=ds.drop q)(hj:q≤j):ys.getD j []=ds.getD j []:=by
 have h1:(ys.drop q)[j-q]? =(ds.drop q)[j-q]? :=by rw[h]
 rw[List.getElem?_drop,List.getElem?_drop,show q+(j-q)=j by omega]at h1
 rw[List.getD,List.getD,h1]
theorem yJ{ys:List (List UInt8)}{q:Nat}{d:List UInt8}(hq:q<ys.length):(ys.set q d).take (q+1)=ys.take q++[d]:=by
 have hl:(ys.take q).length=q:=by rw[List.length_take];omega
 rw[List.set_eq_take_append_cons_drop,if_pos hq,List.take_append,List.take_of_length_le (by omega),hl,show q+1-q=1 by omega]
 rfl
theorem set_drop{ys ds:List (List UInt8)}{q:Nat}{d:List UInt8}(h:ys.drop q=ds.drop q):(ys.set q d).drop (q+1)=ds.drop (q+1):=by
 rw[List.drop_set,if_pos (Nat.lt_succ_self q),←List.drop_drop,←List.drop_drop,h]
theorem CF{ys:List (List UInt8)}{q:Nat}{d:List UInt8}(h:nr ys)(hd:d.length=32):nr (ys.set q d):=fun x hx=>by
 rcases List.mem_or_eq_of_mem_set hx with hx|rfl
 ·exact h x hx
 ·exact hd
theorem zh{A:Option Addr}{n c:Nat}{ds:List (List UInt8)}(hD:nr ds)(hl:ds.length=n)(hnc:n≤c)(hn:n≤1000000):cj Tryz.prog 205 [.slice A n c] [aG 53 32 (.slice A n c) n (dc ds)] [] (fun v_ X_ S_=>∃k,v_=(.slice A k c)∧X_=[aG 53 32 (.slice A k c) k (dc (lV ds))]∧S_=[]∧(k=(lV ds).length)):=by
 refine aQ (N:=61) Tryz.func205 rfl rfl (by simp) fun b=> ?_
 refine aY (fun m=>(m.ord 0 rfl).2.1) fun hA_x=> ?_
 refine ah<|aj<|hy (fun _=>ab rfl)<|ai<|ag<|ah<|ah<|aj<|hy (fun _=>aa rfl)<|hy (fun _=>aU rfl Tryz.underlying33)<|hy (fun _=>bu rfl rfl)<|ai<|al (ρ' :=[(8,_),(2,_),(0,_)]) ⟨rfl,rfl,rfl,trivial⟩<|ag<| ?_
 refine cD rfl (fun h2=> ?_) (fun h2=> ?_)
 ·have e:=qV (l:=ds) (by omega)
  rw[e]
  refine ah<|aj<|hy (fun _=>aa rfl)<|hy (fun _=>ab rfl)<|ai<|al (ρ' :=[(2,_),(8,_),(0,_)]) ⟨rfl,rfl,rfl,trivial⟩<|ag<|aX<|ax<| ?_
  exact bf trivial rfl rfl [0] rfl [] rfl ⟨n,rfl,rfl,rfl,hl.symm⟩
 ·refine aC<|ag<|ah<|ah<|aj<|hy (fun _=>ab rfl)<|ai<|ag<|aI<| ?_
  refine dD (fun k=>n-k) (fun k=>[(3,.int .i64 (k:Nat))]) (fun k=>[aG 53 32 (.slice A n c) n (dc ds)]) (fun k=>[]) (fun k=>1≤k∧k≤n∧lV (ds.take k)=ds.take k) 1 [(8,_),(0,_)] ⟨rfl,rfl,trivial⟩ [0] rfl [] rfl (⟨Nat.le_refl _,by omega,qV (Nat.lt_of_le_of_lt (List.length_take_le _ _) (by decide))⟩) ⟨rfl,trivial⟩ (fun k ⟨hk1,hkn,hne⟩=> ?_)
  refine ah<|ah<|aj<|hy (fun _=>aa rfl)<|hy (fun _=>aa rfl)<|hy (fun _=>aU rfl Tryz.underlying33)<|hy (fun _=>bu rfl rfl)<|ai<|al (ρ' :=[(13,_),(3,_),(8,_),(0,_)]) ⟨rfl,rfl,rfl,rfl,trivial⟩<|ag<| ?_
  refine cD rfl (fun hlt=> ?_) (fun hlt=> ?_)
  ·have hk2:k<ds.length:=by omega
   have hk3:k-1<ds.length:=by omega
   have ha:=gV hD hk2
   have hb:=gV hD hk3
   have ha' :(aR (ds.getD k [])).length=32:=by rw[ay,ha]
   have hb' :(aR (ds.getD (k-1) [])).length=32:=by rw[ay,hb]
   refine aC<|ag<|ah<|aI<|ah<|cG [] [(0,some 0),(1,some 0),(2,some 0),(3,some 0),(4,some 0),(5,some 0),(6,some 0),(7,some 0),(8,some 0),(9,some 0)] (by kernel_rfl) (by kernel_rfl) rfl 99<|an (aa rfl)<|an (aa rfl)<|an (cH rfl rfl Tryz.underlying33 bo hA_x rfl (by omega))<|ca (fun m=>a6 rfl cx bo ha' ((m.ord 0 rfl).ku hD hk2))<|an (aa rfl)<|an (aa rfl)<|an (cw rfl rfl (bC (by omega) (by omega)))<|an (cH rfl rfl Tryz.underlying33 bo hA_x (show((k-1:Nat):Int)=_ by omega) (by omega))<|ca (fun m=>a6 rfl cx bo hb' ((m.ord 0 rfl).ku hD hk3))<|an (vF rfl rfl ha hb)<|br<|al (ρ' :=[(25,_),(13,_),(3,_),(8,_),(0,_)]) ⟨rfl,rfl,rfl,rfl,rfl,trivial⟩<|ag<| ?_
   refine cD rfl (fun heq=> ?_) (fun heq=> ?_)
   ·obtain⟨a0,rfl⟩:∃a0,A=some a0:=Option.ne_none_iff_exists'.1 (hA_x (by omega))
    refine ah<|aj<|hy (fun _=>aa rfl)<|hy (fun _=>aa rfl)<|hy (fun _=>yV (ej rfl rfl Tryz.underlying33 bo rfl (by omega)) ((show Value.slice (if c=k then some a0 else Option.map (fun x=>x.add (k*32)) (some a0)) (n-k) (c-k)= .slice (some (a0.add (k*32))) (n-k) (c-k)from by rw[if_neg (by omega)];rfl)))<|hy (fun _=>ab rfl)<|ai<|al (ρ' :=[(4,_),(25,_),(13,_),(3,_),(8,_),(0,_)]) ⟨rfl,rfl,rfl,rfl,rfl,rfl,trivial⟩<|ag<|ah<|ah<|aj<|hy (fun _=>ab rfl)<|ai<|ag<|aI<| ?_
    refine fJ (fun k2 q ys=>n-k2) (fun k2 q ys=>[(3,.int .i64 (q:Nat)),(5,.int .i64 (k2:Nat))]) (fun k2 q ys=>[aG 53 32 (.slice (some a0) n c) n (dc ys)]) (fun k2 q ys=>[]) (fun k2 q ys=>1≤k2∧k+k2≤n∧q+1≤k+k2∧nr ys∧ys.length=n∧ys.take q=lV (ds.take (k+k2))∧ys.drop q=ds.drop q∧(lV (ds.take (k+k2))).length=q) 1 k ds [(4,_),(25,_),(13,_),(8,_),(0,_)] ⟨rfl,rfl,rfl,rfl,rfl,trivial⟩ [0] rfl [] rfl (⟨Nat.le_refl _,by omega,by omega,hD,hl,by rw[nt (by omega) hk2,if_pos heq,hne],rfl,by rw[nt (by omega) hk2,if_pos heq,hne,List.length_take];omega⟩) ⟨rfl,rfl,trivial⟩ (fun k2 q ys ⟨i1,i2,i3,iD,iL,iT,iE,iN⟩=> ?_)
    refine ah<|ah<|aj<|hy (fun _=>aa rfl)<|hy (fun _=>aa rfl)<|hy (fun _=>aU rfl Tryz.underlying33)<|hy (fun _=>bu rfl rfl)<|ai<|al (ρ' :=[(32,_),(3,_),(5,_),(4,_),(25,_),(13,_),(8,_),(0,_)]) ⟨rfl,rfl,rfl,rfl,rfl,rfl,rfl,rfl,trivial⟩<|ag<| ?_
    refine cD rfl (fun hlt2=> ?_) (fun hlt2=> ?_)
    ·have hm1:k+k2<ys.length:=by omega
     have hm2:k+(k2-1)<ys.length:=by omega
     have g1:=gV iD hm1
     have g2:=gV iD hm2
     have g1' :(aR (ys.getD (k+k2) [])).length=32:=by rw[ay,g1]
     have g2' :(aR (ys.getD (k+(k2-1)) [])).length=32:=by rw[ay,g2]
     have e1:=pI iE (show q≤k+k2 by omega)
     have e2:=pI iE (show q≤k+(k2-1) by omega)
     have hA2:∀{n:Nat} {a:Addr},0<n→(some a:Option Addr)≠none:=fun _ h=>by cases h
     have hA_x:= @hA2
     refine aC<|ag<|ah<|aI<|ah<|cG [] [(0,some 0),(1,some 0),(2,some 0),(3,some 0),(4,some 0),(5,some 0),(6,some 0),(7,some 0),(8,some 0),(9,some 0)] (by kernel_rfl) (by kernel_rfl) rfl 99<|an (aa rfl)<|an (aa rfl)<|an (cH rfl rfl Tryz.underlying33 bo hA_x rfl (by omega))<|ca (fun m=>a6 rfl cx bo g1' (sf ((m.ord 0 rfl).ku iD hm1)))<|an (aa rfl)<|an (aa rfl)<|an (cw rfl rfl (bC (by omega) (by omega)))<|an (cH rfl rfl Tryz.underlying33 bo hA_x (show((k2-1:Nat):Int)=_ by omega) (by omega))<|ca (fun m=>a6 rfl cx bo g2' (sf ((m.ord 0 rfl).ku iD hm2)))<|an (o3 rfl rfl g1 g2)<|br<|al (ρ' :=[(44,_),(32,_),(3,_),(5,_),(4,_),(25,_),(13,_),(8,_),(0,_)]) ⟨rfl,rfl,rfl,rfl,rfl,rfl,rfl,rfl,rfl,trivial⟩<|ag<| ?_
     have hct:=nt (ds:=ds) (m:=k+k2) (by omega) (by omega)
     rw[show k+k2-1=k+(k2-1) by omega,←e1,←e2]at hct
     refine cD rfl (fun hne2=> ?_) (fun hne2=> ?_)
     ·rw[if_neg hne2]at hct
      refine ah<|aj<|hy (fun _=>aa rfl)<|hy (fun _=>aa rfl)<|hy (fun _=>aa rfl)<|hy (fun _=>aa rfl)<|hy (fun _=>cH rfl rfl Tryz.underlying33 bo hA_x rfl (by omega))<|hy (fun m=>a6 rfl cx bo g1' (sf ((m.ord 0 rfl).ku iD hm1)))<|hy (fun _=>cH rfl rfl Tryz.underlying33 bo hA_x rfl (by omega))<| ?_
      refine cJ (Bp 0 rfl rfl rfl bo g1' aS (by omega) (by omega) ?_)
      rw[xy iD g1 (by omega)]
      refine ai<|al (ρ' :=[(44,_),(32,_),(3,_),(5,_),(4,_),(25,_),(13,_),(8,_),(0,_)]) ⟨rfl,rfl,rfl,rfl,rfl,rfl,rfl,rfl,rfl,trivial⟩<|ak (X' :=[_]) (S' :=[]) (fun _ m=>m)<|ag<|aj<|hy (fun _=>aa rfl)<|hy (fun _=>aN rfl rfl (bC (by omega) (by omega)))<|hy (fun _=>ab rfl)<|ai<|al (ρ' :=[(3,_),(44,_),(32,_),(5,_),(4,_),(25,_),(13,_),(8,_),(0,_)]) ⟨rfl,rfl,rfl,rfl,rfl,rfl,rfl,rfl,rfl,trivial⟩<|aM<|ag<|aj<|hy (fun _=>aa rfl)<|hy (fun _=>aN rfl rfl (bC (by omega) (by omega)))<|hy (fun _=>ab rfl)<|ai<|al (ρ' :=[(5,_),(3,_),(44,_),(32,_),(4,_),(25,_),(13,_),(8,_),(0,_)]) ⟨rfl,rfl,rfl,rfl,rfl,rfl,rfl,rfl,rfl,trivial⟩<| ?_
      refine fu (k2+1) (q+1) (ys.set q (ys.getD (k+k2) [])) ⟨rfl,rfl,rfl,rfl,rfl,rfl,rfl,trivial⟩ [0] rfl [] rfl (⟨by omega,by omega,by omega,CF iD g1,by rw[List.length_set];exact iL,by rw[yJ (by omega),iT,←Nat.add_assoc,hct],set_drop iE,by rw[←Nat.add_assoc,hct,List.length_append,iN];rfl⟩) (by omega)
     ·rw[if_pos (Decidable.not_not.1 hne2)]at hct
      refine aC<|aM<|ag<|aj<|hy (fun _=>aa rfl)<|hy (fun _=>aN rfl rfl (bC (by omega) (by omega)))<|hy (fun _=>ab rfl)<|ai<|al (ρ' :=[(5,_),(44,_),(32,_),(3,_),(4,_),(25,_),(13,_),(8,_),(0,_)]) ⟨rfl,rfl,rfl,rfl,rfl,rfl,rfl,rfl,rfl,trivial⟩<| ?_
      refine fu (k2+1) q ys ⟨rfl,rfl,rfl,rfl,rfl,rfl,rfl,trivial⟩ [0] rfl [] rfl (⟨by omega,by omega,by omega,iD,iL,by rw[iT,←Nat.add_assoc,hct],iE,by rw[←Nat.add_assoc,hct,iN]⟩) (by omega)
    ·have hkn2:k+k2=n:=by omega
     have hT:ds.take n=ds:=List.take_of_length_le (by omega)
     rw[hkn2,hT]at iT iN
     refine bK<|ao<|ao<|aB<|ag<|ah<|aj<|hy (fun _=>aa rfl)<|hy (fun _=>aa rfl)<|hy (fun _=>ej rfl rfl Tryz.underlying33 bo rfl (by omega))<| ?_
     refine cJ (zi (k:=q) 0 rfl rfl Tryz.underlying33 dT rfl aS (fun h=>by rw[if_neg (by omega)];rfl) (by omega) (fun zs hzs=> ?_))
     refine ai<|al (ρ' :=[(32,_),(3,_),(5,_),(4,_),(25,_),(13,_),(8,_),(0,_)]) ⟨rfl,rfl,rfl,rfl,rfl,rfl,rfl,rfl,trivial⟩<|ak (X' :=[_]) (S' :=[]) (fun _ m=>m)<|ag<|ah<|aj<|hy (fun _=>aa rfl)<|hy (fun _=>aa rfl)<|hy (fun _=>nY rfl rfl Tryz.underlying33 bo rfl (by omega))<|hy (fun _=>ab rfl)<|ai<|al (ρ' :=[(2,_),(32,_),(3,_),(5,_),(4,_),(25,_),(13,_),(8,_),(0,_)]) ⟨rfl,rfl,rfl,rfl,rfl,rfl,rfl,rfl,rfl,trivial⟩<|ag<|aX<|a8<|ax<|ax<|a8<|ax<| ?_
     have e9:(bz (dc ys) (q*32) zs).take (q*32)=dc (lV ds):=by
      rw[bz,List.append_assoc,List.take_append_of_le_length (by rw[List.length_take,fY iD];omega),List.take_take,Nat.min_self,By iD,iT]
     refine ak (X' :=aG 53 32 (.slice (some a0) q c) q ((bz (dc ys) (q*32) zs).take (q*32))::_) (fun w m=>(m.perm (ar [0] _ [_] _ rfl)).w7 (View.Bj (by omega))) ?_
     rw[e9]
     exact bf trivial rfl rfl [0] rfl [] rfl ⟨q,rfl,rfl,rfl,iN.symm⟩
   ·refine aC<|aM<|ag<|aj<|hy (fun _=>aa rfl)<|hy (fun _=>aN rfl rfl (bC (by omega) (by omega)))<|hy (fun _=>ab rfl)<|ai<|al (ρ' :=[(3,_),(25,_),(13,_),(8,_),(0,_)]) ⟨rfl,rfl,rfl,rfl,rfl,trivial⟩<| ?_
    refine cR (k+1) ⟨rfl,rfl,rfl,trivial⟩ [0] rfl [] rfl (⟨by omega,by omega,by rw[nt (by omega) (by omega),if_neg heq,hne,List.take_succ_eq_append_getElem hk2];simp[List.getD,hk2]⟩) (by omega)
  ·obtain rfl:k=n:=by omega
   refine bK<|ao<|ao<|aB<|ag<|ah<|aj<|hy (fun _=>aa rfl)<|hy (fun _=>ab rfl)<|ai<|al (ρ' :=[(2,_),(13,_),(3,_),(8,_),(0,_)]) ⟨rfl,rfl,rfl,rfl,rfl,trivial⟩<|ag<|aX<| ?_
   have e:lV ds=ds:=by rw[List.take_of_length_le (by omega)]at hne;exact hne
   rw[e]
   exact bf trivial rfl rfl [0] rfl [] rfl ⟨k,rfl,rfl,rfl,hl.symm⟩
end Go.Proofs.YtmibdabdlgmafaaGreatDoor
end
section
set_option maxRecDepth 20000
namespace Go.Proofs.YtmibdabdlgmafaaGreatDoor
open Go.Eng Go.Hx Go.Extern
theorem text(A:Option Addr)(n c:Nat)(l:List UInt8)(w:World)(hr:Rd w 1 A n (aR l))(hn:n≤70368744177664):
  Calls Tryz.prog 177 #[.slice A n c] w fun e w' =>e= .returned (.string (strOf (b4 l)))∧Fr No w w' :=by
 have hl:l.length=n:=by have:=hr.1;rw[ay]at this;omega
 refine enter (N:=28) Tryz.func177 rfl rfl (by simp) ?_
 refine ba<|bm<|nq (ab rfl)<|bl<|aJ<|ba<|bm<|nq (ab rfl)<|bl<|aJ<|ba<|ba<|bm<|nq (aa rfl)<|nq (aU rfl Tryz.underlying27)<|nq (aa rfl)<|bl<|bV (ae (t:=7) rfl<|ae (t:=6) rfl<|ae (t:=3) rfl<|ae (t:=2) rfl<|ae (t:=0) rfl<|aF)<|aJ<|dr<| ?_
 refine sN (fun k _=>n-k) (fun k v=>[(0,.slice A n c),(3,v),(6,.int .i64 n),(7,.int .i64 (k:Nat))]) (fun k v w' =>k≤n∧Go.Eng.Own w' w.heap.size 5 1 v (2*k) (aR (b4 (l.take k)))∧Fr No w w') 0 (.slice none 0 0) (⟨Nat.zero_le _,Own.nil w w.heap.size _ 1,Fr.refl _ _⟩) (ae (t:=0) rfl<|ae (t:=3) rfl<|ae (t:=6) rfl<|ae (t:=7) rfl<|aF) (fun k v w1 ⟨hk,ho,hf⟩=> ?_)
 refine ba<|bm<|nq (bu rfl rfl)<|bl<|aJ<|ba<| ?_
 refine sU rfl (fun h=> ?_) (fun h=> ?_)
 ·have hkn:k<n:=by omega
  have hb:=(l.getD k 0).toNat_lt
  refine fI<|aJ<|ba<|dr<|ba<|bm<|nq (aa rfl)<|nq (ab rfl)<|bl<|bV (ae (t:=4) rfl<|ae (t:=8) rfl<|ae (t:=0) rfl<|ae (t:=3) rfl<|ae (t:=6) rfl<|ae (t:=7) rfl<|aF)<|aJ<| ?_
  refine Bt [(0,false),(1,false),(2,false),(3,false),(4,false),(5,false),(6,false),(7,false),(8,false),(9,false),(10,false),(11,false),(12,false),(13,true),(14,true),(15,false)] (by kernel_rfl) (by kernel_rfl) rfl (fun w' =>Fr No w w') (hf.dE (Fr.drew _)) (fun w2 hf2 hS2=> ?_)
  refine sq (fun w_ hS_=>aa rfl)<|sq (fun w_ hS_=>aa rfl)<|sq (fun w_ hS_=>aa rfl)<|sq (fun w_ hS_=>aO rfl rfl Tryz.underlying27 ek hr.2.1 rfl (by omega))<|sq (fun w_ hS_=>aw rfl jL (((hr.qA hS_).cell (bM (by omega)))))<|sq (fun w_ hS_=>oF (p:=16) rfl rfl (by decide) (by decide) (by decide))<|sq (fun w_ hS_=>fO rfl rfl Tryz.underlying9 rfl ((Cx _)))<|sq (fun w_ hS_=>aa rfl)<|sq (fun w_ hS_=>aa rfl)<|sq (fun w_ hS_=>aO rfl rfl Tryz.underlying27 ek hr.2.1 rfl (by omega))<|sq (fun w_ hS_=>aw rfl jL (((hr.qA hS_).cell (bM (by omega)))))<|sq (fun w_ hS_=>gO (by simp) rfl rfl ((FT _)))<|sq (fun w_ hS_=>fO rfl rfl Tryz.underlying9 rfl ((BV _)))<| ?_
  refine sx (oo Tryz.underlying27 fb rfl rfl rfl (by simp[Value.cells,B8]) (by decide) (by decide) fun g w3 hg hf3 hb3=> ?_)
  have hS3:Fr No w w3:=hS2.dE hf3
  refine⟨hS3, ?_⟩
  refine sx (lN rfl rfl Tryz.underlying27 Tryz.underlying27 (by exact .inl rfl) fb rfl (ho.qA (hf2.dE hf3)) (Src.b7 (Own.rd (Own.made hb3 (Nat.le_refl _) (Nat.le_refl _) (by decide) (by rfl))).2.2) (by simp[Value.cells];exact⟨rfl,rfl⟩) (by unfold maxLen;omega) (by omega) hS3.size fun v4 w4 ho4 hf4 hv4=> ?_)
  have hS4:Fr No w w4:=hS3.new hf4 (fun i hi=>(ho.from hi).1)
  refine⟨hS4, ?_⟩
  refine sq (fun w_ hS_=>ab rfl)<|send<|bV (ae (t:=3) rfl<|ae (t:=4) rfl<|ae (t:=8) rfl<|ae (t:=0) rfl<|ae (t:=6) rfl<|ae (t:=7) rfl<|aF)<|gg<|aJ<|bm<|nq (aN rfl rfl (bC (by omega) (by omega)))<|nq (aa rfl)<|bl<|bV (ae (t:=7) rfl<|ae (t:=3) rfl<|ae (t:=4) rfl<|ae (t:=8) rfl<|ae (t:=0) rfl<|ae (t:=6) rfl<|aF)<| ?_
  refine pU (k+1) v4 (ae (t:=0) rfl<|ae (t:=3) rfl<|ae (t:=6) rfl<|ae (t:=7) rfl<|aF) (⟨by omega, ?_,hS4⟩) (by omega)
  have e1:2*k+2=2*(k+1):=by omega
  have e2:b4 (l.take (k+1))=b4 (l.take k)++pk (l.getD k 0):=rn (by omega)
  rw[e1]at ho4
  rw[e2,bx]
  exact ho4
 ·obtain rfl:k=n:=by omega
  obtain⟨A',c',rfl,hc'⟩:=ho.slice
  have hro:=(Own.rd ho).2.2
  rw[List.take_of_length_le (by omega)]at hro
  refine kM<|cf<|cf<|dw<|aJ<|ba<|bm<|nq (aa rfl)<|nq (jH rfl Tryz.underlying27 Tryz.underlying5 Tryz.underlying9 hro)<|nq (ab rfl)<|bl<|bV (ae (t:=2) rfl<|ae (t:=8) rfl<|ae (t:=0) rfl<|ae (t:=3) rfl<|ae (t:=6) rfl<|ae (t:=7) rfl<|aF)<|aJ<|e8<| ?_
  exact gz trivial rfl rfl ⟨rfl,hf⟩
theorem F3(A:Option Addr)(n c:Nat)(l:List UInt8)(w:World)(hr:Rd w 1 A n (aR l))(hn:n≤70368744177664):
  Calls Tryz.prog 182 #[.slice A n c] w fun e w' =>e= .returned (.string (strOf (b4 l)))∧Fr No w w' :=by
 have hl:l.length=n:=by have:=hr.1;rw[ay]at this;omega
 refine enter (N:=40) Tryz.func182 rfl rfl (by simp) ?_
 refine ba<|bm<|nq (ab rfl)<|bl<|aJ<|ba<|bm<|nq (ab rfl)<|bl<|aJ<|ba<|bm<|nq (ab rfl)<|bl<|aJ<|ba<|ba<|bm<|nq (ab rfl)<|bl<|aJ<|dr<| ?_
 refine nG (fun k=>n-k) (fun k=>[(0,.slice A n c),(3,.string ⟨#[48,49,50,51,52,53,54,55,56,57,97,98,99,100,101,102]⟩),(4,.string (strOf (b4 (l.take k)))),(5,.int .i64 (k:Nat))]) (fun k w' =>k≤n∧Fr No w w') 0 (⟨Nat.zero_le _,Fr.refl _ _⟩) (ae (t:=0) rfl<|ae (t:=3) rfl<|ae (t:=4) rfl<|ae (t:=5) rfl<|aF) (fun k w1 ⟨hk,hf⟩=> ?_)
 refine ba<|ba<|bm<|nq (aa rfl)<|nq (aa rfl)<|nq (aU rfl Tryz.underlying27)<|nq (bu rfl rfl)<|bl<|bV (ae (t:=11) rfl<|ae (t:=0) rfl<|ae (t:=3) rfl<|ae (t:=4) rfl<|ae (t:=5) rfl<|aF)<|aJ<| ?_
 refine sU rfl (fun h=> ?_) (fun h=> ?_)
 ·have hkn:k<n:=by omega
  have hb:=(l.getD k 0).toNat_lt
  have hr1:=hr.qA hf
  refine fI<|aJ<|ba<|dr<|ba<|bm<|nq (aa rfl)<|nq (aa rfl)<|nq (aO rfl rfl Tryz.underlying27 ek hr.2.1 rfl (by omega))<|nq (aw rfl jL (hr1.cell (bM (by omega))))<|nq (bW rfl Tryz.underlying5 Tryz.underlying3 ((Bc _)))<|nq (jF rfl rfl (by omega) (by omega) (bC (by omega) (by omega)))<|nq (ab rfl)<|bl<|bV (ae (t:=6) rfl<|ae (t:=11) rfl<|ae (t:=0) rfl<|ae (t:=3) rfl<|ae (t:=4) rfl<|ae (t:=5) rfl<|aF)<|aJ<|ba<|bm<|nq (aa rfl)<|nq (aa rfl)<|nq (aO rfl rfl Tryz.underlying27 ek hr.2.1 rfl (by omega))<|nq (aw rfl jL (hr1.cell (bM (by omega))))<|nq (bW rfl Tryz.underlying5 Tryz.underlying3 ((Bc _)))<|nq (gU rfl rfl (by omega) (by omega))<|nq (ab rfl)<|bl<|bV (ae (t:=7) rfl<|ae (t:=6) rfl<|ae (t:=11) rfl<|ae (t:=0) rfl<|ae (t:=3) rfl<|ae (t:=4) rfl<|ae (t:=5) rfl<|aF)<|aJ<| ?_
  have hll:=dI (l.take k)
  have htl:(l.take k).length≤k:=List.length_take_le _ _
  refine Bt [(0,false),(1,false),(2,false),(3,false),(4,false),(5,false),(6,false),(7,false),(8,false),(9,false),(10,false),(11,false),(12,false),(13,false)] (by kernel_rfl) (by kernel_rfl) rfl (fun w' =>Fr No w w') (hf.dE (Fr.drew _)) (fun w2 hf2 hS2=> ?_)
  refine sq (fun w_ hS_=>aa rfl)<|sq (fun w_ hS_=>aa rfl)<|sq (fun w_ hS_=>aa rfl)<|sq (fun w_ hS_=>aa rfl)<|sq (fun w_ hS_=>aN rfl rfl (bC (by omega) (by omega)))<|sq (fun w_ hS_=>qK rfl rfl rfl Tryz.underlying9 (show(((l.getD k 0).toNat/16:Nat):Int)=_ by omega) (show(((l.getD k 0).toNat/16+1:Nat):Int)=_ by omega) ((by omega)) ((by show _≤16;omega)))<|sq (fun w_ hS_=>ji rfl rfl ((by simp[di];omega)))<|sq (fun w_ hS_=>aa rfl)<|sq (fun w_ hS_=>aa rfl)<|sq (fun w_ hS_=>aa rfl)<|sq (fun w_ hS_=>aN rfl rfl (bC (by omega) (by omega)))<|sq (fun w_ hS_=>qK rfl rfl rfl Tryz.underlying9 (show(((l.getD k 0).toNat % 16:Nat):Int)=_ by omega) (show(((l.getD k 0).toNat % 16+1:Nat):Int)=_ by omega) ((by omega)) ((by show _≤16;omega)))<|sq (fun w_ hS_=>yV (ji rfl rfl ((by simp[di,ByteArray.size_append];omega))) (congrArg Value.string (yl (by omega))))<|sq (fun w_ hS_=>ab rfl)<|send<|bV (ae (t:=4) rfl<|ae (t:=7) rfl<|ae (t:=6) rfl<|ae (t:=11) rfl<|ae (t:=0) rfl<|ae (t:=3) rfl<|ae (t:=5) rfl<|aF)<|gg<|aJ<|bm<|nq (aa rfl)<|nq (aN rfl rfl (bC (by omega) (by omega)))<|nq (ab rfl)<|bl<|bV (ae (t:=5) rfl<|ae (t:=4) rfl<|ae (t:=7) rfl<|ae (t:=6) rfl<|ae (t:=11) rfl<|ae (t:=0) rfl<|ae (t:=3) rfl<|aF)<| ?_
  refine nI (k+1) (ae (t:=0) rfl<|ae (t:=3) rfl<|ae (t:=4) rfl<|ae (t:=5) rfl<|aF) (⟨by omega,hS2⟩) (by omega)
 ·obtain rfl:k=n:=by omega
  refine kM<|cf<|cf<|dw<|aJ<|ba<|bm<|nq (aa rfl)<|nq (ab rfl)<|bl<|bV (ae (t:=2) rfl<|ae (t:=11) rfl<|ae (t:=0) rfl<|ae (t:=3) rfl<|ae (t:=4) rfl<|ae (t:=5) rfl<|aF)<|aJ<|e8<| ?_
  refine gz trivial rfl rfl ⟨?_,hf⟩
  rw[List.take_of_length_le (by omega)]
def nR(w:World)(s:List UInt8)(v:Value)(w' :World):Prop:=
 match unhex s with
 |some x=>∃u,v= .tuple #[u,.int .i64 0]∧Go.Eng.Own w' w.heap.size 5 1 u x.length (aR x)
 |none=>v= .tuple #[.slice none 0 0,.int .i64 2]
theorem u0(s:ByteArray)(c:UInt8)(w:World):
  Calls Tryz.prog 267 #[.string s,.int .u8 c.toNat] w fun e w' =>e= .returned (.int .i64 (Lib.indexByte s.data.toList c))∧w=w' :=by
 refine enter (N:=8) Tryz.func267 rfl rfl (by simp) ?_
 refine ba<|bm<|nq (ab rfl)<|bl<|aJ<|ba<|bm<|nq (aa rfl)<|nq (aa rfl)<| ?_
 refine nq (wR rfl Tryz.func295 (by kernel_rfl) (by kernel_rfl) (by kernel_rfl) (show _=some Extern.BytealgIndexByte.indexByte by kernel_rfl) (Lib.run_indexByteString _ _ _)) ?_
 refine nq (ab rfl)<|bl<|bV (ae (t:=4) rfl<|ae (t:=0) rfl<|ae (t:=1) rfl<|aF)<|aJ<|e8<| ?_
 refine gz trivial rfl rfl ⟨?_,rfl⟩
 rw[show((c.toNat:Int)).toNat.toUInt8=c by simp]
theorem indexByte(s:ByteArray)(c:UInt8)(w:World):
  Calls Tryz.prog 224 #[.string s,.int .u8 c.toNat] w fun e w' =>e= .returned (.int .i64 (Lib.indexByte s.data.toList c))∧w=w' :=by
 refine enter (N:=8) Tryz.func224 rfl rfl (by simp) ?_
 refine ba<|bm<|nq (ab rfl)<|bl<|aJ<|ba<|bm<|nq (aa rfl)<|nq (aa rfl)<| ?_
 refine nx (eY rfl Tryz.call267 (u0 s c w) ?_)
 rintro e_ w' ⟨rfl,rfl⟩
 refine⟨_,rfl, ?_⟩
 refine nq (ab rfl)<|bl<|bV (ae (t:=4) rfl<|ae (t:=0) rfl<|ae (t:=1) rfl<|aF)<|aJ<|e8<| ?_
 exact gz trivial rfl rfl ⟨rfl,rfl⟩
theorem s3(c:UInt8)(w:World):
  Calls Tryz.prog 224 #[.string ⟨#[48,49,50,51,52,53,54,55,56,57,97,98,99,100,101,102]⟩,.int .u8 c.toNat] w fun e w' =>e= .returned (.int .i64 (ku c))∧w=w' :=by
 rw[←pY]
 exact indexByte _ c w
theorem parse(s:List UInt8)(w:World)(hs:s.length≤140737488351232):
  Calls Tryz.prog 166 #[.string (strOf s)] w fun e w' =>(∃v,e= .returned v∧nR w s v w')∧Fr No w w' :=by
 have hsz:(strOf s).size=s.length:=di s
 refine enter (N:=45) Tryz.func166 rfl rfl (by simp) ?_
 refine ba<|bm<|nq (ab rfl)<|nq (ab rfl)<|bl<|aJ<|ba<|ba<|bm<|nq (aa rfl)<|nq (db rfl Tryz.underlying9)<|nq (gU rfl rfl (by omega) (by omega))<|nq (dP rfl rfl)<|bl<|bV (ae (t:=11) rfl<|ae (t:=3) rfl<|ae (t:=2) rfl<|ae (t:=0) rfl<|aF)<|aJ<| ?_
 refine sU rfl (fun h=> ?_) (fun h=> ?_)
 ·refine ba<|bm<|nq (ab rfl)<|nq (ab rfl)<|bl<|aJ<|e8<|dh<| ?_
  refine zf trivial rfl rfl rfl ⟨⟨_,rfl, ?_⟩,Fr.refl _ _⟩
  rw[nR,qO s (by simp at h;omega)]
 ·simp at h
  refine fI<|aJ<|ba<|bm<|nq (ab rfl)<|bl<|aJ<|ba<|ba<|bm<|nq (aa rfl)<|nq (db rfl Tryz.underlying9)<|nq (jF rfl rfl (by omega) (by omega) (bC (by omega) (by omega)))<|nq (aa rfl)<|bl<|bV (ae (t:=15) rfl<|ae (t:=14) rfl<|ae (t:=4) rfl<|ae (t:=11) rfl<|ae (t:=3) rfl<|ae (t:=2) rfl<|ae (t:=0) rfl<|aF)<|aJ<|dr<| ?_
  refine DH (fun k _ _=>s.length-2*k) (fun k v _=>[(0,.string (strOf s)),(4,v),(14,.int .i64 ((s.length/2:Nat):Int)),(15,.int .i64 (k:Nat))]) (fun k v x w' =>2*k≤s.length∧unhex (s.take (2*k))=some x∧Go.Eng.Own w' w.heap.size 5 1 v k (aR x)∧Fr No w w') 0 (.slice none 0 0) [] (⟨Nat.zero_le _,rfl,Own.nil w w.heap.size _ 1,Fr.refl _ _⟩) (ae (t:=0) rfl<|ae (t:=4) rfl<|ae (t:=14) rfl<|ae (t:=15) rfl<|aF) (fun k v x w1 ⟨hk,hx,ho,hf⟩=> ?_)
  ·refine ba<|bm<|nq (bu rfl rfl)<|bl<|aJ<|ba<| ?_
   refine sU rfl (fun h2=> ?_) (fun h2=> ?_)
   ·have hk2:2*k+1<s.length:=by omega
    have hd1:=lI (s.getD (2*k) 0)
    have hd2:=lI (s.getD (2*k+1) 0)
    have hlen:(s.take (2*k)).length=2*k:=by simp;omega
    have hsn:=qf (s.take (2*k)) k (s.getD (2*k) 0) (s.getD (2*k+1) 0) x hlen hx
    rw[←Ac hk2]at hsn
    have hno:(ku (s.getD (2*k) 0)<0∨ku (s.getD (2*k+1) 0)<0)→unhex s=none:=fun hn=>by
     rw[if_pos hn]at hsn
     have:=iX _ (s.drop (2*(k+1))) (k+1) (by simp;omega) hsn
     rwa [List.take_append_drop]at this
    refine fI<|aJ<|ba<|dr<|ba<|bm<|nq (aa rfl)<|nq (ab rfl)<|bl<|bV (ae (t:=5) rfl<|ae (t:=16) rfl<|ae (t:=0) rfl<|ae (t:=4) rfl<|ae (t:=14) rfl<|ae (t:=15) rfl<|aF)<|aJ<|ba<| ?_
    refine Bt [(0,false),(1,false),(2,false),(3,false),(5,false),(6,false),(7,false),(8,false),(9,false),(4,true),(10,true),(11,false),(12,false)] (by kernel_rfl) (by kernel_rfl) rfl (fun w' =>Fr No w w') (hf.dE (Fr.drew _)) (fun w2 hf2 hS2=> ?_)
    refine sq (fun w_ hS_=>aa rfl)<|sq (fun w_ hS_=>aa rfl)<|sq (fun w_ hS_=>fK rfl rfl (bC (by omega) (by omega)))<|sq (fun w_ hS_=>fO rfl rfl Tryz.underlying9 (show((2*k:Nat):Int)=_ by omega) (k7 (by omega)))<|sq (fun w_ hS_=>aa rfl)<|sq (fun w_ hS_=>aa rfl)<|sq (fun w_ hS_=>fK rfl rfl (bC (by omega) (by omega)))<|sq (fun w_ hS_=>aN rfl rfl (bC (by omega) (by omega)))<|sq (fun w_ hS_=>fO rfl rfl Tryz.underlying9 (show((2*k+1:Nat):Int)=_ by omega) (k7 (by omega)))<| ?_
    refine sx (eY rfl Tryz.call224 (s3 _ _) ?_)
    rintro e_ w3 ⟨rfl,rfl⟩
    refine⟨_,rfl, ?_⟩
    refine⟨hS2, ?_⟩
    refine sx (eY rfl Tryz.call224 (s3 _ _) ?_)
    rintro e_ w3 ⟨rfl,rfl⟩
    refine⟨_,rfl, ?_⟩
    refine⟨hS2, ?_⟩
    have hf:=hS2
    have ho:=ho.qA hf2
    refine sq (fun w_ hS_=>ab rfl)<|sq (fun w_ hS_=>ab rfl)<|send<|bV (ae (t:=7) rfl<|ae (t:=6) rfl<|ae (t:=5) rfl<|ae (t:=16) rfl<|ae (t:=0) rfl<|ae (t:=4) rfl<|ae (t:=14) rfl<|ae (t:=15) rfl<|aF)<|aJ<|ba<|ba<|bm<|nq (aa rfl)<|nq (bu rfl rfl)<|nq (aa rfl)<| ?_
    refine vD 31 rfl (fun h3=> ?_) (fun h3=> ?_)
    ·refine rD rfl rfl rfl (by decide)<|rD rfl rfl rfl (by decide)<|nq (bX rfl rfl)<|bl<|bV (ae (t:=34) rfl<|ae (t:=7) rfl<|ae (t:=6) rfl<|ae (t:=5) rfl<|ae (t:=16) rfl<|ae (t:=0) rfl<|ae (t:=4) rfl<|ae (t:=14) rfl<|ae (t:=15) rfl<|aF)<|aJ<| ?_
     refine CG rfl (rfl) ?_
     refine ba<|bm<|nq (ab rfl)<|nq (ab rfl)<|bl<|aJ<|e8<|dh<|dN<|dh<|dh<|dN<|dh<| ?_
     refine zf trivial rfl rfl rfl ⟨⟨_,rfl, ?_⟩,hf⟩
     rw[nR,hno (.inl h3)]
    ·refine ng rfl rfl rfl (aa rfl)<|ng rfl rfl rfl (bu rfl rfl)<|nq (bP rfl rfl)<|bl<|bV (ae (t:=34) rfl<|ae (t:=7) rfl<|ae (t:=6) rfl<|ae (t:=5) rfl<|ae (t:=16) rfl<|ae (t:=0) rfl<|ae (t:=4) rfl<|ae (t:=14) rfl<|ae (t:=15) rfl<|aF)<|aJ<| ?_
     refine sU rfl (fun h4=> ?_) (fun h4=> ?_)
     ·refine ba<|bm<|nq (ab rfl)<|nq (ab rfl)<|bl<|aJ<|e8<|dh<|dN<|dh<|dh<|dN<|dh<| ?_
      refine zf trivial rfl rfl rfl ⟨⟨_,rfl, ?_⟩,hf⟩
      rw[nR,hno (.inr h4)]
     ·refine fI<|aJ<|bm<|nq (aa rfl)<|nq (aa rfl)<|nq (s5 (p:=16) rfl rfl (by decide) (by decide) (by decide) (bC (by omega) (by omega)))<|nq (aa rfl)<|nq (gO (by simp) rfl rfl (EC _ _ (by omega) (by omega) (by omega) (by omega)))<|nq (bW rfl Tryz.underlying3 Tryz.underlying5 (Ff (Ei _ _ (by omega) (by omega))))<| ?_
      refine nx (oo Tryz.underlying27 fb rfl rfl rfl (by simp[Value.cells,B8]) (by decide) (by decide) fun g w3 hg hf3 hb3=> ?_)
      refine nx (lN rfl rfl Tryz.underlying27 Tryz.underlying27 (by exact .inl rfl) fb rfl (ho.qA hf3) (Src.gP hb3 rfl) (aS (l:=[_])) (by unfold maxLen;omega) (by omega) (Nat.le_trans hf.size hf3.size) fun v4 w4 ho4 hf4 hv4=> ?_)
      refine nq (ab rfl)<|bl<|bV (ae (t:=4) rfl<|ae (t:=34) rfl<|ae (t:=7) rfl<|ae (t:=6) rfl<|ae (t:=5) rfl<|ae (t:=16) rfl<|ae (t:=0) rfl<|ae (t:=14) rfl<|ae (t:=15) rfl<|aF)<|gg<|aJ<|bm<|nq (aN rfl rfl (bC (by omega) (by omega)))<|nq (aa rfl)<|bl<|bV (ae (t:=15) rfl<|ae (t:=4) rfl<|ae (t:=34) rfl<|ae (t:=7) rfl<|ae (t:=6) rfl<|ae (t:=5) rfl<|ae (t:=16) rfl<|ae (t:=0) rfl<|ae (t:=14) rfl<|aF)<| ?_
      rw[if_neg (by omega)]at hsn
      refine DA (k+1) v4 _ (ae (t:=0) rfl<|ae (t:=4) rfl<|ae (t:=14) rfl<|ae (t:=15) rfl<|aF) (⟨by omega,hsn,by rw[bx];exact ho4,(hf.dE hf3).new hf4 (fun i hi=>(ho.from hi).1)⟩) (by omega)
   ·refine kM<|cf<|cf<|dw<|aJ<|ba<|bm<|nq (aa rfl)<|nq (ab rfl)<|nq (ab rfl)<|bl<|bV (ae (t:=3) rfl<|ae (t:=2) rfl<|ae (t:=16) rfl<|ae (t:=0) rfl<|ae (t:=4) rfl<|ae (t:=14) rfl<|ae (t:=15) rfl<|aF)<|aJ<|e8<| ?_
    refine zf trivial rfl rfl rfl ⟨⟨_,rfl, ?_⟩,hf⟩
    rw[List.take_of_length_le (by omega)]at hx
    have hxl:=kh s x hx
    rw[nR,hx]
    have:x.length=k:=by omega
    exact⟨v,rfl,this▸ho⟩
theorem name(a:List UInt8)(w:World)(ha:a.length=32):
  Calls Tryz.prog 104 #[.agg (aR a).toArray] w fun e w' =>e= .returned (.string (strOf (b4 a)))∧Fr No w w' :=by
 refine enter (N:=5) Tryz.func104 rfl rfl (by simp) ?_
 refine ba<|bm<| ?_
 refine nx (tB rfl fun g1 w1 hg1 hf1 hb1=> ?_)
 rw[bA]at hb1
 refine nq (ab rfl)<|bl<|aJ<|ba<|bm<|nq (rZ rfl Tryz.underlying53 ek)<| ?_
 refine nx (eY rfl Tryz.call177 (text _ _ _ a _ (Rd.gP hb1 (by rw[ay];omega)) (by omega)) ?_)
 rintro e_ w2 ⟨rfl,hf2⟩
 refine⟨_,rfl, ?_⟩
 refine nq (ab rfl)<|bl<|bV (ae (t:=2) rfl<|ae (t:=1) rfl<|ae (t:=0) rfl<|aF)<|aJ<|e8<| ?_
 exact gz trivial rfl rfl ⟨rfl,hf1.dE hf2⟩
theorem zU(v:Value)(w:World):(Extern.ReflectliteType.typeOf #[.iface 47 v]).run Tryz.prog w= .ok (.iface 312 (.agg #[.pointer (some ⟨2,47,none⟩)])) w:=by kernel_rfl
theorem sM (w : World) : ((Extern.ReflectliteType.method fun t => do Rtype.noPackHeld "Comparable" t; pure (.bool (← typeInfo t).comparable)) #[.agg #[.pointer (some ⟨2, 47, none⟩)]]).run Tryz.prog w = .ok (.bool true) w := by kernel_rfl
theorem mu (v : Value) (w : World) : (Go.method (Tryz.prog.types.size + Made.depth) 312 v "Comparable").run Tryz.prog w = .ok (341, v) w := by kernel_rfl
theorem GK(v:Value)(xT:TypeId)(w:World):(Instr.typeAssert (.iface 47 v) xT 314 true).run Tryz.prog w= .ok (.tuple #[.nilIface,.bool false]) w:=run_typeAssert_lacksB Tryz.underlying314 (by kernel_rfl) (by kernel_rfl) v xT w
theorem zm(v:Value)(xT:TypeId)(w:World):(Instr.typeAssert (.iface 47 v) xT 317 true).run Tryz.prog w= .ok (.tuple #[.nilIface,.bool false]) w:=run_typeAssert_lacksB Tryz.underlying317 (by kernel_rfl) (by kernel_rfl) v xT w
theorem xR(v:Value)(xT:TypeId)(w:World):(Instr.typeAssert (.iface 47 v) xT 319 true).run Tryz.prog w= .ok (.tuple #[.nilIface,.bool false]) w:=run_typeAssert_lacksB Tryz.underlying319 (by kernel_rfl) (by kernel_rfl) v xT w
theorem Fz(k m:Int)(w:World):
  Calls Tryz.prog 176 #[.iface 47 (.int .i64 k),.iface 47 (.int .i64 m),.bool true] w fun e w' =>e= .returned (.bool (decide (k=m)))∧w=w' :=by
 refine enter (N:=54) Tryz.func176 rfl rfl (by simp) ?_
 refine ba<|bm<|nq (ab rfl)<|bl<|aJ<|dr<| ?_
 refine nG (fun _=>0) (fun _=>[(0,.iface 47 (.int .i64 k)),(1,.iface 47 (.int .i64 m)),(2,.bool true)]) (fun _ w' =>w=w') 0 (rfl) (ae (t:=0) rfl<|ae (t:=1) rfl<|ae (t:=2) rfl<|aF) (fun i w1 hw=> ?_)
 obtain rfl:=hw
 refine dr<|ba<|ba<|bm<|nq (aa rfl)<|nq (aa rfl)<|ng rfl rfl rfl (aa rfl)<|ng rfl rfl rfl (aa rfl)<|ng rfl rfl rfl (((DB rfl rfl Tryz.underlying247 (by kernel_rfl) Tryz.underlying47)))<|nq (bX rfl rfl)<|bl<|bV (ae (t:=19) rfl<|ae (t:=0) rfl<|ae (t:=1) rfl<|ae (t:=2) rfl<|aF)<|aJ<| ?_
 refine sU rfl (fun h=> ?_) (fun h=> ?_)
 ·refine ba<|bm<|nq (ab rfl)<|bl<|aJ<|e8<|dh<|dN<|dh<|dN<| ?_
  refine gz trivial rfl rfl ⟨?_,rfl⟩
  rw[decide_eq_true h]
 ·refine fI<|aJ<|ba<|ba<|bm<|nq (aa rfl)<|nq (mN rfl ((GK _ _ _)))<|nq (aa rfl)<|nq (au rfl rfl)<|nq (au rfl rfl)<|nq (ab rfl)<|nq (ab rfl)<|bl<|bV (ae (t:=8) rfl<|ae (t:=7) rfl<|ae (t:=19) rfl<|ae (t:=0) rfl<|ae (t:=1) rfl<|ae (t:=2) rfl<|aF)<|aJ<|ba<|bm<|nq (aa rfl)<|nq (aa rfl)<|rD rfl rfl rfl (by decide)<|rD rfl rfl rfl (by decide)<|rD rfl rfl rfl (by decide)<|nq (bP rfl rfl)<|bl<|bV (ae (t:=30) rfl<|ae (t:=8) rfl<|ae (t:=7) rfl<|ae (t:=19) rfl<|ae (t:=0) rfl<|ae (t:=1) rfl<|ae (t:=2) rfl<|aF)<|aJ<| ?_
  refine u5 rfl (rfl) ?_
  refine fI<|aJ<|ba<|bm<|nq (aa rfl)<|bl<|aJ<|dr<|ba<|bm<|nq (mN rfl ((zm _ _ _)))<|nq (au rfl rfl)<|nq (au rfl rfl)<|bl<|bV (ae (t:=34) rfl<|ae (t:=33) rfl<|ae (t:=31) rfl<|ae (t:=30) rfl<|ae (t:=8) rfl<|ae (t:=7) rfl<|ae (t:=19) rfl<|ae (t:=0) rfl<|ae (t:=1) rfl<|ae (t:=2) rfl<|aF)<|aJ<| ?_
  refine u5 rfl (rfl) ?_
  refine ba<|bm<|nq (mN rfl ((xR _ _ _)))<|nq (au rfl rfl)<|nq (au rfl rfl)<|bl<|bV (ae (t:=41) rfl<|ae (t:=40) rfl<|ae (t:=34) rfl<|ae (t:=33) rfl<|ae (t:=31) rfl<|ae (t:=30) rfl<|ae (t:=8) rfl<|ae (t:=7) rfl<|ae (t:=19) rfl<|ae (t:=0) rfl<|ae (t:=1) rfl<|ae (t:=2) rfl<|aF)<|aJ<| ?_
  refine u5 rfl (rfl) ?_
  refine ba<|bm<|nq (ab rfl)<|bl<|bV (ae (t:=41) rfl<|ae (t:=40) rfl<|ae (t:=34) rfl<|ae (t:=33) rfl<|ae (t:=31) rfl<|ae (t:=30) rfl<|ae (t:=8) rfl<|ae (t:=7) rfl<|ae (t:=19) rfl<|ae (t:=0) rfl<|ae (t:=1) rfl<|ae (t:=2) rfl<|aF)<|aJ<|ba<|bm<|nq (ab rfl)<|bl<|aJ<|e8<|dN<|dN<|dh<|dN<| ?_
  refine gz trivial rfl rfl ⟨?_,rfl⟩
  rw[decide_eq_false h]
theorem p7(k m:Int)(w:World):
    Calls Tryz.prog 103 #[.iface 47 (.int .i64 k),.iface 47 (.int .i64 m)] w fun e w' =>e= .returned (.bool (decide (k=m)))∧w=w' :=by
  refine enter (N:=22) Tryz.func103 rfl rfl (by simp) ?_
  refine ba<|bm<|nq (ab rfl)<|bl<|aJ<|ba<|ba<|bm<|nq (aa rfl)<|nq (((zc rfl rfl (by kernel_rfl))))<|nq (aa rfl)<|ng rfl rfl rfl (aa rfl)<|ng rfl rfl rfl (((zc rfl rfl (by kernel_rfl))))<|nq (bP rfl rfl)<|bl<|bV (ae (t:=11) rfl<|ae (t:=4) rfl<|ae (t:=0) rfl<|ae (t:=1) rfl<|aF)<|aJ<| ?_
  refine u5 rfl (rfl) ?_
  refine fI<|aJ<|ba<|bm<|nq (aa rfl)<| ?_
  refine nq (wR rfl Tryz.func175 (by kernel_rfl) (by kernel_rfl) (by kernel_rfl) (show _=some Extern.ReflectliteType.typeOf by kernel_rfl) (zU _ _)) ?_
  refine nq (Et rfl rfl (mu _ _) Tryz.func341 (by kernel_rfl) (by kernel_rfl) (by kernel_rfl) (g := Extern.ReflectliteType.method fun t => do Rtype.noPackHeld "Comparable" t; pure (.bool (← typeInfo t).comparable)) (by kernel_rfl) (sM _)) ?_
  refine nq (ab rfl)<|bl<|bV (ae (t:=5) rfl<|ae (t:=11) rfl<|ae (t:=4) rfl<|ae (t:=0) rfl<|ae (t:=1) rfl<|aF)<|aJ<|ba<|bm<|nq (aa rfl)<|nq (aa rfl)<|nq (aa rfl)<| ?_
  refine nx (eY rfl Tryz.call176 (Fz k m w) ?_)
  rintro e_ w1 ⟨rfl,rfl⟩
  refine⟨_,rfl, ?_⟩
  refine nq (ab rfl)<|bl<|bV (ae (t:=4) rfl<|ae (t:=5) rfl<|ae (t:=11) rfl<|ae (t:=0) rfl<|ae (t:=1) rfl<|aF)<|aJ<|e8<| ?_
  exact gz trivial rfl rfl ⟨rfl,rfl⟩
def cX(s:List UInt8):List UInt8×Int:=match unhex s with
 |none=>(List.replicate 32 0,2)
 |some x=>if x.length=32 then(x,0)else(List.replicate 32 0,3)
theorem kn(s:List UInt8):(cX s).1.length=32:=by
 unfold cX
 split
 ·simp
 ·split
  ·assumption
  ·simp
theorem Cf(s:List UInt8)(w:World)(hs:s.length≤140737488351232):
  Calls Tryz.prog 92 #[.string (strOf s)] w fun e w' =>e= .returned (.tuple #[.agg (aR (cX s).1).toArray,.int .i64 (cX s).2])∧Fr No w w' :=by
 refine enter (N:=26) Tryz.func92 rfl rfl (by simp) ?_
 refine ba<|bm<| ?_
 refine nx (w9 dT fun g1 w1 hg1 hf1 hb1=> ?_)
 rw[Az]at hb1
 refine nq (ab rfl)<|bl<|aJ<|ba<|bm<|nq (aa rfl)<| ?_
 refine nx (eY rfl Tryz.call166 (parse s w1 hs) ?_)
 rintro e_ w2 ⟨⟨v,rfl,hv⟩,hf2⟩
 refine⟨_,rfl, ?_⟩
 have h12:=hb1.qA hf2
 have z32:(aR (List.replicate 32 (0:UInt8))).length=32:=by rw[ay];simp
 unfold nR at hv
 split at hv
 ·rename_i x hx
  obtain⟨u,rfl,hu⟩:=hv
  obtain⟨Au,cu,rfl,hcu⟩:=hu.slice
  have ru:=(Own.rd hu).2.2
  have hxl:=kh s x hx
  refine nq (aa rfl)<|nq (au rfl rfl)<|nq (au rfl rfl)<|nq (ab rfl)<|nq (ab rfl)<|bl<|bV (ae (t:=5) rfl<|ae (t:=4) rfl<|ae (t:=3) rfl<|ae (t:=2) rfl<|ae (t:=0) rfl<|aF)<|aJ<|ba<|dr<|ba<|bm<|nq (aa rfl)<|nq (kv rfl Tryz.underlying47 (fun _ h=>by cases h))<|nq (kv rfl Tryz.underlying47 (fun _ h=>by cases h))<| ?_
  refine nx (eY rfl Tryz.call103 (p7 0 2 _) ?_)
  rintro e_ w3 ⟨rfl,rfl⟩
  refine⟨_,rfl, ?_⟩
  refine nq (ab rfl)<|bl<|bV (ae (t:=11) rfl<|ae (t:=5) rfl<|ae (t:=4) rfl<|ae (t:=3) rfl<|ae (t:=2) rfl<|ae (t:=0) rfl<|aF)<|aJ<| ?_
  refine u5 rfl ((decide_eq_false (by decide):decide ((0:Int)=2)=false)) ?_
  refine ba<|bm<|nq (aa rfl)<|nq (aU rfl Tryz.underlying27)<|nq (dP rfl rfl)<|nq (ab rfl)<|bl<|bV (ae (t:=18) rfl<|ae (t:=11) rfl<|ae (t:=5) rfl<|ae (t:=4) rfl<|ae (t:=3) rfl<|ae (t:=2) rfl<|ae (t:=0) rfl<|aF)<|aJ<| ?_
  refine sU rfl (fun h=> ?_) (fun h=> ?_)
  ·refine ba<|bm<|nq (eJ dT rfl (by kernel_rfl))<| ?_
   refine F8 (zO rfl rfl bo (List.length_replicate ..) h12 z32 fun w3 hf3 h13 hs3=> ?_)
   refine nq (ab rfl)<|bl<|bV (ae (t:=3) rfl<|ae (t:=18) rfl<|ae (t:=11) rfl<|ae (t:=5) rfl<|ae (t:=4) rfl<|ae (t:=2) rfl<|ae (t:=0) rfl<|aF)<|aJ<|e8<|dN<|dh<| ?_
   refine wG trivial rfl rfl rfl cx bo z32 h13.az ⟨?_,(hf1.dE hf2).new hf3 (fun i hi=>by omega)⟩
   rw[cX,hx]
   simp only
   rw[if_neg (fun e=>h (by rw[e];rfl))]
  ·have h32:x.length=32:=by omega
   rw[h32]at ru ⊢
   obtain⟨ad,rfl⟩:∃ad,Au=some ad:=⟨_,ru.some (by omega)⟩
   refine fI<|gg<|aJ<|ba<|bm<|nq (aa rfl)<|nq (oR rfl Tryz.underlying53 (by omega))<|nq (a6 rfl cx bo ((by rw[ay];exact h32)) ru.2.2)<| ?_
   refine F8 (zO rfl rfl bo h32 h12 z32 fun w4 hf4 h14 hs4=> ?_)
   refine nq (ab rfl)<|bl<|bV (ae (t:=3) rfl<|ae (t:=18) rfl<|ae (t:=11) rfl<|ae (t:=5) rfl<|ae (t:=4) rfl<|ae (t:=2) rfl<|ae (t:=0) rfl<|aF)<|aJ<|e8<| ?_
   refine wG trivial rfl rfl rfl cx bo (by rw[ay];exact h32) h14.az ⟨?_,(hf1.dE hf2).new hf4 (fun i hi=>by omega)⟩
   rw[cX,hx]
   simp only
   rw[if_pos h32]
 ·rename_i hx
  subst hv
  refine nq (aa rfl)<|nq (au rfl rfl)<|nq (au rfl rfl)<|nq (ab rfl)<|nq (ab rfl)<|bl<|bV (ae (t:=5) rfl<|ae (t:=4) rfl<|ae (t:=3) rfl<|ae (t:=2) rfl<|ae (t:=0) rfl<|aF)<|aJ<|ba<|dr<|ba<|bm<|nq (aa rfl)<|nq (kv rfl Tryz.underlying47 (fun _ h=>by cases h))<|nq (kv rfl Tryz.underlying47 (fun _ h=>by cases h))<| ?_
  refine nx (eY rfl Tryz.call103 (p7 2 2 _) ?_)
  rintro e_ w3 ⟨rfl,rfl⟩
  refine⟨_,rfl, ?_⟩
  refine nq (ab rfl)<|bl<|bV (ae (t:=11) rfl<|ae (t:=5) rfl<|ae (t:=4) rfl<|ae (t:=3) rfl<|ae (t:=2) rfl<|ae (t:=0) rfl<|aF)<|aJ<| ?_
  refine CG rfl ((decide_eq_true rfl:decide ((2:Int)=2)=true)) ?_
  refine ba<|bm<|nq (eJ dT rfl (by kernel_rfl))<|nq (aa rfl)<| ?_
  refine F8 (zO rfl rfl bo (List.length_replicate ..) h12 z32 fun w3 hf3 h13 hs3=> ?_)
  refine nq (ab rfl)<|bl<|bV (ae (t:=3) rfl<|ae (t:=11) rfl<|ae (t:=5) rfl<|ae (t:=4) rfl<|ae (t:=2) rfl<|ae (t:=0) rfl<|aF)<|aJ<|e8<|dN<|dh<| ?_
  refine wG trivial rfl rfl rfl cx bo z32 h13.az ⟨?_,(hf1.dE hf2).new hf3 (fun i hi=>by omega)⟩
  rw[cX,hx]
  rfl
def fill(l:List UInt8)(n:Nat):List UInt8:=(List.range n).map fun i=>l.getD (i % l.length) 0
theorem rr(l:List UInt8)(n:Nat):fill l (n+1)=fill l n++[l.getD (n % l.length) 0]:=by simp[fill,List.range_succ]
theorem DO(A:Option Addr)(n c:Nat)(l:List UInt8)(m:Nat)(w:World)(hr:Rd w 1 A n (aR l))(hn:n≤140737488351232)(hm:m≤1000000):
  Calls Tryz.prog 101 #[.slice A n c,.int .i64 (m:Int)] w fun e w' =>∃v,e= .returned v∧Go.Eng.Own w' w.heap.size 5 1 v m (aR (fill l m))∧Fr No w w' :=by
 have hl:l.length=n:=by have:=hr.1;rw[ay]at this;omega
 refine enter (N:=29) Tryz.func101 rfl rfl (by simp) ?_
 refine ba<|bm<|nq (ab rfl)<|bl<|aJ<|ba<|bm<|nq (ab rfl)<|bl<|aJ<|ba<|ba<|bm<|nq (ab rfl)<|bl<|aJ<|dr<| ?_
 refine sN (fun k _=>m-k) (fun k v=>[(0,.slice A n c),(1,.int .i64 (m:Int)),(5,v),(6,.int .i64 (k:Nat))]) (fun k v w' =>k≤m∧Go.Eng.Own w' w.heap.size 5 1 v k (aR (fill l k))∧Fr No w w') 0 (.slice none 0 0) (⟨Nat.zero_le _,Own.nil w w.heap.size _ 1,Fr.refl _ _⟩) (ae (t:=0) rfl<|ae (t:=1) rfl<|ae (t:=5) rfl<|ae (t:=6) rfl<|aF) (fun k v w2 ⟨hk,ho,hf⟩=> ?_)
 refine ba<|ba<|bm<|nq (aa rfl)<|nq (aa rfl)<|nq (bu rfl rfl)<|bl<|bV (ae (t:=9) rfl<|ae (t:=0) rfl<|ae (t:=1) rfl<|ae (t:=5) rfl<|ae (t:=6) rfl<|aF)<|aJ<| ?_
 refine sU rfl (fun h=> ?_) (fun h=> ?_)
 ·refine fI<|aJ<|ba<|dr<|ba<|bm<|nq (aa rfl)<|nq (aU rfl Tryz.underlying27)<|nq (cY rfl rfl)<|bl<|bV (ae (t:=14) rfl<|ae (t:=9) rfl<|ae (t:=0) rfl<|ae (t:=1) rfl<|ae (t:=5) rfl<|ae (t:=6) rfl<|aF)<|aJ<| ?_
  refine sU rfl (fun h2=> ?_) (fun h2=> ?_)
  ·have hkn:k % n<n:=Nat.mod_lt _ (by omega)
   have ga:=bM (l:=l) (i:=k % n) (by omega)
   have r2:=hr.qA hf
   refine bm<|nq (aa rfl)<|nq (aa rfl)<|nq (aa rfl)<|nq (aa rfl)<|nq (aU rfl Tryz.underlying27)<|nq (gU rfl rfl (by omega) (by omega))<|nq (aO rfl rfl Tryz.underlying27 ek r2.2.1 (show((k % n:Nat):Int)=_ by omega) (by omega))<|nq (aw rfl jL (r2.cell ga))<| ?_
   refine nx (oo Tryz.underlying27 fb rfl rfl rfl (by simp[Value.cells,B8]) (by decide) (by decide) fun g w3 hg hf3 hb3=> ?_)
   refine nx (lN rfl rfl Tryz.underlying27 Tryz.underlying27 (by exact .inl rfl) fb rfl (ho.qA hf3) (Src.gP hb3 rfl) (aS (l:=[_])) (by unfold maxLen;omega) (by omega) (hf.dE hf3).size fun v4 w4 ho4 hf4 hv4=> ?_)
   refine nq (ab rfl)<|bl<|bV (ae (t:=5) rfl<|ae (t:=14) rfl<|ae (t:=9) rfl<|ae (t:=0) rfl<|ae (t:=1) rfl<|ae (t:=6) rfl<|aF)<|gg<|aJ<|bm<|nq (aa rfl)<|nq (aN rfl rfl (bC (by omega) (by omega)))<|nq (ab rfl)<|bl<|bV (ae (t:=6) rfl<|ae (t:=5) rfl<|ae (t:=14) rfl<|ae (t:=9) rfl<|ae (t:=0) rfl<|ae (t:=1) rfl<|aF)<| ?_
   refine pU (k+1) v4 (ae (t:=0) rfl<|ae (t:=1) rfl<|ae (t:=5) rfl<|ae (t:=6) rfl<|aF) (⟨by omega,by rw[rr,bx,hl];exact ho4,(hf.dE hf3).new hf4 (fun i hi=>(ho.from hi).1)⟩) (by omega)
  ·have h0:l=[]:=List.eq_nil_of_length_eq_zero (by omega)
   refine bm<|nq (aa rfl)<| ?_
   refine nx (oo Tryz.underlying27 fb rfl rfl rfl (by simp[Value.cells,B8]) (by decide) (by decide) fun g w3 hg hf3 hb3=> ?_)
   refine nx (lN rfl rfl Tryz.underlying27 Tryz.underlying27 (by exact .inl rfl) fb rfl (ho.qA hf3) (Src.gP hb3 rfl) (aS (l:=[0])) (by unfold maxLen;omega) (by omega) (hf.dE hf3).size fun v4 w4 ho4 hf4 hv4=> ?_)
   refine nq (ab rfl)<|bl<|bV (ae (t:=5) rfl<|ae (t:=14) rfl<|ae (t:=9) rfl<|ae (t:=0) rfl<|ae (t:=1) rfl<|ae (t:=6) rfl<|aF)<|gg<|aJ<|bm<|nq (aa rfl)<|nq (aN rfl rfl (bC (by omega) (by omega)))<|nq (ab rfl)<|bl<|bV (ae (t:=6) rfl<|ae (t:=5) rfl<|ae (t:=14) rfl<|ae (t:=9) rfl<|ae (t:=0) rfl<|ae (t:=1) rfl<|aF)<| ?_
   refine pU (k+1) v4 (ae (t:=0) rfl<|ae (t:=1) rfl<|ae (t:=5) rfl<|ae (t:=6) rfl<|aF) (⟨by omega,by rw[rr,bx,h0];rw[h0]at ho4;exact ho4,(hf.dE hf3).new hf4 (fun i hi=>(ho.from hi).1)⟩) (by omega)
 ·obtain rfl:k=m:=by omega
  refine kM<|cf<|cf<|dw<|aJ<|ba<|bm<|nq (aa rfl)<|nq (ab rfl)<|bl<|bV (ae (t:=4) rfl<|ae (t:=9) rfl<|ae (t:=0) rfl<|ae (t:=1) rfl<|ae (t:=5) rfl<|ae (t:=6) rfl<|aF)<|aJ<|e8<| ?_
  exact gz trivial rfl rfl ⟨v,rfl,ho,hf⟩
theorem Fk(a:List UInt8)(w:World)(ha:a.length=32):
  Calls Tryz.prog 111 #[.agg (aR a).toArray] w fun e w' =>e= .returned (.string (strOf (b4 a)))∧Fr No w w' :=by
 refine enter (N:=6) Tryz.func111 rfl rfl (by simp) ?_
 refine ba<|bm<| ?_
 refine nx (tB rfl fun g1 w1 hg1 hf1 hb1=> ?_)
 rw[bA]at hb1
 refine nq (ab rfl)<|bl<|aJ<|ba<|bm<|nq (a6 rfl cx bo ((by rw[ay];exact ha)) hb1.az)<| ?_
 refine nx (eY rfl Tryz.call183 (bytes a _ ha) ?_)
 rintro e_ w2 ⟨v,rfl,hv,hf2⟩
 refine⟨_,rfl, ?_⟩
 obtain⟨Av,cv,rfl,hcv⟩:=hv.slice
 refine nx (eY rfl Tryz.call182 (F3 Av _ cv a _ ((Own.rd hv).2.2) (by omega)) ?_)
 rintro e_ w3 ⟨rfl,hf3⟩
 refine⟨_,rfl, ?_⟩
 refine nq (ab rfl)<|bl<|bV (ae (t:=2) rfl<|ae (t:=1) rfl<|ae (t:=0) rfl<|aF)<|aJ<|e8<| ?_
 exact gz trivial rfl rfl ⟨rfl,(hf1.dE hf2).dE hf3⟩
theorem qD(d:List UInt8)(h:d.length=32):cX (b4 d)=(d,0):=by
 rw[cX,jR]
 simp only
 rw[if_pos h]
end Go.Proofs.YtmibdabdlgmafaaGreatDoor
end
section
set_option maxRecDepth 20000
namespace Go.Proofs.YtmibdabdlgmafaaGreatDoor
open Go.Eng Go.Hx
theorem AG{a:List UInt8}(ha:a.length=32):cj Tryz.prog 104 [.agg (aR a).toArray] [] [] (fun v_ X_ S_=>v_=(.string (strOf (b4 a)))∧X_=[]∧S_=[]):=by
 exact iA fun m=>Calls.mono (name a _ ha) (fun e w' ⟨h,hf⟩=>⟨_,h,⟨rfl,rfl,rfl⟩,hf⟩)
theorem w0{a:List UInt8}(ha:a.length=32):cj Tryz.prog 111 [.agg (aR a).toArray] [] [] (fun v_ X_ S_=>v_=(.string (strOf (b4 a)))∧X_=[]∧S_=[]):=by
 exact iA fun m=>Calls.mono (Fk a _ ha) (fun e w' ⟨h,hf⟩=>⟨_,h,⟨rfl,rfl,rfl⟩,hf⟩)
theorem yE{s:List UInt8}(hs:s.length≤1000000):cj Tryz.prog 92 [.string (strOf s)] [] [] (fun v_ X_ S_=>v_=(.tuple #[.agg (aR (cX s).1).toArray,.int .i64 (cX s).2])∧X_=[]∧S_=[]):=by
 exact iA fun m=>Calls.mono (Cf s _ (by omega)) (fun e w' ⟨h,hf⟩=>⟨_,h,⟨rfl,rfl,rfl⟩,hf⟩)
theorem Ej{k q:Int}:cj Tryz.prog 103 [.iface 47 (.int .i64 k),.iface 47 (.int .i64 q)] [] [] (fun v_ X_ S_=>v_=(.bool (decide (k=q)))∧X_=[]∧S_=[]):=by
 exact iA fun m=>Calls.mono (p7 k q _) (fun e w' ⟨h,hw⟩=>⟨_,h,⟨rfl,rfl,rfl⟩,hw▸Fr.refl _ _⟩)
theorem FM{A:Option Addr}{n c:Nat}{l:List UInt8}{k:Nat}(hn:n≤140737488351232)(hk:k≤1000000):cj Tryz.prog 101 [.slice A n c,.int .i64 (k:Nat)] [] [cV 1 A n (aR l)] (fun v_ X_ S_=>∃v,v_=v∧X_=[aG 5 1 v k (aR (fill l k))]∧S_=[]):=by
 exact kF fun m=>Calls.mono (DO A n c l k _ (m.rd 0 rfl) hn hk) (fun e w' ⟨v,h,ho,hf⟩=>⟨v,v,_,_,_,_,h,⟨v,rfl,rfl,rfl⟩,ho,hf⟩)
end Go.Proofs.YtmibdabdlgmafaaGreatDoor
end
section
set_option maxRecDepth 20000
namespace Go.Proofs.YtmibdabdlgmafaaGreatDoor
open Go.Eng Go.Hx
theorem tk{l:List UInt8}{c:UInt8}:cj Tryz.prog 267 [.string (strOf l),B8 c] [] [] (fun v_ X_ S_=>v_=(.int .i64 (Lib.indexByte l c))∧X_=[]∧S_=[]):=by
 refine aQ (N:=8) Tryz.func267 rfl rfl (by simp) fun b=> ?_
 refine ah<|aj<|hy (fun _=>ab rfl)<|ai<|ag<|ah<|aj<|hy (fun _=>aa rfl)<|hy (fun _=>aa rfl)<| ?_
 refine hx (nv (fun m=>wR rfl Tryz.func295 (by kernel_rfl) (by kernel_rfl) (by kernel_rfl) (show _=some Extern.BytealgIndexByte.indexByte by kernel_rfl) (Lib.run_indexByteString _ _ _)) ?_)
 refine hy (fun _=>ab rfl)<|ai<|al (ρ' :=[(4,_),(0,_),(1,_)]) ⟨rfl,rfl,rfl,trivial⟩<|ag<|aX<| ?_
 exact bf trivial rfl rfl [] rfl [] rfl ⟨(by congr 2;simp),rfl,rfl⟩
theorem xG{l:List UInt8}{c:UInt8}:cj Tryz.prog 274 [.string (strOf l),.string (strOf [c])] [] [] (fun v_ X_ S_=>v_=(.int .i64 (Lib.indexByte l c))∧X_=[]∧S_=[]):=by
 refine aQ (N:=143) Tryz.func274 rfl rfl (by simp) fun b=> ?_
 refine ah<|aj<|hy (fun _=>ab rfl)<|ai<|ag<|ah<|aj<|hy (fun _=>aa rfl)<|hy (fun _=>yV (db rfl Tryz.underlying9) ((rfl:_=Value.int .i64 1)))<|hy (fun _=>ab rfl)<|ai<|al (ρ' :=[(5,_),(4,_),(0,_),(1,_)]) ⟨rfl,rfl,rfl,rfl,trivial⟩<|ag<|ah<|aI<|ah<|aj<|hy (fun _=>aa rfl)<|hy (fun _=>cM rfl rfl)<|hy (fun _=>aa rfl)<| ?_
 refine dU (o:=_) rfl rfl rfl (fun _=>aa rfl)<|dU (o:=_) rfl rfl rfl (fun _=>aa rfl)<|dU (o:=_) rfl rfl rfl (fun _=>tj rfl rfl)<|hy (fun _=>bP rfl rfl)<|hy (fun _=>ab rfl)<|ai<|al (ρ' :=[(16,_),(5,_),(4,_),(0,_),(1,_)]) ⟨rfl,rfl,rfl,rfl,rfl,trivial⟩<|ag<| ?_
 refine cD rfl (fun h=> ?_) (fun h=> ?_)
 ·obtain rfl:=cF.1 h
  refine ah<|aj<|hy (fun _=>ab rfl)<|ai<|ag<|aX<|a8<|ax<| ?_
  exact bf trivial rfl rfl [] rfl [] rfl ⟨(by simp[Lib.indexByte]),rfl,rfl⟩
 ·refine ah<|aj<|hy (fun _=>aa rfl)<|hy (fun _=>cM rfl rfl)<|hy (fun _=>ab rfl)<|ai<|al (ρ' :=[(24,_),(16,_),(5,_),(4,_),(0,_),(1,_)]) ⟨rfl,rfl,rfl,rfl,rfl,rfl,trivial⟩<|ag<| ?_
  refine ic rfl (rfl) ?_
  refine ah<|aj<|hy (fun _=>aa rfl)<|hy (fun _=>aa rfl)<|hy (fun _=>yV (fO rfl rfl Tryz.underlying9 rfl (k7 (by simp))) ((rfl:_=B8 c)))<| ?_
  refine hx (aq rfl Tryz.call267 (tk) [] rfl [] rfl ?_)
  rintro _ _ _ ⟨rfl,rfl,rfl⟩
  refine hy (fun _=>ab rfl)<|ai<|al (ρ' :=[(4,_),(24,_),(16,_),(5,_),(0,_),(1,_)]) ⟨rfl,rfl,rfl,rfl,rfl,rfl,trivial⟩<|ak (X' :=[]) (S' :=[]) (fun _ m=>m)<|ag<|aX<|a8<|ax<| ?_
  exact bf trivial rfl rfl [] rfl [] rfl ⟨rfl,rfl,rfl⟩
theorem qs{l:List UInt8}{c:UInt8}:cj Tryz.prog 233 [.string (strOf l),.string (strOf [c])] [] [] (fun v_ X_ S_=>v_=(.int .i64 (Lib.indexByte l c))∧X_=[]∧S_=[]):=by
 refine aQ (N:=8) Tryz.func233 rfl rfl (by simp) fun b=> ?_
 refine ah<|aj<|hy (fun _=>ab rfl)<|ai<|ag<|ah<|aj<|hy (fun _=>aa rfl)<|hy (fun _=>aa rfl)<| ?_
 refine hx (aq rfl Tryz.call274 (xG) [] rfl [] rfl ?_)
 rintro _ _ _ ⟨rfl,rfl,rfl⟩
 refine hy (fun _=>ab rfl)<|ai<|al (ρ' :=[(4,_),(0,_),(1,_)]) ⟨rfl,rfl,rfl,trivial⟩<|ak (X' :=[]) (S' :=[]) (fun _ m=>m)<|ag<|aX<| ?_
 exact bf trivial rfl rfl [] rfl [] rfl ⟨rfl,rfl,rfl⟩
theorem u7{l:List UInt8}{c:UInt8}:cj Tryz.prog 184 [.string (strOf l),.string (strOf [c])] [] [] (fun v_ X_ S_=>v_=(.bool (decide (c∈l)))∧X_=[]∧S_=[]):=by
 refine aQ (N:=9) Tryz.func184 rfl rfl (by simp) fun b=> ?_
 refine ah<|aj<|hy (fun _=>ab rfl)<|ai<|ag<|ah<|aj<|hy (fun _=>aa rfl)<|hy (fun _=>aa rfl)<| ?_
 refine hx (aq rfl Tryz.call233 (qs) [] rfl [] rfl ?_)
 rintro _ _ _ ⟨rfl,rfl,rfl⟩
 refine hy (fun _=>kl rfl rfl)<|hy (fun _=>ab rfl)<|ai<|al (ρ' :=[(4,_),(0,_),(1,_)]) ⟨rfl,rfl,rfl,trivial⟩<|ak (X' :=[]) (S' :=[]) (fun _ m=>m)<|ag<|aX<| ?_
 exact bf trivial rfl rfl [] rfl [] rfl ⟨(by congr 1;rw[←Lib.contains_iff_indexByte];simp),rfl,rfl⟩
def fV(p:List UInt8):Prop:=p≠ []∧p.length≤96∧¬(0:UInt8)∈p
instance(p:List UInt8):Decidable (fV p):=by unfold fV;infer_instance
theorem vQ(p:List UInt8):strOf p≠⟨#[]⟩↔p≠ []:=by
 rw[show(⟨#[]⟩:ByteArray)=strOf []from rfl]
 simp only[ne_eq,cF]
theorem yx{p:List UInt8}:cj Tryz.prog 115 [.string (strOf p)] [] [] (fun v_ X_ S_=>v_=(.bool (decide (fV p)))∧X_=[]∧S_=[]):=by
 have hsz:=di p
 refine aQ (N:=15) Tryz.func115 rfl rfl (by simp) fun b=> ?_
 refine ah<|aj<|hy (fun _=>ab rfl)<|ai<|ag<|ah<|aj<|hy (fun _=>aa rfl)<|hy (fun _=>oG rfl rfl)<|hy (fun _=>aa rfl)<| ?_
 refine eN 5 rfl (fun h1=> ?_) (fun h1=> ?_)
 ·have h1' :=(vQ p).1 h1
  refine dU (o:=_) rfl rfl rfl (fun _=>aa rfl)<|dU (o:=_) rfl rfl rfl (fun _=>db rfl Tryz.underlying9)<|dU (o:=_) rfl rfl rfl (fun _=>qG rfl rfl)<|hy (fun _=>bX rfl rfl)<|hy (fun _=>aa rfl)<| ?_
  refine eN 10 rfl (fun h2=> ?_) (fun h2=> ?_)
  ·have h2' :p.length≤96:=by omega
   refine dU (o:=_) rfl rfl rfl (fun _=>aa rfl)<| ?_
   refine GF (o:=_) rfl rfl rfl (aq rfl Tryz.call184 (u7) [] rfl [] rfl ?_)
   rintro _ _ _ ⟨rfl,rfl,rfl⟩
   refine dU (o:=_) rfl rfl rfl (fun _=>kb rfl)<|hy (fun _=>bX rfl rfl)<|hy (fun _=>ab rfl)<|ai<|al (ρ' :=[(2,_),(0,_)]) ⟨rfl,rfl,trivial⟩<|ak (X' :=[]) (S' :=[]) (fun _ m=>m)<|ag<|aX<| ?_
   exact bf trivial rfl rfl [] rfl [] rfl ⟨(by congr 1;simp only[fV];simp[h1',h2']),rfl,rfl⟩
  ·have h2' :¬p.length≤96:=by omega
   refine bD rfl rfl rfl (by decide)<|bD rfl rfl rfl (by decide)<|bD rfl rfl rfl (by decide)<|hy (fun _=>bP rfl rfl)<|hy (fun _=>ab rfl)<|ai<|al (ρ' :=[(2,_),(0,_)]) ⟨rfl,rfl,trivial⟩<|ag<|aX<| ?_
   exact bf trivial rfl rfl [] rfl [] rfl ⟨(by congr 1;simp only[fV];simp[h2']),rfl,rfl⟩
 ·have h1' :¬p≠ []:=fun h=>h1 ((vQ p).2 h)
  refine bD rfl rfl rfl (by decide)<|bD rfl rfl rfl (by decide)<|bD rfl rfl rfl (by decide)<|hy (fun _=>bP rfl rfl)<|hy (fun _=>aa rfl)<| ?_
  refine bD rfl rfl rfl (by decide)<|bD rfl rfl rfl (by decide)<|bD rfl rfl rfl (by decide)<|hy (fun _=>bP rfl rfl)<|hy (fun _=>ab rfl)<|ai<|al (ρ' :=[(2,_),(0,_)]) ⟨rfl,rfl,trivial⟩<|ag<|aX<| ?_
  exact bf trivial rfl rfl [] rfl [] rfl ⟨(by congr 1;simp only[fV];simp[h1']),rfl,rfl⟩
end Go.Proofs.YtmibdabdlgmafaaGreatDoor
end
section
set_option maxRecDepth 20000
namespace Go.Proofs.YtmibdabdlgmafaaGreatDoor
open Go.Eng Go.Hx
abbrev c6:=List (List UInt8×ei)
def dC(l:c6):List (List UInt8×Value):=l.map fun x=>(x.1,x.2.val)
def me(l:c6):Nat:=(l.map fun x=>x.2.n).sum
theorem nu:∀(l:c6) (p:List UInt8),b8 (dC l) p=(b8 l p).map ei.val
 | [],p=>rfl
 |(k,r)::q,p=>by
  have:=nu q p
  simp only[dC,List.map_cons,b8]at this ⊢
  split <;> simp_all
theorem kG:∀(l:c6) (p:List UInt8) (r:ei),cE (dC l) p r.val=dC (cE l p r)
 | [],p,r=>rfl
 |(k,u)::q,p,r=>by
  have:=kG q p r
  simp only[dC,List.map_cons,cE]at this ⊢
  split <;> simp_all
theorem pQ:∀(l:c6) (p:List UInt8),ec (dC l) p=dC (ec l p)
 | [],p=>rfl
 |(k,u)::q,p=>by
  have:=pQ q p
  simp only[dC,List.map_cons,ec]at this ⊢
  split <;> simp_all
theorem wK{l:c6}{j:Nat}{p:List UInt8×Value}(h:(dC l)[j]? =some p):∃r,l[j]? =some (p.1,r)∧p.2=r.val:=by
 simp only[dC,List.getElem?_map]at h
 cases hl:l[j]? with
 |none=>rw[hl]at h;cases h
 |some x=>
  rw[hl]at h
  simp only[Option.map_some,Option.some.injEq]at h
  subst h
  exact⟨x.2,rfl,rfl⟩
theorem mh(l:c6)(j:Nat):(dC l).eraseIdx j=dC (l.eraseIdx j):=(map_eraseIdx _ l j).symm
theorem rf:∀{l:c6} {j:Nat} {x:List UInt8×ei},l[j]? =some x→me (l.eraseIdx j)+x.2.n=me l
 | [],j,x,h=>by simp at h
 |a::q,0,x,h=>by
  simp only[List.getElem?_cons_zero,Option.some.injEq]at h
  subst h
  simp[me];omega
 |a::q,j+1,x,h=>by
  simp only[List.getElem?_cons_succ]at h
  have:=rf h
  simp only[me,List.eraseIdx_cons_succ,List.map_cons,List.sum_cons]at this ⊢
  omega
inductive fj
 |written (p:List UInt8) (r:ei)
 |renamed (a b:List UInt8)
 |removed (p:List UInt8)
def fj.row:fj→Option ei
 | .written _ r=>some r
 |_=>none
def fj.val:fj→Value
 | .written p r=>.iface 189 (.agg [SV p,r.val].toArray)
 | .renamed a b=>.iface 257 (.agg [SV a,SV b].toArray)
 | .removed p=>.iface 237 (.agg [SV p].toArray)
structure cA where
 room:Int
 gs:Nat
 gl:Nat
 seen:c6
 bO:c6
 waits:List fj
 wA:Option Addr
 wc:Nat
 bF:Int
def rowsOf(st:cA):List ei:=st.seen.map (·.2)++st.bO.map (·.2)++st.waits.filterMap fj.row
def gM(st:cA):List Value:=[.int .i64 st.room,.map (some st.gs),.map (some st.gl),.slice st.wA st.waits.length st.wc,.int .i64 st.bF]
abbrev bj(g:Nat)(st:cA):bh:=fG [aL g 177 (gM st),cT SV st.gs (dC st.seen),cT SV st.gl (dC st.bO),aG 232 1 (.slice st.wA st.waits.length st.wc) st.waits.length (st.waits.map fj.val),fM (rowsOf st)]
def mI(n:Int)(gs gl:Nat):cA:=⟨n,gs,gl,[],[],[],none,0,-1⟩
theorem GO{n:Int}(h1:1≤n)(h2:n≤1048576):cj Tryz.prog 24 [.int .i64 n] [] [] (fun v_ X_ S_=>∃g gs gl,v_=(.tuple #[.pointer (some ⟨g,0,none⟩),.int .i64 0])∧X_=[bj g (mI n gs gl)]∧S_=[]):=by
 refine aQ (N:=15) Tryz.func24 rfl rfl (by simp) fun b=> ?_
 refine ah<|aj<|hy (fun _=>ab rfl)<|hy (fun _=>ab rfl)<|ai<|ag<|ah<|ah<|aj<|hy (fun _=>aa rfl)<|hy (fun _=>bu rfl rfl)<|hy (fun _=>aa rfl)<| ?_
 refine eN 6 rfl (fun h=> ?_) (fun h=> ?_)
 ·exact absurd h (by omega)
 ·refine dU (o:=_) rfl rfl rfl (fun _=>aa rfl)<|dU (o:=_) rfl rfl rfl (fun _=>cY rfl rfl)<|hy (fun _=>bP rfl rfl)<|ai<|al (ρ' :=[(9,_),(3,_),(2,_),(0,_)]) ⟨rfl,rfl,rfl,rfl,trivial⟩<|ag<| ?_
  refine dL rfl (decide_eq_false (by omega)) ?_
  refine aC<|ag<|ah<|aj<|hy (fun _=>aa rfl)<| ?_
  refine hx (nw SV (fun g11=> ?_))
  refine hx (nw SV (fun g12=> ?_))
  refine hy (fun _=>yV (cy FB rfl rfl (by kernel_rfl) (.cons (o:=0) (sz:=1) (by kernel_rfl) rfl rfl (Nat.le_of_ble_eq_true rfl) (.cons (o:=1) (sz:=1) (by kernel_rfl) rfl rfl (Nat.le_of_ble_eq_true rfl) (.cons (o:=2) (sz:=1) (by kernel_rfl) rfl rfl (Nat.le_of_ble_eq_true rfl) (.cons (o:=4) (sz:=1) (by kernel_rfl) rfl rfl (Nat.le_of_ble_eq_true rfl) .nil))))) ((rfl:_=Value.agg (gM (mI n g11 g12)).toArray)))<| ?_
  refine hx (cI rfl (fun g14=> ?_))
  refine hy (fun _=>ab rfl)<|hy (fun _=>ab rfl)<|ai<|al (ρ' :=[(3,_),(2,_),(9,_),(0,_)]) ⟨rfl,rfl,rfl,rfl,trivial⟩<|ak (X' :=[_,_,_]) (S' :=[]) (fun _ m=>m)<|ag<|aX<| ?_
  refine ak (fun w m=>m.dG (r' :=aG 232 1 (.slice none 0 0) 0 []) (.refl _ _) (Own.nil _ _ _ _) (fun k hk=>hk.elim)) ?_
  refine ak (fun w m=>m.D9) ?_
  refine ak (X' :=bj g14 (mI n g11 g12)::_) (fun w m=>(m.perm (ar [2,3,2,1,0] _ [_,_,_,_,_] _ rfl)).pack) ?_
  exact dy trivial rfl rfl rfl [0] rfl [] rfl ⟨_,_,_,rfl,rfl,rfl⟩
theorem GD{g:Nat}{st:cA}:cj Tryz.prog 87 [.pointer (some ⟨g,0,none⟩)] [bj g st] [] (fun v_ X_ S_=>v_=(.bool (decide (st.bF≠0)))∧X_=[bj g st]∧S_=[]):=by
 refine aQ (N:=8) Tryz.func87 rfl rfl (by simp) fun b=> ?_
 refine bw (fun w m=>(m.perm (ar [0] _ [_] _ rfl)).unpack) ?_
 refine ah<|aj<|hy (fun _=>ab rfl)<|ai<|ag<|ah<|aj<|hy (fun _=>aa rfl)<|hy (fun _=>a7 rfl)<|hy (fun _=>aH rfl lJ (by decide))<|hy (fun m=>aw rfl fS (aA (m.aZ 0 rfl) rfl))<|hy (fun _=>dP rfl rfl)<|hy (fun _=>ab rfl)<|ai<|al (ρ' :=[(2,_),(0,_)]) ⟨rfl,rfl,trivial⟩<|ag<|aX<| ?_
 refine ak (X' :=bj g st::_) (fun w m=>(m.perm (ar [0,0,0,0,0] _ [_,_,_,_,_] _ rfl)).pack) ?_
 exact bf trivial rfl rfl [0] rfl [] rfl ⟨rfl,rfl,rfl⟩
def cA.eH(st:cA):cA:={st with bF:=if 0<st.bF then st.bF-1 else st.bF}
theorem su{g:Nat}{st:cA}(hp:st.bF≤1000000000000):cj Tryz.prog 181 [.pointer (some ⟨g,0,none⟩)] [bj g st] [] (fun v_ X_ S_=>v_=(.tuple #[])∧X_=[bj g st.eH]∧S_=[]):=by
 refine aQ (N:=14) Tryz.func181 rfl rfl (by simp) fun b=> ?_
 refine bw (fun w m=>(m.perm (ar [0] _ [_] _ rfl)).unpack) ?_
 refine ah<|aj<|hy (fun _=>aa rfl)<|hy (fun _=>a7 rfl)<|hy (fun _=>aH rfl lJ (by decide))<|hy (fun m=>aw rfl fS (aA (m.aZ 0 rfl) rfl))<|hy (fun _=>cY rfl rfl)<|ai<|al (ρ' :=[(6,_),(0,_)]) ⟨rfl,rfl,trivial⟩<|ag<| ?_
 refine cD rfl (fun h=> ?_) (fun h=> ?_)
 ·have e:st.eH={st with bF:=st.bF-1}:=by simp only[cA.eH,if_pos h]
  rw[e]
  refine aj<|hy (fun _=>aa rfl)<|hy (fun _=>a7 rfl)<|hy (fun _=>aH rfl lJ (by decide))<|hy (fun m=>aw rfl fS (aA (m.aZ 0 rfl) rfl))<|hy (fun _=>cw rfl rfl (bC (by omega) (by omega)))<|hy (fun _=>a7 rfl)<|hy (fun _=>aH rfl lJ (by decide))<| ?_
  refine cJ (cm 0 rfl rfl rfl sS rfl (by first|exact Nat.le_of_ble_eq_true rfl|simp) ?_)
  refine ai<|al (ρ' :=[(6,_),(0,_)]) ⟨rfl,rfl,trivial⟩<|ak (X' :=[_,_,_,_,_]) (S' :=[]) (fun _ m=>m)<| ?_
  refine ak (X' :=bj g {st with bF:=st.bF-1}::_) (fun w m=>(m.perm (ar [0,0,0,0,0] _ [_,_,_,_,_] _ rfl)).pack) ?_
  exact fD trivial rfl [0] rfl [] rfl ⟨rfl,rfl,rfl⟩
 ·have e:st.eH=st:=by simp only[cA.eH,if_neg h]
  rw[e]
  refine aC<| ?_
  refine ak (X' :=bj g st::_) (fun w m=>(m.perm (ar [0,0,0,0,0] _ [_,_,_,_,_] _ rfl)).pack) ?_
  exact fD trivial rfl [0] rfl [] rfl ⟨rfl,rfl,rfl⟩
theorem Gz{g:Nat}{st:cA}(ht:me st.seen≤1000000000000):cj Tryz.prog 88 [.pointer (some ⟨g,0,none⟩)] [bj g st] [] (fun v_ X_ S_=>v_=(.int .i64 (me st.seen:Nat))∧X_=[bj g st]∧S_=[]):=by
 refine aQ (N:=20) Tryz.func88 rfl rfl (by simp) fun b=> ?_
 refine bw (fun w m=>(m.perm (ar [0] _ [_] _ rfl)).unpack) ?_
 refine ah<|aj<|hy (fun _=>ab rfl)<|ai<|ag<|ah<|aj<|hy (fun _=>ab rfl)<|ai<|ag<|ah<|ah<|aj<|hy (fun _=>aa rfl)<|hy (fun _=>a7 rfl)<|hy (fun _=>aH rfl gv (by decide))<|hy (fun m=>aw rfl iR (aA (m.aZ 0 rfl) rfl))<| ?_
 refine hx (pE 1 rfl rfl Tryz.underlying174 (fun r10=> ?_))
 refine ai<|al (ρ' :=[(10,_),(3,_),(2,_),(0,_)]) ⟨rfl,rfl,rfl,rfl,trivial⟩<|ak (X' :=[_,_,_,_,_]) (S' :=[]) (fun _ m=>m)<|ag<|aI<| ?_
 refine fJ (fun left n cur=>left.length) (fun left n cur=>[(3,.int .i64 (n:Nat))]) (fun left n cur=>[jG SV r10 st.gs (dC st.seen) (dC left) cur]) (fun left n cur=>[]) (fun left n cur=>n+me left=me st.seen) st.seen 0 none [(10,_),(2,_),(0,_)] ⟨rfl,rfl,rfl,trivial⟩ [0] rfl [] rfl (Nat.zero_add _) ⟨rfl,trivial⟩ (fun left n cur hI=> ?_)
 refine ah<|aj<| ?_
 refine hx (rU 0 rfl rfl (fun h0=> ?_) (fun j p hp=> ?_))
 ·obtain rfl:left=[]:=List.map_eq_nil_iff.1 h0
  have hn:n=me st.seen:=by simpa[me]using hI
  subst hn
  refine hy (fun _=>au rfl rfl)<|ai<|al (ρ' :=[(12,_),(3,_),(10,_),(2,_),(0,_)]) ⟨rfl,rfl,rfl,rfl,rfl,trivial⟩<|ag<|ah<| ?_
  refine dL rfl (rfl) ?_
  refine bK<|ao<|ao<|aB<|ag<|ah<|aj<|hy (fun _=>aa rfl)<|hy (fun _=>ab rfl)<|ai<|al (ρ' :=[(2,_),(12,_),(3,_),(10,_),(0,_)]) ⟨rfl,rfl,rfl,rfl,rfl,trivial⟩<|ag<|aX<| ?_
  refine ak (fun w m=>m.uS 0 rfl) ?_
  refine ak (X' :=bj g st::_) (fun w m=>(m.perm (ar [1,0,0,0,0] _ [_,_,_,_,_] _ rfl)).pack) ?_
  exact bf trivial rfl rfl [0] rfl [] rfl ⟨rfl,rfl,rfl⟩
 ·obtain⟨k,v⟩:=p
  obtain⟨r,hr,e⟩:=wK hp
  obtain rfl:v=r.val:=e
  have ht:=rf hr
  have hlt:=(List.getElem?_eq_some_iff.1 hr).1
  simp only at ht
  refine hy (fun _=>au rfl rfl)<|ai<|al (ρ' :=[(12,_),(3,_),(10,_),(2,_),(0,_)]) ⟨rfl,rfl,rfl,rfl,rfl,trivial⟩<|ag<|ah<| ?_
  refine ic rfl (rfl) ?_
  refine aC<|ag<|aI<|ah<|aj<|hy (fun m=>pW rfl (m.Ee 0 rfl))<|hy (fun _=>yV (au rfl rfl) ((rfl:_=Value.slice r.A r.n r.c)))<|hy (fun _=>ab rfl)<|ai<|al (ρ' :=[(5,_),(12,_),(3,_),(10,_),(2,_),(0,_)]) ⟨rfl,rfl,rfl,rfl,rfl,rfl,trivial⟩<|ag<|aj<|hy (fun _=>aa rfl)<|hy (fun _=>aa rfl)<|hy (fun _=>aU rfl Tryz.underlying27)<|hy (fun _=>aN rfl rfl (bC (by omega) (by omega)))<|hy (fun _=>ab rfl)<|ai<|al (ρ' :=[(3,_),(5,_),(12,_),(10,_),(2,_),(0,_)]) ⟨rfl,rfl,rfl,rfl,rfl,rfl,trivial⟩<|aM<| ?_
  refine ak (fun w m=>m.bQ 0 rfl (show _=jG SV r10 st.gs (dC st.seen) (dC (left.eraseIdx j)) (some (k,r.val))from congrArg (fun q=>jG SV r10 st.gs (dC st.seen) q (some (k,r.val))) (mh left j))) ?_
  refine fu (left.eraseIdx j) (n+r.n) (some (k,r.val)) ⟨rfl,rfl,rfl,rfl,trivial⟩ [0,0,0,0,0] rfl [] rfl (by omega) (by rw[List.length_eraseIdx,if_pos hlt];omega)
theorem qe{l:c6}(p:List UInt8):(b8 l p=none∧b8 (dC l) p=none)∨∃r,b8 l p=some r∧b8 (dC l) p=some r.val:=by
 rw[nu]
 cases b8 l p with
 |none=>exact .inl ⟨rfl,rfl⟩
 |some r=>exact .inr ⟨r,rfl,rfl⟩
def dM(st:cA)(p:List UInt8):Int:=if st.bF=0 then 6 else if b8 st.seen p=none then 4 else 0
theorem vc{g:Nat}{st:cA}{p:List UInt8}:cj Tryz.prog 158 [.pointer (some ⟨g,0,none⟩),.string (strOf p)] [bj g st] [] (fun v_ X_ S_=>v_=(.int .i64 (dM st p))∧X_=[bj g st]∧S_=[]):=by
 have hf:dM st p=dM st p:=rfl
 refine aQ (N:=23) Tryz.func158 rfl rfl (by simp) fun b=> ?_
 refine bw (fun w m=>(m.perm (ar [0] _ [_] _ rfl)).unpack) ?_
 have hh:(b8 (dC st.seen) p).isSome=decide (b8 st.seen p≠none):=by
  rcases qe (l:=st.seen) p with⟨h1,h2⟩|⟨r,h1,h2⟩ <;> simp[h1,h2]
 refine ah<|aj<|hy (fun _=>ab rfl)<|ai<|ag<|ah<|aj<|hy (fun _=>aa rfl)<|hy (fun _=>a7 rfl)<|hy (fun _=>aH rfl gv (by decide))<|hy (fun m=>aw rfl iR (aA (m.aZ 0 rfl) rfl))<|hy (fun _=>aa rfl)<|hy (fun m=>jS (enc:=SV) rfl rfl Tryz.underlying174 ui (jY Tryz.underlying9) (m.p4 1 rfl))<|hy (fun _=>aa rfl)<|hy (fun _=>au rfl rfl)<|hy (fun _=>yV (au rfl rfl) ((show Value.bool (b8 (dC st.seen) p).isSome= .bool (decide (b8 st.seen p≠none)) by rw[hh])))<|hy (fun _=>ab rfl)<|hy (fun _=>ab rfl)<|ai<|al (ρ' :=[(6,_),(4,_),(0,_),(1,_)]) ⟨rfl,rfl,rfl,rfl,trivial⟩<|ag<|ah<|aI<|ah<|aj<| ?_
 refine aT (X' :=bj g st::_) (fun w m=>(m.perm (ar [0,0,0,0,0] _ [_,_,_,_,_] _ rfl)).pack) ?_
 refine hy (fun _=>aa rfl)<| ?_
 refine hx (aq rfl Tryz.call87 (GD) [0] rfl [] rfl ?_)
 rintro _ _ _ ⟨rfl,rfl,rfl⟩
 refine hy (fun _=>kb rfl)<|hy (fun _=>ab rfl)<|ai<|al (ρ' :=[(16,_),(6,_),(4,_),(0,_),(1,_)]) ⟨rfl,rfl,rfl,rfl,rfl,trivial⟩<|ak (X' :=[_]) (S' :=[]) (fun _ m=>m)<|ag<| ?_
 refine cD rfl (fun h1=> ?_) (fun h1=> ?_)
 ·refine ah<|aj<|hy (fun _=>ab rfl)<|ai<|ag<|aX<|a8<|ax<| ?_
  exact bf trivial rfl rfl [0] rfl [] rfl ⟨(by rw[dM,if_pos (by omega)]),rfl,rfl⟩
 ·refine ah<|aj<|hy (fun _=>aa rfl)<|hy (fun _=>kb rfl)<|hy (fun _=>ab rfl)<|ai<|al (ρ' :=[(20,_),(16,_),(6,_),(4,_),(0,_),(1,_)]) ⟨rfl,rfl,rfl,rfl,rfl,rfl,trivial⟩<|ag<| ?_
  refine cD rfl (fun h2=> ?_) (fun h2=> ?_)
  ·refine ah<|aj<|hy (fun _=>ab rfl)<|ai<|ag<|aX<|a8<|ax<| ?_
   exact bf trivial rfl rfl [0] rfl [] rfl ⟨(by rw[dM,if_neg (by omega),if_pos (Decidable.not_not.1 h2)]),rfl,rfl⟩
  ·refine aC<|aM<|ag<|ah<|aj<|hy (fun _=>ab rfl)<|ai<|ag<|aX<| ?_
   exact bf trivial rfl rfl [0] rfl [] rfl ⟨(by rw[dM,if_neg (by omega),if_neg (fun e=>h2 (fun h=>h e))]),rfl,rfl⟩
end Go.Proofs.YtmibdabdlgmafaaGreatDoor
end
