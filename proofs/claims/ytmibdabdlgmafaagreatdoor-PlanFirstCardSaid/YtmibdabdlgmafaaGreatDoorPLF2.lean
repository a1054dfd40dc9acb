/- Part. -/
import Derived.Test.YtmibdabdlgmafaaGreatDoorPLF1
import Derived.Test.YtmibdabdlgmafaaGreatDoorProg
import Derived.KernelRfl
import Derived.Lib.Bytealg
import Derived.Test.YtmibdabdlgmafaaGreatDoorRows
import Derived.ProofKit
import Derived.LaidMore
import Derived.OpenShut
import Derived.MakeChecks
import Derived.LaidHandle
import Derived.LaidLaws
import Derived.Lib.BytesEntry
import Derived.Lib.IndexAny
import Derived.ShutString
import Derived.ChangeOld
import Derived.SizedLaws
import Derived.ChangeSame
import Derived.Conc.MuLib
import Derived.Laws.LoneSync
import Derived.Tactics
import Derived.Tactics2
import Derived.Defers
import Derived.Laws.Pointers
import Derived.RegionTactic
import Derived.RegionCalls
set_option linter.all false
section
namespace Go.Hx
open Go.Eng
def gE(n:Nat)(x:UInt32):UInt32:=.ofNat (x.toNat/2 ^ n+x.toNat % 2 ^ n*2 ^ (32-n))
theorem lO{n:Nat}(hn:n≤32)(x:UInt32):(gE n x).toNat=x.toNat/2 ^ n+x.toNat % 2 ^ n*2 ^ (32-n):=by
 rw[gE,UInt32.toNat_ofNat',Nat.mod_eq_of_lt]
 have h1:=x.toNat_lt
 have h2:2 ^ n*2 ^ (32-n)=2 ^ 32:=by rw[←Nat.pow_add];congr 1;omega
 have h3:x.toNat % 2 ^ n<2 ^ n:=Nat.mod_lt _ (Nat.two_pow_pos n)
 have h4:x.toNat/2 ^ n<2 ^ (32-n):=Nat.div_lt_of_lt_mul (by omega)
 have h5:x.toNat % 2 ^ n*2 ^ (32-n)≤(2 ^ n-1)*2 ^ (32-n):=Nat.mul_le_mul_right _ (by omega)
 have h6:(2 ^ n-1)*2 ^ (32-n)+2 ^ (32-n)=2 ^ 32:=by
  rw[←h2,Nat.sub_mul,Nat.one_mul]
  have:=Nat.le_mul_of_pos_left (2 ^ (32-n)) (Nat.two_pow_pos n)
  omega
 omega
def s3(x:UInt32):UInt32:=x/2+x % 2*2147483648
theorem xg(x:UInt32):(s3 x).toNat=x.toNat/2+x.toNat % 2*2147483648:=by
 have h1:=x.toNat_lt
 rw[s3,UInt32.toNat_add,UInt32.toNat_mul,UInt32.toNat_div,UInt32.toNat_mod]
 show(x.toNat/2+x.toNat % 2*2147483648 % 4294967296) % 4294967296=_
 have:x.toNat % 2<2:=Nat.mod_lt _ (by decide)
 omega
theorem wi(x:UInt32):gE 0 x=x:=by
 apply UInt32.toNat_inj.1
 rw[lO (by decide)]
 simp[Nat.mod_one]
theorem xd{n:Nat}(hn:n<32)(x:UInt32):gE (n+1) x=s3 (gE n x):=by
 apply UInt32.toNat_inj.1
 rw[xg,lO (by omega),lO (by omega)]
 obtain⟨k,hk⟩:∃k,32-n=k+1:=⟨31-n,by omega⟩
 have hk2:32-(n+1)=k:=by omega
 rw[hk,hk2,Nat.pow_succ 2 k,Nat.pow_succ 2 n]
 have hq:x.toNat/(2 ^ n*2)=x.toNat/2 ^ n/2:=(Nat.div_div_eq_div_mul ..).symm
 have hm:x.toNat % (2 ^ n*2)=x.toNat % 2 ^ n+2 ^ n*(x.toNat/2 ^ n % 2):=Nat.mod_mul ..
 rw[hq,hm]
 generalize x.toNat/2 ^ n=q
 generalize x.toNat % 2 ^ n=m
 have h31:2 ^ n*2 ^ k=2147483648:=by rw[←Nat.pow_add,show n+k=31 by omega]
 have e1:(q+m*(2 ^ k*2))/2=q/2+m*2 ^ k:=by
  rw[show m*(2 ^ k*2)=(m*2 ^ k)*2 by rw[Nat.mul_assoc]];omega
 have e2:(q+m*(2 ^ k*2)) % 2=q % 2:=by
  rw[show m*(2 ^ k*2)=(m*2 ^ k)*2 by rw[Nat.mul_assoc]];omega
 rw[e1,e2,Nat.add_mul,Nat.mul_right_comm (2 ^ n),h31]
 omega
theorem qF{n:Nat}(h0:0<n)(hn:n<32)(x:UInt32):UInt32.ofNat (x.toNat*2 ^ (32-n)) ||| UInt32.ofNat (x.toNat/2 ^ n)=gE n x:=by
 apply UInt32.toNat_inj.1
 have h1:=x.toNat_lt
 rw[lO (by omega),UInt32.toNat_or,UInt32.toNat_ofNat',UInt32.toNat_ofNat']
 have h2:2 ^ n*2 ^ (32-n)=2 ^ 32:=by rw[←Nat.pow_add];congr 1;omega
 have h4:x.toNat/2 ^ n<2 ^ (32-n):=Nat.div_lt_of_lt_mul (by omega)
 have h5:x.toNat/2 ^ n≤x.toNat:=Nat.div_le_self ..
 rw[Nat.mod_eq_of_lt (a:=x.toNat/2 ^ n) (by omega)]
 have h6:x.toNat*2 ^ (32-n) % 2 ^ 32=2 ^ (32-n)*(x.toNat % 2 ^ n):=by
  rw[←h2,Nat.mul_mod_mul_right,Nat.mul_comm]
 rw[h6,←Nat.two_pow_add_eq_or_of_lt h4,Nat.mul_comm,Nat.add_comm]
def e7:List UInt32:=[1116352408,1899447441,3049323471,3921009573,961987163,1508970993,2453635748,2870763221,3624381080,310598401,607225278,1426881987,1925078388,2162078206,2614888103,3248222580,3835390401,4022224774,264347078,604807628,770255983,1249150122,1555081692,1996064986,2554220882,2821834349,2952996808,3210313671,3336571891,3584528711,113926993,338241895,666307205,773529912,1294757372,1396182291,1695183700,1986661051,2177026350,2456956037,2730485921,2820302411,3259730800,3345764771,3516065817,3600352804,4094571909,275423344,430227734,506948616,659060556,883997877,958139571,1322822218,1537002063,1747873779,1955562222,2024104815,2227730452,2361852424,2428436474,2756734187,3204031479,3329325298]
def lq:List UInt32:=[1779033703,3144134277,1013904242,2773480762,1359893119,2600822924,528734635,1541459225]
def turns(a b c:Nat)(x:UInt32):UInt32:=gE a x ^^^ gE b x ^^^ gE c x
def at8(b:List UInt8)(i:Nat):Nat:=(b.getD i 0).toNat
def jI(b:List UInt8)(i:Nat):UInt32:=.ofNat (at8 b i*16777216+at8 b (i+1)*65536+at8 b (i+2)*256+at8 b (i+3))
def wp(b:List UInt8)(i:Nat):Nat→Nat
 |0=>0
 |j+1=>wp b i j*256+at8 b (i+j)
theorem mL(b:List UInt8)(i:Nat):at8 b i<256:=(b.getD i 0).toNat_lt
theorem Cc(b:List UInt8)(i:Nat):∀j,wp b i j<256 ^ j
 |0=>Nat.one_pos
 |j+1=>by
  have h1:=Cc b i j
  have h2:=mL b (i+j)
  rw[wp,Nat.pow_succ]
  omega
theorem Aw{b:List UInt8}{i j:Nat}(hj:j<4):(UInt32.ofNat (wp b i j)*256) ||| (b.getD (i+j) 0).toUInt32=UInt32.ofNat (wp b i (j+1)):=by
 apply UInt32.toNat_inj.1
 have h1:=Cc b i j
 have h0:256 ^ j≤256 ^ 3:=Nat.pow_le_pow_right (by decide) (by omega)
 have h2:=mL b (i+j)
 have h3:wp b i j<16777216:=Nat.lt_of_lt_of_le h1 h0
 rw[UInt32.toNat_or,UInt32.toNat_mul,UInt32.toNat_ofNat',UInt8.toNat_toUInt32,UInt32.toNat_ofNat',wp]
 show(wp b i j % 4294967296*256 % 4294967296 ||| at8 b (i+j))=_
 rw[Nat.mod_eq_of_lt (a:=wp b i j) (by omega),Nat.mod_eq_of_lt (a:=wp b i j*256) (by omega),Nat.mod_eq_of_lt (a:=wp b i j*256+_) (by omega),show wp b i j*256=2 ^ 8*wp b i j by omega,Nat.two_pow_add_eq_or_of_lt (i:=8) h2]
theorem Dp(b:List UInt8)(i:Nat):wp b i 4=at8 b i*16777216+at8 b (i+1)*65536+at8 b (i+2)*256+at8 b (i+3):=by
 have e1:wp b i 1=wp b i 0*256+at8 b (i+0):=rfl
 have e2:wp b i 2=wp b i 1*256+at8 b (i+1):=rfl
 have e3:wp b i 3=wp b i 2*256+at8 b (i+2):=rfl
 have e4:wp b i 4=wp b i 3*256+at8 b (i+3):=rfl
 have e0:wp b i 0=0:=rfl
 rw[Nat.add_zero]at e1
 rw[e4,e3,e2,e1,e0]
 generalize at8 b i=p
 generalize at8 b (i+1)=q
 generalize at8 b (i+2)=r
 generalize at8 b (i+3)=s
 omega
theorem A6(b:List UInt8)(i:Nat):UInt32.ofNat (wp b i 4)=jI b i:=congrArg UInt32.ofNat (Dp b i)
theorem xf(b:List UInt8)(i:Nat):(b.getD i 0).toUInt32*16777216+(b.getD (i+1) 0).toUInt32*65536+(b.getD (i+2) 0).toUInt32*256+(b.getD (i+3) 0).toUInt32=jI b i:=by
 apply UInt32.toNat_inj.1
 have h0:(b.getD i 0).toNat<256:=mL b i
 have h1:(b.getD (i+1) 0).toNat<256:=mL b (i+1)
 have h2:(b.getD (i+2) 0).toNat<256:=mL b (i+2)
 have h3:(b.getD (i+3) 0).toNat<256:=mL b (i+3)
 have k1:(16777216:UInt32).toNat=16777216:=rfl
 have k2:(65536:UInt32).toNat=65536:=rfl
 have k3:(256:UInt32).toNat=256:=rfl
 simp only[jI,at8,UInt32.toNat_add,UInt32.toNat_mul,UInt8.toNat_toUInt32,UInt32.toNat_ofNat',k1,k2,k3]
 generalize(b.getD i 0).toNat=p at*
 generalize(b.getD (i+1) 0).toNat=q at*
 generalize(b.getD (i+2) 0).toNat=r at*
 generalize(b.getD (i+3) 0).toNat=s at*
 omega
def Gu(x:UInt32):UInt32:=gE 7 x ^^^ gE 18 x ^^^ (x/8)
def FE(x:UInt32):UInt32:=gE 17 x ^^^ gE 19 x ^^^ (x/1024)
def lJ(w:List UInt32)(i:Nat):UInt32:=w.getD (i-16) 0+Gu (w.getD (i-15) 0)+w.getD (i-7) 0+FE (w.getD (i-2) 0)
def wl(b:List UInt8):Nat→List UInt32
 |0=>[]
 |i+1=>wl b i++[if i<16 then jI b (4*i)else lJ (wl b i) i]
theorem eP(b:List UInt8):∀i,(wl b i).length=i
 |0=>rfl
 |i+1=>by rw[wl,List.length_append,eP b i];rfl
def v_(v:List UInt32)(i:Nat):UInt32:=v.getD i 0
def rt(v:List UInt32)(k w:UInt32):UInt32:=v_ v 7+turns 6 11 25 (v_ v 4)+((v_ v 4 &&& v_ v 5) ^^^ (~~~(v_ v 4) &&& v_ v 6))+k+w
def ru(v:List UInt32):UInt32:=turns 2 13 22 (v_ v 0)+((v_ v 0 &&& v_ v 1) ^^^ (v_ v 0 &&& v_ v 2) ^^^ (v_ v 1 &&& v_ v 2))
def GW(v:List UInt32)(k w:UInt32):List UInt32:=[rt v k w+ru v,v_ v 0,v_ v 1,v_ v 2,v_ v 3+rt v k w,v_ v 4,v_ v 5,v_ v 6]
def jY(w v:List UInt32):Nat→List UInt32
 |0=>v
 |i+1=>GW (jY w v i) (e7.getD i 0) (w.getD i 0)
theorem jK{w v:List UInt32}(h:v.length=8):∀i,(jY w v i).length=8
 |0=>h
 |i+1=>rfl
def fi(v h:List UInt32)(i:Nat):List UInt32:=(List.range v.length).map fun j=>if j<i then v_ v j+v_ h j else v_ v j
def dT(h:List UInt32)(b:List UInt8):List UInt32:=fi (jY (wl b 64) h 64) h 8
theorem iA{h:List UInt32}(hl:h.length=8)(b:List UInt8):(dT h b).length=8:=by simp[dT,fi,jK hl]
theorem pP{v h:List UInt32}:fi v h 0=v:=by
 apply List.ext_getElem?
 intro i
 simp only[fi,Nat.not_lt_zero,if_false,List.getElem?_map]
 by_cases hi:i<v.length
 ·simp[hi,v_,List.getD]
 ·rw[List.getElem?_eq_none (by simpa using hi),List.getElem?_eq_none (by omega)];rfl
theorem pX{v h:List UInt32}{i:Nat}(hi:i<v.length):fi v h (i+1)=(fi v h i).set i (v_ (fi v h i) i+v_ h i):=by
 apply List.ext_getElem?
 intro j
 have e:v_ (fi v h i) i=v_ v i:=by simp[fi,v_,List.getD,hi]
 rw[e]
 by_cases hj:j<v.length
 ·by_cases hij:i=j
  ·subst hij
   simp[fi,hi]
  ·rw[List.getElem?_set_ne hij]
   simp only[fi,List.getElem?_map,List.getElem?_range hj,Option.map_some]
   congr 1
   by_cases h1:j<i
   ·rw[if_pos h1,if_pos (by omega)]
   ·rw[if_neg h1,if_neg (by omega)]
 ·rw[List.getElem?_eq_none (by simp[fi];omega),List.getElem?_eq_none (by simp[fi];omega)]
def na:Nat→List UInt32→List UInt8→List UInt32
 |0,h,_=>h
 |n+1,h,l=>na n (dT h (l.take 64)) (l.drop 64)
def eT(h:List UInt32)(l:List UInt8):List UInt32:=na (l.length/64) h l
theorem pa:∀(n:Nat) (h:List UInt32) (l b:List UInt8),l.length=64*n→b.length=64→na (n+1) h (l++b)=dT (na n h l) b
 |0,h,l,b,hl,hb=>by
  obtain rfl:=List.eq_nil_of_length_eq_zero hl
  simp only[na,List.nil_append]
  rw[List.take_of_length_le (by omega)]
 |n+1,h,l,b,hl,hb=>by
  have h1:(l++b).take 64=l.take 64:=by rw[List.take_append_of_le_length (by omega)]
  have h2:(l++b).drop 64=l.drop 64++b:=by rw[List.drop_append_of_le_length (by omega)]
  rw[na,h1,h2,pa n _ (l.drop 64) b (by rw[List.length_drop];omega) hb]
  rfl
theorem o9{h:List UInt32}{l b:List UInt8}(hl:l.length % 64=0)(hb:b.length=64):eT h (l++b)=dT (eT h l) b:=by
 unfold eT
 rw[List.length_append,hb,show(l.length+64)/64=l.length/64+1 by omega]
 exact pa _ h l b (by omega) hb
theorem l5:∀(n:Nat) (h:List UInt32) (l:List UInt8),h.length=8→(na n h l).length=8
 |0,h,l,hl=>hl
 |n+1,h,l,hl=>l5 n _ _ (iA hl _)
theorem mg{h:List UInt32}(l:List UInt8)(hl:h.length=8):(eT h l).length=8:=l5 _ _ _ hl
def zZ(x:UInt32):List UInt8:=[.ofNat (x/16777216).toNat,.ofNat (x/65536).toNat,.ofNat (x/256).toNat,.ofNat x.toNat]
def eg(h:List UInt32):List UInt8:=h.flatMap zZ
def rX(n:Nat):List UInt8:=(List.range 8).map fun i=>.ofNat (n/256 ^ (7-i))
def gP(n:Nat):Nat:=(119-n % 64) % 64
def iB(b:List UInt8):List UInt8:=b++(128::List.replicate (gP b.length) 0)++rX (8*b.length)
theorem nc(b:List UInt8):(iB b).length % 64=0:=by
 simp only[iB,List.length_append,List.length_cons,List.length_replicate,rX,List.length_map,List.length_range,gP]
 omega
def bp(b:List UInt8):List UInt8:=eg (eT lq (iB b))
theorem lK{h:List UInt32}(hl:h.length=8):(eg h).length=32:=by
 match h,hl with
 | [a,b,c,d,e,f,g,i],_=>rfl
theorem bk(b:List UInt8):(bp b).length=32:=lK (mg _ rfl)
end Go.Hx
end
section
namespace Go.Proofs.YtmibdabdlgmafaaGreatDoor
open Go.Eng
theorem dq:cM Tryz.prog 3=some false:=by kernel_rfl
theorem ta:eV Tryz.prog 3=some 1:=by kernel_rfl
theorem Eo:TI Tryz.prog 3 (.int .i64 0) 1 8:=by unfold TI;kernel_rfl
theorem iv:cM Tryz.prog 5=some false:=by kernel_rfl
theorem dB:eV Tryz.prog 5=some 1:=by kernel_rfl
theorem eA:TI Tryz.prog 5 (.int .u8 0) 1 1:=by unfold TI;kernel_rfl
theorem lF:cM Tryz.prog 9=some false:=by kernel_rfl
theorem Hr:eV Tryz.prog 9=some 1:=by kernel_rfl
theorem Hn:TI Tryz.prog 9 (.string ⟨#[]⟩) 1 16:=by unfold TI;kernel_rfl
theorem cZ:cM Tryz.prog 27=some false:=by kernel_rfl
theorem jk:eV Tryz.prog 27=some 1:=by kernel_rfl
theorem jW:TI Tryz.prog 27 (.slice none 0 0) 1 24:=by unfold TI;kernel_rfl
theorem Ez:cM Tryz.prog 33=some false:=by kernel_rfl
theorem GP:eV Tryz.prog 33=some 1:=by kernel_rfl
theorem G0:TI Tryz.prog 33 (.slice none 0 0) 1 24:=by unfold TI;kernel_rfl
theorem rR:cM Tryz.prog 35=some false:=by kernel_rfl
theorem s4:cM Tryz.prog 36=some false:=by kernel_rfl
theorem E1:eV Tryz.prog 36=some 1:=by kernel_rfl
theorem Gl:cM Tryz.prog 37=some false:=by kernel_rfl
theorem E9:eV Tryz.prog 37=some 1:=by kernel_rfl
theorem cF:cM Tryz.prog 39=some true:=by kernel_rfl
theorem bX:eV Tryz.prog 39=some 5:=by kernel_rfl
theorem tp:TI Tryz.prog 39 (.agg (([.int .i64 0])++([.slice none 0 0])++([.slice none 0 0])++([.slice none 0 0])++([.int .i64 0]):List Value).toArray) 5 88:=by unfold TI;kernel_rfl
theorem xo:eU Tryz.prog 39 0=some (0,1,3):=by kernel_rfl
theorem jj:eU Tryz.prog 39 1=some (1,1,36):=by kernel_rfl
theorem Dl:eU Tryz.prog 39 2=some (2,1,36):=by kernel_rfl
theorem ur:eU Tryz.prog 39 3=some (3,1,37):=by kernel_rfl
theorem je:eU Tryz.prog 39 4=some (4,1,3):=by kernel_rfl
theorem C7:TI Tryz.prog 44 (.slice none 0 0) 1 24:=by unfold TI;kernel_rfl
theorem kC:cM Tryz.prog 47=some false:=by kernel_rfl
theorem wg:eV Tryz.prog 47=some 1:=by kernel_rfl
theorem GB:TI Tryz.prog 47 (.int .i64 0) 1 8:=by unfold TI;kernel_rfl
theorem cr:cM Tryz.prog 53=some true:=by kernel_rfl
theorem bZ:eV Tryz.prog 53=some 32:=by kernel_rfl
theorem fY:TI Tryz.prog 53 (.agg (aP (List.replicate 32 0):List Value).toArray) 32 32:=by unfold TI;kernel_rfl
theorem vn{l:List UInt8}(h:l.length=32):Tryz.prog.keyLits 2 53 (aP l)=some (l.map fun b=>Lit.int .u8 (b.toNat:Int)):=eN (D:=0) Tryz.underlying53 Tryz.underlying5 (by kernel_rfl) (by kernel_rfl) h
theorem vF{N:Nat}{D:List Deferred}{ρ:Env}{w:World}{ty t' :TypeId}{x y:Operand}{l m:List UInt8}(hx:ev ρ x=some (.agg (aP l).toArray))(hy:ev ρ y=some (.agg (aP m).toArray))(hl:l.length=32)(hm:m.length=32):Yl Tryz.prog N D ρ w (.binOp .eql 53 x y t') ty (.bool (decide (l=m))):=
 Cn (m:=5) hx hy (by decide) (by kernel_rfl) (by kernel_rfl) cr (by rw[az,hl];kernel_rfl) (by rw[az,hm];kernel_rfl) (vn hl) (vn hm) gY
theorem rS{N:Nat}{D:List Deferred}{ρ:Env}{w:World}{ty t' :TypeId}{x y:Operand}{l m:List UInt8}(hx:ev ρ x=some (.agg (aP l).toArray))(hy:ev ρ y=some (.agg (aP m).toArray))(hl:l.length=32)(hm:m.length=32):Yl Tryz.prog N D ρ w (.binOp .neq 53 x y t') ty (.bool (decide (¬l=m))):=
 EC (m:=5) hx hy (by decide) (by kernel_rfl) (by kernel_rfl) cr (by rw[az,hl];kernel_rfl) (by rw[az,hm];kernel_rfl) (vn hl) (vn hm) gY
theorem jv:cM Tryz.prog 75=some true:=by kernel_rfl
theorem iy:eV Tryz.prog 75=some 3:=by kernel_rfl
theorem uD:TI Tryz.prog 75 (.agg (([.int .i64 0])++([.int .i64 0])++([.int .i64 0]):List Value).toArray) 3 24:=by unfold TI;kernel_rfl
theorem gR:eU Tryz.prog 75 0=some (0,1,3):=by kernel_rfl
theorem jO:eU Tryz.prog 75 1=some (1,1,3):=by kernel_rfl
theorem ju:eU Tryz.prog 75 2=some (2,1,3):=by kernel_rfl
theorem tD:cM Tryz.prog 80=some false:=by kernel_rfl
theorem E2:eV Tryz.prog 80=some 1:=by kernel_rfl
theorem GF:TI Tryz.prog 80 (.slice none 0 0) 1 24:=by unfold TI;kernel_rfl
theorem G1:cM Tryz.prog 82=some true:=by kernel_rfl
theorem EV:eV Tryz.prog 82=some 36:=by kernel_rfl
theorem Fj:TI Tryz.prog 82 (.agg ((([.int .i64 0])++([.int .i64 0])++([.int .i64 0]))++(aP (List.replicate 32 0))++([.slice none 0 0]):List Value).toArray) 36 80:=by unfold TI;kernel_rfl
theorem De:lp Tryz.prog 82 0=some (0,3):=by kernel_rfl
theorem DG:lp Tryz.prog 82 1=some (3,32):=by kernel_rfl
theorem Di:lp Tryz.prog 82 2=some (35,1):=by kernel_rfl
theorem D0:cM Tryz.prog 83=some false:=by kernel_rfl
theorem BN:cM Tryz.prog 84=some false:=by kernel_rfl
theorem EW:eV Tryz.prog 84=some 1:=by kernel_rfl
theorem GH:TI Tryz.prog 86 (.agg (([.pointer none])++(([.int .i64 0])++([.slice none 0 0])++([.slice none 0 0])++([.slice none 0 0])++([.int .i64 0]))++((([.int .i64 0])++([.int .i64 0])++([.int .i64 0]))++(aP (List.replicate 32 0))++([.slice none 0 0]))++([.pointer none])++([.slice none 0 0])++([.slice none 0 0]):List Value).toArray) 45 232:=by unfold TI;kernel_rfl
theorem uL:eU Tryz.prog 86 0=some (0,1,35):=by kernel_rfl
theorem Dt:lp Tryz.prog 86 0=some (0,1):=by kernel_rfl
theorem zz:eU Tryz.prog 86 1=some (1,5,39):=by kernel_rfl
theorem CT:lp Tryz.prog 86 1=some (1,5):=by kernel_rfl
theorem CR:lp Tryz.prog 86 2=some (6,36):=by kernel_rfl
theorem xV:eU Tryz.prog 86 3=some (42,1,83):=by kernel_rfl
theorem D6:lp Tryz.prog 86 3=some (42,1):=by kernel_rfl
theorem uI:eU Tryz.prog 86 4=some (43,1,84):=by kernel_rfl
theorem CA:lp Tryz.prog 86 5=some (44,1):=by kernel_rfl
theorem GV:cM Tryz.prog 88=some true:=by kernel_rfl
theorem Fw:eV Tryz.prog 88=some 36:=by kernel_rfl
theorem CW:TI Tryz.prog 88 (.agg ((([.int .i64 0])++([.int .i64 0])++([.int .i64 0]))++(aP (List.replicate 32 0))++([.slice none 0 0]):List Value).toArray) 36 80:=by unfold TI;kernel_rfl
theorem xA:lp Tryz.prog 88 0=some (0,3):=by kernel_rfl
theorem ln:eU Tryz.prog 88 2=some (35,1,80):=by kernel_rfl
theorem DC:lp Tryz.prog 88 2=some (35,1):=by kernel_rfl
theorem u0:cM Tryz.prog 100=some true:=by kernel_rfl
theorem jJ:eV Tryz.prog 100=some 33:=by kernel_rfl
theorem iU:TI Tryz.prog 100 (.agg ((aP (List.replicate 32 0))++([.int .i64 0]):List Value).toArray) 33 40:=by unfold TI;kernel_rfl
theorem fJ:eU Tryz.prog 100 0=some (0,32,53):=by kernel_rfl
theorem nZ:lp Tryz.prog 100 0=some (0,32):=by kernel_rfl
theorem qN:eU Tryz.prog 100 1=some (32,1,3):=by kernel_rfl
theorem oo:lp Tryz.prog 100 1=some (32,1):=by kernel_rfl
theorem vD:cM Tryz.prog 101=some true:=by kernel_rfl
theorem kS:eV Tryz.prog 101=some 33:=by kernel_rfl
theorem tg:TI Tryz.prog 101 (.agg ((aP (List.replicate 32 0))++([.int .i64 0]):List Value).toArray) 33 40:=by unfold TI;kernel_rfl
theorem vt:eU Tryz.prog 101 0=some (0,32,53):=by kernel_rfl
theorem z7:lp Tryz.prog 101 0=some (0,32):=by kernel_rfl
theorem qS:eU Tryz.prog 101 1=some (32,1,3):=by kernel_rfl
theorem BA:lp Tryz.prog 101 1=some (32,1):=by kernel_rfl
theorem qa:cM Tryz.prog 156=some true:=by kernel_rfl
theorem eH:eV Tryz.prog 156=some 2:=by kernel_rfl
theorem hZ:TI Tryz.prog 156 (.agg (([.string ⟨#[]⟩])++([.string ⟨#[]⟩]):List Value).toArray) 2 32:=by unfold TI;kernel_rfl
theorem eK:eU Tryz.prog 156 0=some (0,1,9):=by kernel_rfl
theorem nY:eU Tryz.prog 156 1=some (1,1,9):=by kernel_rfl
theorem bG:cM Tryz.prog 166=some false:=by kernel_rfl
theorem br:eV Tryz.prog 166=some 1:=by kernel_rfl
theorem kJ:TI Tryz.prog 166 (.int .u32 0) 1 4:=by unfold TI;kernel_rfl
theorem oL:cM Tryz.prog 174=some false:=by kernel_rfl
theorem EZ:eV Tryz.prog 174=some 1:=by kernel_rfl
theorem Cp:cM Tryz.prog 175=some false:=by kernel_rfl
theorem xL:eV Tryz.prog 175=some 1:=by kernel_rfl
theorem FR:TI Tryz.prog 177 (.agg (([.int .i64 0])++([.map none])++([.map none])++([.slice none 0 0])++([.int .i64 0]):List Value).toArray) 5 56:=by unfold TI;kernel_rfl
theorem B0:eU Tryz.prog 177 0=some (0,1,3):=by kernel_rfl
theorem jn:eU Tryz.prog 177 1=some (1,1,174):=by kernel_rfl
theorem Bh:eU Tryz.prog 177 2=some (2,1,174):=by kernel_rfl
theorem me:eU Tryz.prog 177 3=some (3,1,175):=by kernel_rfl
theorem od:eU Tryz.prog 177 4=some (4,1,3):=by kernel_rfl
theorem Cx:cM Tryz.prog 186=some true:=by kernel_rfl
theorem Cv:eV Tryz.prog 186=some 4:=by kernel_rfl
theorem qp:TI Tryz.prog 186 (.agg (([.int .i64 0])++([.string ⟨#[]⟩])++([.string ⟨#[]⟩])++([.string ⟨#[]⟩]):List Value).toArray) 4 56:=by unfold TI;kernel_rfl
theorem vr:eU Tryz.prog 186 0=some (0,1,3):=by kernel_rfl
theorem og:eU Tryz.prog 186 1=some (1,1,9):=by kernel_rfl
theorem Bg:eU Tryz.prog 186 2=some (2,1,9):=by kernel_rfl
theorem BO:eU Tryz.prog 186 3=some (3,1,9):=by kernel_rfl
theorem Fb:TI Tryz.prog 189 (.agg (([.string ⟨#[]⟩])++([.slice none 0 0]):List Value).toArray) 2 40:=by unfold TI;kernel_rfl
theorem Bc:eU Tryz.prog 189 0=some (0,1,9):=by kernel_rfl
theorem Aj:eU Tryz.prog 189 1=some (1,1,27):=by kernel_rfl
theorem vB:TI Tryz.prog 232 (.nilIface) 1 16:=by unfold TI;kernel_rfl
theorem EO:TI Tryz.prog 257 (.agg (([.string ⟨#[]⟩])++([.string ⟨#[]⟩]):List Value).toArray) 2 32:=by unfold TI;kernel_rfl
theorem rL:eU Tryz.prog 257 0=some (0,1,9):=by kernel_rfl
theorem B1:eU Tryz.prog 257 1=some (1,1,9):=by kernel_rfl
theorem vz:cM Tryz.prog 265=some false:=by kernel_rfl
theorem Gb:TI Tryz.prog 267 (.agg ((([.int .i64 0])++([.int .i64 0])++([.int .i64 0]))++([.slice none 0 0])++([.map none]):List Value).toArray) 5 56:=by unfold TI;kernel_rfl
theorem AX:eU Tryz.prog 267 0=some (0,3,75):=by kernel_rfl
theorem qK:eU Tryz.prog 267 1=some (3,1,84):=by kernel_rfl
theorem n4:eU Tryz.prog 267 2=some (4,1,265):=by kernel_rfl
theorem zL:cM Tryz.prog 271=some true:=by kernel_rfl
theorem sR:eV Tryz.prog 271=some 3:=by kernel_rfl
theorem lx:TI Tryz.prog 271 (.agg (([.int .i64 0])++([.int .i64 0])++([.int .i64 0]):List Value).toArray) 3 24:=by unfold TI;kernel_rfl
theorem Cs:eV Tryz.prog 288=some 1:=by kernel_rfl
theorem uZ:TI Tryz.prog 288 (.agg (([.int .i64 0]):List Value).toArray) 1 8:=by unfold TI;kernel_rfl
theorem AS:eU Tryz.prog 288 0=some (0,1,47):=by kernel_rfl
theorem qt:cM Tryz.prog 295=some true:=by kernel_rfl
theorem iL:eV Tryz.prog 295=some 3:=by kernel_rfl
theorem nf:TI Tryz.prog 295 (.agg (([.slice none 0 0])++([.int .i64 0])++([.int .i64 0]):List Value).toArray) 3 40:=by unfold TI;kernel_rfl
theorem BM:eU Tryz.prog 295 0=some (0,1,27):=by kernel_rfl
theorem Af:eU Tryz.prog 295 2=some (2,1,47):=by kernel_rfl
theorem vy:cM Tryz.prog 298=some true:=by kernel_rfl
theorem kN:eV Tryz.prog 298=some 2:=by kernel_rfl
theorem qy:TI Tryz.prog 298 (.agg (([.int .i64 0])++([.int .i64 0]):List Value).toArray) 2 16:=by unfold TI;kernel_rfl
theorem kB:eU Tryz.prog 298 0=some (0,1,3):=by kernel_rfl
theorem uT:eU Tryz.prog 298 1=some (1,1,3):=by kernel_rfl
theorem pQ:cM Tryz.prog 306=some true:=by kernel_rfl
theorem kQ:eV Tryz.prog 306=some 8:=by kernel_rfl
theorem u5:TI Tryz.prog 306 (.agg ((List.replicate 8 ([.int .u32 0])).flatten:List Value).toArray) 8 32:=by unfold TI;kernel_rfl
theorem Cm:TI Tryz.prog 308 (.agg (((List.replicate 8 ([.int .u32 0])).flatten)++([.int .i64 0])++([.slice none 0 0]):List Value).toArray) 10 64:=by unfold TI;kernel_rfl
theorem ou:eU Tryz.prog 308 0=some (0,8,306):=by kernel_rfl
theorem lu:eU Tryz.prog 308 1=some (8,1,3):=by kernel_rfl
theorem ja:eU Tryz.prog 308 2=some (9,1,27):=by kernel_rfl
theorem nt:cM Tryz.prog 322=some false:=by kernel_rfl
theorem B7:cM Tryz.prog 354=some true:=by kernel_rfl
theorem uX:eV Tryz.prog 354=some 64:=by kernel_rfl
theorem y0:TI Tryz.prog 354 (.agg ((List.replicate 64 ([.int .u32 0])).flatten:List Value).toArray) 64 256:=by unfold TI;kernel_rfl
theorem zn:cM Tryz.prog 357=some false:=by kernel_rfl
theorem F1:TI Tryz.prog 359 (.agg (([.slice none 0 0])++([.map none])++([.int .i64 0]):List Value).toArray) 3 40:=by unfold TI;kernel_rfl
theorem jh:eU Tryz.prog 359 0=some (0,1,27):=by kernel_rfl
theorem rE:eU Tryz.prog 359 1=some (1,1,357):=by kernel_rfl
theorem gk:eU Tryz.prog 359 2=some (2,1,3):=by kernel_rfl
theorem vx:cM Tryz.prog 364=some true:=by kernel_rfl
theorem sH:eV Tryz.prog 364=some 4:=by kernel_rfl
theorem Fl:TI Tryz.prog 364 (.agg (aP (List.replicate 4 0):List Value).toArray) 4 4:=by unfold TI;kernel_rfl
theorem Cb:cM Tryz.prog 386=some false:=by kernel_rfl
theorem Fg:TI Tryz.prog 389 (.agg ((([.int .i64 0])++([.int .i64 0])++([.int .i64 0]))++([.int .u32 0])++([.pointer none])++([.slice none 0 0]):List Value).toArray) 6 64:=by unfold TI;kernel_rfl
theorem lX:eU Tryz.prog 389 0=some (0,3,75):=by kernel_rfl
theorem By:eU Tryz.prog 389 1=some (3,1,166):=by kernel_rfl
theorem uS:eU Tryz.prog 389 2=some (4,1,386):=by kernel_rfl
theorem lM:eU Tryz.prog 389 3=some (5,1,27):=by kernel_rfl
end Go.Proofs.YtmibdabdlgmafaaGreatDoor
end
section
namespace Go.Hx
open Go.Eng
def l4(x:Nat):Nat:=if x % 2=1 then(x/2) ^^^ 2197175160 else x/2
theorem xp{x:Nat}(h:x<4294967296):l4 x<4294967296:=by
 unfold l4
 split
 ·exact Nat.xor_lt_two_pow (n:=32) (by omega) (by decide)
 ·omega
def fv:Nat→Nat→Nat
 |0,x=>x
 |n+1,x=>l4 (fv n x)
theorem kg{x:Nat}(h:x<4294967296):∀n,fv n x<4294967296
 |0=>h
 |n+1=>xp (kg h n)
def jE(n:Nat)(l:List UInt8):Nat:=l.foldl (fun n b=>fv 8 (n ^^^ b.toNat)) n
theorem lz{n:Nat}(h:n<4294967296):∀l:List UInt8,jE n l<4294967296:=by
 intro l
 induction l generalizing n with
 |nil=>exact h
 |cons a r ih=>exact ih (kg (Nat.xor_lt_two_pow (n:=32) h (by have:=a.toNat_lt;omega)) 8)
theorem oJ(n:Nat)(l:List UInt8)(b:UInt8):jE n (l++[b])=fv 8 (jE n l ^^^ b.toNat):=by simp[jE]
theorem sA{m:Nat}(h:m<4294967296):4294967295 ^^^ m=4294967295-m:=by
 have h1:(BitVec.allOnes 32 ^^^ BitVec.ofNat 32 m)= ~~~ BitVec.ofNat 32 m:=BitVec.allOnes_xor
 have h2:=congrArg BitVec.toNat h1
 rw[BitVec.toNat_xor,BitVec.toNat_not,BitVec.toNat_allOnes,BitVec.toNat_ofNat,Nat.mod_eq_of_lt h]at h2
 exact h2
def cX(l:List UInt8):Nat:=4294967295-jE 4294967295 l
theorem iP(l:List UInt8):cX l<4294967296:=by unfold cX;omega
def iW(n:Nat):List UInt8:=[UInt8.ofNat n,UInt8.ofNat (n/256),UInt8.ofNat (n/65536),UInt8.ofNat (n/16777216)]
def rr:Nat→Nat→Nat
 |0,n=>n
 |k+1,n=>rr k n/256
def D9(k n:Nat):List UInt8:=(List.range k).map fun i=>UInt8.ofNat (rr i n)
theorem xG(k n:Nat):D9 (k+1) n=D9 k n++[UInt8.ofNat (rr k n)]:=by simp[D9,List.range_succ]
theorem zA(n:Nat):D9 4 n=iW n:=by
 simp only[D9,List.range_succ,List.range_zero,List.nil_append,List.cons_append,List.map_cons,List.map_nil,rr,iW,Nat.div_div_eq_div_mul]
theorem wa{n b:Nat}(h:n<b):∀k,rr k n<b
 |0=>h
 |k+1=>by have:=wa h k;simp only[rr];omega
theorem gT(n:Nat):(iW n).length=4:=rfl
def yf(l:List UInt8):List UInt8:=l++iW (cX l)
theorem wC(x:Nat)(h:x<4294967296):(x/2) ^^^ (2197175160*(x % 2))=l4 x:=by
 unfold l4
 split
 ·rename_i h1;rw[h1]
 ·rename_i h1
  have:x % 2=0:=by omega
  rw[this];simp
theorem gi(n:Nat):IntKind.u8.wrap (n:Int)=((UInt8.ofNat n).toNat:Int):=by
 simp[IntKind.wrap,IntKind.signed,IntKind.bits]
theorem Gr(x:Nat)(h:x<4294967296):bits .and .u32 (x:Int) 1=((x % 2:Nat):Int):=by
 have:=u32_and_nat x 1 h (by decide)
 rw[Nat.and_one_is_mod]at this
 exact this
theorem za(x:Nat)(h:x<4294967296):bits .xor .u32 ((x:Int)/2) (2197175160*((x % 2:Nat):Int))=((l4 x:Nat):Int):=by
 have h2:x % 2=0∨x % 2=1:=by omega
 have h3:2197175160*(x % 2)<4294967296:=by rcases h2 with h2|h2 <;> rw[h2] <;> decide
 have:=u32_xor_nat (x/2) (2197175160*(x % 2)) (by omega) h3
 rw[wC x h]at this
 rw[←this]
 congr 1
theorem sC(x:Nat)(h:x<4294967296)(b:UInt8):bits .xor .u32 (x:Int) (b.toNat:Int)=((x ^^^ b.toNat:Nat):Int):=u32_xor_nat x b.toNat h (by have:=b.toNat_lt;omega)
theorem xN(x:Nat)(h:x<4294967296):bits .xor .u32 ((x:Int)/2) 2197175160=(((x/2) ^^^ 2197175160:Nat):Int):=u32_xor_nat (x/2) 2197175160 (by omega) (by decide)
theorem nQ{x:Nat}(h:x<4294967296)(b:UInt8):x ^^^ b.toNat<4294967296:=Nat.xor_lt_two_pow (n:=32) h (by have:=b.toNat_lt;omega)
end Go.Hx
end
section
namespace Go.Hx
open Go.Eng
def pF:List UInt8:=[48,49,50,51,52,53,54,55,56,57,97,98,99,100,101,102]
def ub(b:UInt8):List UInt8:=[pF.getD (b.toNat/16) 0,pF.getD (b.toNat % 16) 0]
def ct(l:List UInt8):List UInt8:=l.flatMap ub
theorem dR(l:List UInt8):(ct l).length=2*l.length:=by
 induction l with
 |nil=>rfl
 |cons a r ih=>simp only[ct,List.flatMap_cons,List.length_append,List.length_cons]at ih ⊢;rw[ih];simp[ub];omega
theorem s8(l m:List UInt8):ct (l++m)=ct l++ct m:=by simp[ct]
theorem ey{l:List UInt8}{k:Nat}(h:k<l.length):l.take (k+1)=l.take k++[l.getD k 0]:=by
 rw[List.take_succ_eq_append_getElem h];simp[List.getD,List.getElem?_eq_getElem h]
theorem p6{l:List UInt8}{k:Nat}(h:k<l.length):ct (l.take (k+1))=ct (l.take k)++ub (l.getD k 0):=by
 rw[ey h,s8];simp[ct]
theorem se(j:Nat)(h:j<16):((bytesOf ⟨#[48,49,50,51,52,53,54,55,56,57,97,98,99,100,101,102]⟩).take (j+1)).drop j=[pF.getD j 0]:=by
 revert j;decide
theorem w6{l:List UInt8}{k:Nat}(h:k<l.length):strOf (ct (l.take k))++strOf (((bytesOf ⟨#[48,49,50,51,52,53,54,55,56,57,97,98,99,100,101,102]⟩).take ((l.getD k 0).toNat/16+1)).drop ((l.getD k 0).toNat/16))++
  strOf (((bytesOf ⟨#[48,49,50,51,52,53,54,55,56,57,97,98,99,100,101,102]⟩).take ((l.getD k 0).toNat % 16+1)).drop ((l.getD k 0).toNat % 16))=strOf (ct (l.take (k+1))):=by
 have hb:=(l.getD k 0).toNat_lt
 rw[se _ (by omega),se _ (by omega),cV,cV,p6 h]
 simp[ub]
theorem u7(i:Int)(h0:0≤i)(h:i<16):(#[48,49,50,51,52,53,54,55,56,57,97,98,99,100,101,102]:Array UInt8)[i.toNat]? =some (pF.getD i.toNat 0):=by
 have:i.toNat<16:=by omega
 generalize i.toNat=j at this
 revert j
 decide
theorem AK(x:UInt8):(#[48,49,50,51,52,53,54,55,56,57,97,98,99,100,101,102]:Array UInt8)[((x.toNat:Int)/16).toNat]? =some (pF.getD (x.toNat/16) 0):=by
 have h:=x.toNat_lt
 rw[u7 _ (by omega) (by omega)]
 rfl
theorem AP(x:UInt8):(#[48,49,50,51,52,53,54,55,56,57,97,98,99,100,101,102]:Array UInt8)[((x.toNat % 16:Nat):Int).toNat]? =some (pF.getD (x.toNat % 16) 0):=by
 rw[u7 _ (by omega) (by omega)]
 rfl
theorem E0(x:UInt8):bits .and .u8 (x.toNat:Int) 15=((x.toNat % 16:Nat):Int):=by
 have:=u8_and_nat x.toNat 15 (by have:=x.toNat_lt;omega) (by decide)
 rw[show((15:Nat):Int)=15 from rfl]at this
 rw[this]
 congr 1
 exact Nat.and_two_pow_sub_one_eq_mod x.toNat 4
end Go.Hx
end
section
namespace Go.Hx
open Go.Eng
def CV(c:UInt8):Int:=if 48≤c.toNat∧c.toNat≤57 then(c.toNat:Int)-48 else if 97≤c.toNat∧c.toNat≤102 then(c.toNat:Int)-87 else-1
def unhex:List UInt8→Option (List UInt8)
 | []=>some []
 | [_]=>none
 |a::b::r=>if CV a<0∨CV b<0 then none else(unhex r).map (UInt8.ofNat (16*(CV a).toNat+(CV b).toNat)::·)
theorem sh(k:Nat)(h:k<16):CV (pF.getD k 0)=k:=by
 revert k;decide
theorem kV:∀(l:List UInt8),unhex (ct l)=some l
 | []=>rfl
 |a::r=>by
  have ih:=kV r
  have ha:=a.toNat_lt
  have h1:=sh (a.toNat/16) (by omega)
  have h2:=sh (a.toNat % 16) (by omega)
  have e:ct (a::r)=pF.getD (a.toNat/16) 0::pF.getD (a.toNat % 16) 0::ct r:=by simp[ct,ub]
  rw[e,unhex,h1,h2,if_neg (by omega),ih]
  simp only[Option.map_some,Int.toNat_natCast]
  congr 2
  have e2:16*(a.toNat/16)+a.toNat % 16=a.toNat:=by omega
  rw[e2]
  simp
theorem yo{l m:List UInt8}(h:ct l=ct m):l=m:=by
 have:=kV l
 rw[h,kV m]at this
 simpa using this.symm
end Go.Hx
end
section
set_option maxRecDepth 20000
namespace Go.Proofs.YtmibdabdlgmafaaGreatDoor
open Go.Eng Go.Hx
theorem Bb(g:Nat)(bt:TypeId)(x:Nat)(hx:x<4294967296)(w:World)(hb:eS w g bt [.int .u32 (x:Int)]):
  Calls Tryz.prog 298 #[.pointer (some ⟨g,0,none⟩)] w fun e w' =>e= .returned (.tuple #[])∧Fr (fun i=>i=g) w w' ∧eS w' g bt [.int .u32 (l4 x:Nat)]:=by
 have hc:w.cell? ⟨g,0,none⟩=some (.int .u32 (x:Int)):=hb.cell rfl
 have h3:(0:Int)≤2197175160*((x % 2:Nat):Int)∧2197175160*((x % 2:Nat):Int)<4294967296:=by omega
 refine enter (N:=9) Tryz.func298 rfl rfl (by simp) ?_
 refine bq<|bE<|nq (aq rfl bG hc)<|nq (fU (by simp) rfl rfl (Gr x hx))<|nq (ab rfl)<|bF<|cb (ag (t:=1) rfl<|ag (t:=0) rfl<|aJ)<|aY<|bE<|nq (aq rfl bG hc)<|nq (lQ (p:=2) rfl rfl (by decide) (by decide) (by decide))<|nq (aa rfl)<|nq (fg rfl rfl (vU h3.1 h3.2))<|nq (fU (by simp) rfl rfl (za x hx))<| ?_
 refine He (x7 rfl rfl br rfl hb (by simp) fun w1 hf1 hb1 hs1=> ?_)
 refine bF<|cb (ag (t:=1) rfl<|ag (t:=0) rfl<|aJ)<| ?_
 exact Fz trivial rfl ⟨rfl,hf1,hb1⟩
theorem yM(x n:Nat)(hx:x<4294967296)(hn:n≤1000000)(w:World):
  Calls Tryz.prog 273 #[.int .u32 (x:Int),.int .i64 (n:Int)] w fun e w' =>e= .returned (.int .u32 (fv n x:Nat))∧Fr No w w' :=by
 refine enter (N:=14) Tryz.func273 rfl rfl (by simp) ?_
 refine bq<|bE<| ?_
 refine nx (s7 rfl fun g w1 hg hf1 hb1=> ?_)
 refine nq (ab rfl)<|bF<|aY<|bq<|bE<|nq (ff rfl rfl)<|nq (ab rfl)<|bF<|cb (ag (t:=5) rfl<|ag (t:=4) rfl<|ag (t:=2) rfl<|ag (t:=0) rfl<|ag (t:=1) rfl<|aJ)<|aY<|bq<|bq<|bE<|nq (aa rfl)<|nq (aa rfl)<|bF<|aY<|dz<| ?_
 refine mO (fun k=>n-k) (fun k=>[(2,.pointer (some ⟨g,0,none⟩)),(5,.func (.func 298) #[] #[.pointer (some ⟨g,0,none⟩)]),(7,.int .i64 (n:Int)),(8,.int .i64 (k:Nat))]) (fun k w' =>k≤n∧Fr No w w' ∧eS w' g 166 [.int .u32 (fv k x:Nat)]) 0 (⟨Nat.zero_le _,hf1,hb1⟩) (ag (t:=2) rfl<|ag (t:=5) rfl<|ag (t:=7) rfl<|ag (t:=8) rfl<|aJ) (fun k w2 ⟨hk,hf2,hb2⟩=> ?_)
 refine bq<|bE<|nq (bC rfl rfl)<|bF<|aY<|bq<| ?_
 refine vY rfl (fun h=> ?_) (fun h=> ?_)
 ·refine gF<|aY<|bq<|dz<|bE<|nq (aa rfl)<| ?_
  refine nx (vN rfl rfl Tryz.call298 (first:=[]) (cap:=[_]) (Bb g _ _ (kg hx k) _ hb2) ?_)
  rintro e_ w3 ⟨rfl,hf3,hb3⟩
  refine⟨_,rfl, ?_⟩
  refine bF<|cb (ag (t:=9) rfl<|ag (t:=2) rfl<|ag (t:=5) rfl<|ag (t:=7) rfl<|ag (t:=8) rfl<|aJ)<|gJ<|aY<|bE<|nq (aL rfl rfl (bx (by omega) (by omega)))<|nq (aa rfl)<|bF<|cb (ag (t:=8) rfl<|ag (t:=9) rfl<|ag (t:=2) rfl<|ag (t:=5) rfl<|ag (t:=7) rfl<|aJ)<| ?_
  refine mi (k+1) (ag (t:=2) rfl<|ag (t:=5) rfl<|ag (t:=7) rfl<|ag (t:=8) rfl<|aJ) (⟨by omega,hf2.new hf3 (fun i hi=>by omega),hb3⟩) (by omega)
 ·obtain rfl:k=n:=by omega
  refine kO<|cd<|cd<|dh<|aY<|bq<|bE<|nq (aq rfl bG ((hb2.cell rfl)))<|nq (ab rfl)<|bF<|cb (ag (t:=4) rfl<|ag (t:=9) rfl<|ag (t:=2) rfl<|ag (t:=5) rfl<|ag (t:=7) rfl<|ag (t:=8) rfl<|aJ)<|aY<|gW<| ?_
  exact gV trivial rfl rfl ⟨rfl,hf2⟩
theorem Br(A:Option Addr)(n c:Nat)(l:List UInt8)(s:Nat)(hs:s<4294967296)(w:World)(hr:Rd w 1 A n (aP l))(hn:n≤140737488351232):
  Calls Tryz.prog 232 #[.int .u32 (s:Int),.slice A n c] w fun e w' =>e= .returned (.int .u32 (4294967295-jE (4294967295-s) l:Nat))∧Fr No w w' :=by
 have hl:l.length=n:=by have:=hr.1;rw[az]at this;omega
 refine enter (N:=25) Tryz.func232 rfl rfl (by simp) ?_
 refine bq<|bE<|nq (ab rfl)<|bF<|aY<|bq<|bE<|nq (aa rfl)<|nq (yV (qL rfl hs) (congrArg (fun n:Nat=>Value.int .u32 (n:Int)) (sA hs)))<|nq (ab rfl)<|bF<|cb (ag (t:=5) rfl<|ag (t:=4) rfl<|ag (t:=0) rfl<|ag (t:=1) rfl<|aJ)<|aY<|bq<|bq<|bE<|nq (aa rfl)<|nq (aT rfl Tryz.underlying27)<|nq (aa rfl)<|bF<|cb (ag (t:=11) rfl<|ag (t:=10) rfl<|ag (t:=5) rfl<|ag (t:=4) rfl<|ag (t:=0) rfl<|ag (t:=1) rfl<|aJ)<|aY<|dz<| ?_
 refine mO (fun k=>n-k) (fun k=>[(1,.slice A n c),(5,.int .u32 (jE (4294967295-s) (l.take k):Nat)),(10,.int .i64 (n:Int)),(11,.int .i64 (k:Nat))]) (fun k w' =>k≤n∧Fr No w w') 0 (⟨Nat.zero_le _,Fr.refl _ _⟩) (ag (t:=1) rfl<|ag (t:=5) rfl<|ag (t:=10) rfl<|ag (t:=11) rfl<|aJ) (fun k w2 ⟨hk,hf2⟩=> ?_)
 refine bq<|bE<|nq (bC rfl rfl)<|bF<|aY<|bq<| ?_
 refine vY rfl (fun h=> ?_) (fun h=> ?_)
 ·have hkn:k<l.length:=by omega
  have hm:=lz (n:=4294967295-s) (by omega) (l.take k)
  have hbt:=(l.getD k 0).toNat_lt
  have r2:=hr.um hf2
  refine gF<|aY<|bq<|dz<|bq<|bE<|nq (aa rfl)<|nq (ab rfl)<|bF<|cb (ag (t:=6) rfl<|ag (t:=12) rfl<|ag (t:=1) rfl<|ag (t:=5) rfl<|ag (t:=10) rfl<|ag (t:=11) rfl<|aJ)<|aY<|bE<|nq (aa rfl)<|nq (aa rfl)<|nq (aa rfl)<|nq (aN rfl rfl Tryz.underlying27 dB r2.2.1 rfl (by omega))<|nq (aq rfl iv (r2.cell (bB hkn)))<|nq (bS rfl Tryz.underlying5 Tryz.underlying166 ((vU (by omega) (by omega))))<|nq (fU (by simp) rfl rfl (sC _ hm _))<| ?_
  refine nx (jl rfl Tryz.call273 (yM _ 8 (nQ hm _) (by decide) _) ?_)
  rintro e_ w3 ⟨rfl,hf3⟩
  refine⟨_,rfl, ?_⟩
  rw[←oJ,←Go.Hx.ey hkn]
  refine nq (ab rfl)<|bF<|cb (ag (t:=5) rfl<|ag (t:=6) rfl<|ag (t:=12) rfl<|ag (t:=1) rfl<|ag (t:=10) rfl<|ag (t:=11) rfl<|aJ)<|gJ<|aY<|bE<|nq (aL rfl rfl (bx (by omega) (by omega)))<|nq (aa rfl)<|bF<|cb (ag (t:=11) rfl<|ag (t:=5) rfl<|ag (t:=6) rfl<|ag (t:=12) rfl<|ag (t:=1) rfl<|ag (t:=10) rfl<|aJ)<| ?_
  refine mi (k+1) (ag (t:=1) rfl<|ag (t:=5) rfl<|ag (t:=10) rfl<|ag (t:=11) rfl<|aJ) (⟨by omega,hf2.dM hf3⟩) (by omega)
 ·obtain rfl:k=n:=by omega
  have hm:=lz (n:=4294967295-s) (by omega) (l.take k)
  refine kO<|cd<|cd<|dh<|aY<|bq<|bE<|nq (aa rfl)<|nq (qL rfl hm)<|nq (ab rfl)<|bF<|cb (ag (t:=4) rfl<|ag (t:=12) rfl<|ag (t:=1) rfl<|ag (t:=5) rfl<|ag (t:=10) rfl<|ag (t:=11) rfl<|aJ)<|aY<|gW<| ?_
  rw[List.take_of_length_le (by omega)]at hm ⊢
  rw[sA hm]
  exact gV trivial rfl rfl ⟨rfl,hf2⟩
theorem yZ(A:Option Addr)(n c:Nat)(l:List UInt8)(w:World)(hr:Rd w 1 A n (aP l))(hn:n≤140737488351232):
  Calls Tryz.prog 180 #[.slice A n c] w fun e w' =>e= .returned (.int .u32 (cX l:Nat))∧Fr No w w' :=by
 refine enter (N:=5) Tryz.func180 rfl rfl (by simp) ?_
 refine bq<|bE<|nq (ab rfl)<|bF<|aY<|bq<|bE<|nq (aa rfl)<| ?_
 refine nx (jl rfl Tryz.call232 (Br A n c l 0 (by decide) w hr hn) ?_)
 rintro e_ w1 ⟨rfl,hf1⟩
 refine⟨_,rfl, ?_⟩
 refine nq (ab rfl)<|bF<|cb (ag (t:=2) rfl<|ag (t:=0) rfl<|aJ)<|aY<|gW<| ?_
 exact gV trivial rfl rfl ⟨rfl,hf1⟩
theorem clone(A:Option Addr)(n c:Nat)(l:List UInt8)(w:World)(hr:Rd w 1 A n (aP l))(hn:n≤140737488351232):
  Calls Tryz.prog 117 #[.slice A n c] w fun e w' =>∃v,e= .returned v∧Go.Eng.Own w' w.heap.size 5 1 v n (aP l)∧Fr No w w' :=by
 have hl:l.length=n:=by have:=hr.1;rw[az]at this;omega
 refine enter (N:=8) Tryz.func117 rfl rfl (by simp) ?_
 refine bq<|bE<|nq (ab rfl)<|bF<|aY<|bq<|bq<|bE<|nq (aa rfl)<|nq (CC rfl rfl Tryz.underlying27)<|bF<|cb (ag (t:=4) rfl<|ag (t:=2) rfl<|ag (t:=0) rfl<|aJ)<|aY<| ?_
 cases A with
 |none=>
  have h0:n=0:=by
   rcases Nat.eq_zero_or_pos n with h|h
   ·exact h
   ·exact absurd rfl (hr.2.1 h)
  subst h0
  obtain rfl:l=[]:=List.eq_nil_of_length_eq_zero hl
  refine EJ rfl (rfl) ?_
  refine bq<|bE<|nq (ab rfl)<|bF<|aY<|gW<|kn<| ?_
  exact gV trivial rfl rfl ⟨_,rfl,Own.nil _ _ _ _,Fr.refl _ _⟩
 |some a=>
  refine wP rfl (rfl) ?_
  refine gF<|aY<|bq<|bE<| ?_
  refine nx (Em Tryz.underlying27 eA fun g w1 hg hf1 hb1=> ?_)
  refine nq (aa rfl)<| ?_
  refine nx (lN rfl rfl Tryz.underlying27 Tryz.underlying27 (by exact .inl rfl) eA rfl (Own.FD hb1 hg) (Src.bW (hr.um hf1)) ig (by unfold maxLen;omega) (by omega) hf1.size fun v w2 ho hf2 hv=> ?_)
  refine nq (ab rfl)<|bF<|cb (ag (t:=2) rfl<|ag (t:=4) rfl<|ag (t:=0) rfl<|aJ)<|aY<|gW<| ?_
  refine gV trivial rfl rfl ⟨v,rfl, ?_,hf1.new hf2 (fun i hi=>by have:i=g:=hi;omega)⟩
  simpa using ho
theorem xm(A:Option Addr)(n c:Nat)(l:List UInt8)(s:Nat)(hs:s<4294967296)(w:World)(hr:Rd w 1 A n (aP l))(hn:n≤140737488351232):
  Calls Tryz.prog 243 #[.int .u32 (s:Int),.slice A n c] w fun e w' =>e= .returned (.int .u32 (4294967295-jE (4294967295-s) l:Nat))∧w=w' :=by
 have hl:l.length=n:=by have:=hr.1;rw[az]at this;omega
 refine enter (N:=37) Tryz.func243 rfl rfl (by simp) ?_
 refine bq<|bE<|nq (ab rfl)<|bF<|aY<|bq<|bE<|nq (aa rfl)<|nq (ca rfl rfl ((show IntKind.u32.wrap (4294967295-(s:Int))=((4294967295-s:Nat):Int) by rw[vU (by omega) (by omega)];omega)))<|nq (ab rfl)<|bF<|cb (ag (t:=5) rfl<|ag (t:=4) rfl<|ag (t:=0) rfl<|ag (t:=1) rfl<|aJ)<|aY<|bq<|bq<|bE<|nq (ab rfl)<|bF<|aY<|dz<| ?_
 refine mO (fun k=>n-k) (fun k=>[(1,.slice A n c),(5,.int .u32 (jE (4294967295-s) (l.take k):Nat)),(6,.int .i64 (k:Nat))]) (fun k w' =>k≤n∧w=w') 0 (⟨Nat.zero_le _,rfl⟩) (ag (t:=1) rfl<|ag (t:=5) rfl<|ag (t:=6) rfl<|aJ) (fun k w2 ⟨hk,hw⟩=> ?_)
 obtain rfl:=hw
 refine bq<|bq<|bE<|nq (aa rfl)<|nq (aa rfl)<|nq (aT rfl Tryz.underlying27)<|nq (bC rfl rfl)<|bF<|cb (ag (t:=13) rfl<|ag (t:=1) rfl<|ag (t:=5) rfl<|ag (t:=6) rfl<|aJ)<|aY<| ?_
 refine vY rfl (fun h=> ?_) (fun h=> ?_)
 ·have hkn:k<l.length:=by omega
  have hm:=lz (n:=4294967295-s) (by omega) (l.take k)
  have hbt:=(l.getD k 0).toNat_lt
  have hx:=nQ hm (l.getD k 0)
  refine gF<|aY<|bq<|dz<|bq<|bE<|nq (aa rfl)<|nq (aa rfl)<|nq (aa rfl)<|nq (aN rfl rfl Tryz.underlying27 dB hr.2.1 rfl (by omega))<|nq (aq rfl iv (hr.cell (bB hkn)))<|nq (bS rfl Tryz.underlying5 Tryz.underlying166 ((vU (by omega) (by omega))))<|nq (fU (by simp) rfl rfl (sC _ hm _))<|nq (ab rfl)<|bF<|cb (ag (t:=5) rfl<|ag (t:=13) rfl<|ag (t:=1) rfl<|ag (t:=6) rfl<|aJ)<|aY<|bq<|bE<|nq (ab rfl)<|bF<|aY<|dz<| ?_
  generalize hX:jE (4294967295-s) (l.take k) ^^^ (l.getD k 0).toNat=X at hx
  refine mO (fun q=>8-q) (fun q=>[(1,.slice A n c),(5,.int .u32 (fv q X:Nat)),(6,.int .i64 (k:Nat)),(7,.int .i64 (q:Nat))]) (fun q w' =>q≤8∧w=w') 0 (⟨Nat.zero_le _,rfl⟩) (ag (t:=1) rfl<|ag (t:=5) rfl<|ag (t:=6) rfl<|ag (t:=7) rfl<|aJ) (fun q w3 ⟨hq,hw⟩=> ?_)
  obtain rfl:=hw
  have hc:=kg hx q
  refine bq<|bq<|bE<|nq (aa rfl)<|nq (bC rfl rfl)<|bF<|cb (ag (t:=24) rfl<|ag (t:=1) rfl<|ag (t:=5) rfl<|ag (t:=6) rfl<|ag (t:=7) rfl<|aJ)<|aY<| ?_
  refine vY rfl (fun h2=> ?_) (fun h2=> ?_)
  ·refine gF<|aY<|bq<|dz<|bq<|bE<|nq (aa rfl)<|nq (gh rfl rfl (by omega) (by omega))<|nq (cm rfl rfl)<|bF<|cb (ag (t:=29) rfl<|ag (t:=24) rfl<|ag (t:=1) rfl<|ag (t:=5) rfl<|ag (t:=6) rfl<|ag (t:=7) rfl<|aJ)<|aY<| ?_
   refine vY rfl (fun h3=> ?_) (fun h3=> ?_)
   ·refine bE<|nq (aa rfl)<|nq (jR rfl rfl (by omega) (by omega) (vU (by omega) (by omega)))<|nq (fU (by simp) rfl rfl (xN _ hc))<|nq (ab rfl)<|bF<|cb (ag (t:=5) rfl<|ag (t:=29) rfl<|ag (t:=24) rfl<|ag (t:=1) rfl<|ag (t:=6) rfl<|ag (t:=7) rfl<|aJ)<|gJ<|aY<|bE<|nq (aa rfl)<|nq (aL rfl rfl (bx (by omega) (by omega)))<|nq (ab rfl)<|bF<|cb (ag (t:=7) rfl<|ag (t:=5) rfl<|ag (t:=29) rfl<|ag (t:=24) rfl<|ag (t:=1) rfl<|ag (t:=6) rfl<|aJ)<| ?_
    rw[show fv q X/2 ^^^ 2197175160=fv (q+1) X by rw[fv,l4,if_pos (by omega)]]
    refine mi (q+1) (ag (t:=1) rfl<|ag (t:=5) rfl<|ag (t:=6) rfl<|ag (t:=7) rfl<|aJ) (⟨by omega,rfl⟩) (by omega)
   ·refine bE<|nq (aa rfl)<|nq (jR rfl rfl (by omega) (by omega) (vU (by omega) (by omega)))<|nq (ab rfl)<|bF<|cb (ag (t:=5) rfl<|ag (t:=29) rfl<|ag (t:=24) rfl<|ag (t:=1) rfl<|ag (t:=6) rfl<|ag (t:=7) rfl<|aJ)<|gJ<|aY<|bE<|nq (aa rfl)<|nq (aL rfl rfl (bx (by omega) (by omega)))<|nq (ab rfl)<|bF<|cb (ag (t:=7) rfl<|ag (t:=5) rfl<|ag (t:=29) rfl<|ag (t:=24) rfl<|ag (t:=1) rfl<|ag (t:=6) rfl<|aJ)<| ?_
    rw[show(fv q X:Int)/2=((fv (q+1) X:Nat):Int) by rw[fv,l4,if_neg (by omega)];omega]
    refine mi (q+1) (ag (t:=1) rfl<|ag (t:=5) rfl<|ag (t:=6) rfl<|ag (t:=7) rfl<|aJ) (⟨by omega,rfl⟩) (by omega)
  ·obtain rfl:q=8:=by omega
   refine kO<|cd<|cd<|dh<|gJ<|aY<|bE<|nq (aa rfl)<|nq (aL rfl rfl (bx (by omega) (by omega)))<|nq (ab rfl)<|bF<|cb (ag (t:=6) rfl<|ag (t:=24) rfl<|ag (t:=1) rfl<|ag (t:=5) rfl<|ag (t:=7) rfl<|aJ)<| ?_
   rw[←hX,←oJ,←Go.Hx.ey hkn]
   refine mi (k+1) (ag (t:=1) rfl<|ag (t:=5) rfl<|ag (t:=6) rfl<|aJ) (⟨by omega,rfl⟩) (by omega)
 ·obtain rfl:k=n:=by omega
  have hm:=lz (n:=4294967295-s) (by omega) (l.take k)
  refine kO<|cd<|cd<|dh<|aY<|bq<|bE<|nq (aa rfl)<|nq (ca rfl rfl ((show IntKind.u32.wrap (4294967295-((jE (4294967295-s) (l.take k):Nat):Int))=((4294967295-jE (4294967295-s) (l.take k):Nat):Int) by rw[vU (by omega) (by omega)];omega)))<|nq (ab rfl)<|bF<|cb (ag (t:=4) rfl<|ag (t:=13) rfl<|ag (t:=1) rfl<|ag (t:=5) rfl<|ag (t:=6) rfl<|aJ)<|aY<|gW<| ?_
  rw[List.take_of_length_le (by omega)]
  exact gV trivial rfl rfl ⟨rfl,rfl⟩
theorem AA(A:Option Addr)(n c:Nat)(l:List UInt8)(w:World)(hr:Rd w 1 A n (aP l))(hn:n≤70368744177664):
  Calls Tryz.prog 189 #[.slice A n c] w fun e w' =>∃v,e= .returned v∧Go.Eng.Own w' w.heap.size 5 1 v (n+4) (aP (yf l))∧Fr No w w' :=by
 have hl:l.length=n:=by have:=hr.1;rw[az]at this;omega
 refine enter (N:=24) Tryz.func189 rfl rfl (by simp) ?_
 refine bq<|bE<|nq (ab rfl)<|bF<|aY<|bq<|bE<|nq (aa rfl)<| ?_
 refine nx (jl rfl Tryz.call243 (xm A n c l 0 (by decide) w hr (by omega)) ?_)
 rintro e_ w1 ⟨rfl,rfl⟩
 refine⟨_,rfl, ?_⟩
 refine nq (ab rfl)<|bF<|cb (ag (t:=3) rfl<|ag (t:=2) rfl<|ag (t:=0) rfl<|aJ)<|aY<|bq<|bE<|nq (ab rfl)<|bF<|aY<|bq<|bE<|nq (aa rfl)<|nq (aa rfl)<| ?_
 refine nx (lN rfl rfl Tryz.underlying27 Tryz.underlying27 (by exact .inl rfl) eA rfl (Own.nil w w.heap.size _ 1) (Src.bW hr) ig (by unfold maxLen;omega) (by omega) (Nat.le_refl _) fun v w2 hv hf2 hvv=> ?_)
 have hlt:=iP l
 have f2:Fr No w w2:=hf2.mono (fun _ _ e=>e.elim)
 refine nq (ab rfl)<|bF<|cb (ag (t:=4) rfl<|ag (t:=3) rfl<|ag (t:=2) rfl<|ag (t:=0) rfl<|aJ)<|aY<|bq<|bq<|bE<|nq (ab rfl)<|bF<|aY<|dz<| ?_
 refine rp (fun k _=>4-k) (fun k v=>[(3,.int .u32 (rr k (cX l):Nat)),(4,v),(5,.int .i64 (k:Nat))]) (fun k v w' =>k≤4∧Go.Eng.Own w' w.heap.size 5 1 v (n+k) (aP (l++D9 k (cX l)))∧Fr No w w') 0 v (⟨Nat.zero_le _,by simpa[D9]using hv,f2⟩) (ag (t:=3) rfl<|ag (t:=4) rfl<|ag (t:=5) rfl<|aJ) (fun k v w3 ⟨hk,ho,hf⟩=> ?_)
 refine bq<|bq<|bE<|nq (aa rfl)<|nq (bC rfl rfl)<|bF<|cb (ag (t:=12) rfl<|ag (t:=3) rfl<|ag (t:=4) rfl<|ag (t:=5) rfl<|aJ)<|aY<| ?_
 refine vY rfl (fun h=> ?_) (fun h=> ?_)
 ·have hs8:=wa hlt k
  refine gF<|aY<|bq<|dz<|bq<|bE<|nq (aa rfl)<|nq (aa rfl)<|nq (gh rfl rfl (by omega) (by omega))<|nq (bS rfl Tryz.underlying166 Tryz.underlying5 ((show IntKind.u8.wrap (((rr k (cX l):Nat):Int) % 256)=((UInt8.ofNat (rr k (cX l))).toNat:Int) by simp[IntKind.wrap,IntKind.signed,IntKind.bits])))<| ?_
  refine nx (oA Tryz.underlying27 eA rfl rfl rfl (by simp[Value.cells,B8]) (by decide) (by decide) fun g w4 hg hf4 hb4=> ?_)
  refine nx (lN rfl rfl Tryz.underlying27 Tryz.underlying27 (by exact .inl rfl) eA rfl (ho.um hf4) (Src.jx hb4 rfl) (bg (l:=[_])) (by unfold maxLen;omega) (by omega) (hf.dM hf4).size fun v5 w5 ho5 hf5 hv5=> ?_)
  refine nq (ab rfl)<|bF<|cb (ag (t:=4) rfl<|ag (t:=12) rfl<|ag (t:=3) rfl<|ag (t:=5) rfl<|aJ)<|aY<|bE<|nq (aa rfl)<|nq (jR rfl rfl (by omega) (by omega) (vU (by omega) (by omega)))<|nq (ab rfl)<|bF<|cb (ag (t:=3) rfl<|ag (t:=4) rfl<|ag (t:=12) rfl<|ag (t:=5) rfl<|aJ)<|gJ<|aY<|bE<|nq (aa rfl)<|nq (aL rfl rfl (bx (by omega) (by omega)))<|nq (ab rfl)<|bF<|cb (ag (t:=5) rfl<|ag (t:=3) rfl<|ag (t:=4) rfl<|ag (t:=12) rfl<|aJ)<| ?_
  refine oU (k+1) v5 (ag (t:=3) rfl<|ag (t:=4) rfl<|ag (t:=5) rfl<|aJ) (⟨by omega,by rw[xG,←List.append_assoc,bz];exact ho5,(hf.dM hf4).new hf5 (fun i hi=>(ho.from hi).1)⟩) (by omega)
 ·obtain rfl:k=4:=by omega
  refine kO<|cd<|cd<|dh<|aY<|bq<|bE<|nq (aa rfl)<|nq (ab rfl)<|bF<|cb (ag (t:=2) rfl<|ag (t:=12) rfl<|ag (t:=3) rfl<|ag (t:=4) rfl<|ag (t:=5) rfl<|aJ)<|aY<|gW<| ?_
  rw[zA]at ho
  exact gV trivial rfl rfl ⟨v,rfl,ho,hf⟩
end Go.Proofs.YtmibdabdlgmafaaGreatDoor
end
section
set_option maxRecDepth 20000
namespace Go.Proofs.YtmibdabdlgmafaaGreatDoor
open Go.Eng Go.Hx
theorem tM(A:Option Addr)(n c:Nat)(l:List UInt8)(A' :Option Addr)(n' c' :Nat)(l' :List UInt8)(w:World)(hr:Rd w 1 A n (aP l))(hr' :Rd w 1 A' n' (aP l')):
  Calls Tryz.prog 215 #[.slice A n c,.slice A' n' c'] w fun e w' =>e= .returned (.bool (decide (l=l')))∧w=w' :=by
 refine enter (N:=10) Tryz.func215 rfl rfl (by simp) ?_
 refine bq<|bE<|nq (ab rfl)<|bF<|aY<|bq<|bE<|nq (aa rfl)<|nq (mf rfl Tryz.underlying27 Tryz.underlying5 Tryz.underlying9 hr)<|nq (aa rfl)<|nq (mf rfl Tryz.underlying27 Tryz.underlying5 Tryz.underlying9 hr')<|nq (ym rfl rfl)<|nq (ab rfl)<|bF<|cb (ag (t:=4) rfl<|ag (t:=0) rfl<|ag (t:=1) rfl<|aJ)<|aY<|gW<| ?_
 refine gV trivial rfl rfl ⟨?_,rfl⟩
 simp only[cC]
end Go.Proofs.YtmibdabdlgmafaaGreatDoor
end
section
set_option maxRecDepth 20000
namespace Go.Proofs.YtmibdabdlgmafaaGreatDoor
open Go.Eng Go.Hx
theorem nI{A A1:Option Addr}{n c n1 c1:Nat}{l l1:List UInt8}:b6 Tryz.prog 215 [.slice A n c,.slice A1 n1 c1] [] [cn 1 A n (aP l),cn 1 A1 n1 (aP l1)] (fun v_ X_ S_=>v_=(.bool (decide (l=l1)))∧X_=[]∧S_=[]):=by
 exact iR fun m=>Calls.mono (tM A n c l A1 n1 c1 l1 _ (m.rd 0 rfl) (m.rd 1 rfl)) (fun e w' ⟨h,hw⟩=>⟨_,h,⟨rfl,rfl,rfl⟩,hw▸Fr.refl _ _⟩)
theorem mo{A:Option Addr}{n c:Nat}{l:List UInt8}(hn:n≤140737488351232):b6 Tryz.prog 117 [.slice A n c] [] [cn 1 A n (aP l)] (fun v_ X_ S_=>∃v,v_=v∧X_=[aF 5 1 v n (aP l)]∧S_=[]):=by
 exact jQ fun m=>Calls.mono (clone A n c l _ (m.rd 0 rfl) hn) (fun e w' ⟨v,h,ho,hf⟩=>⟨v,v,_,_,_,_,h,⟨v,rfl,rfl,rfl⟩,ho,hf⟩)
end Go.Proofs.YtmibdabdlgmafaaGreatDoor
end
section
set_option maxRecDepth 20000
namespace Go.Proofs.YtmibdabdlgmafaaGreatDoor
open Go.Eng Go.Hx
def dG:bc:=cn 1 (some ⟨1,0,none⟩) 64 (dA e7)
theorem CG{n:Nat}(h0:0<n)(hn:n<32):IntKind.u64.wrap (-(n:Int))=((18446744073709551616-n:Nat):Int):=by
 simp[IntKind.wrap,IntKind.signed,IntKind.bits]
 omega
theorem yG{n:Nat}(h0:0<n)(hn:n<32):bits .and .u64 ((18446744073709551616-n:Nat):Int) 31=((32-n:Nat):Int):=by
 have h:=u64_and_nat (18446744073709551616-n) 31 (by omega) (by decide)
 rw[show((31:Nat):Int)=31 from rfl]at h
 rw[h,show(31:Nat)=2 ^ 5-1 from rfl,Nat.and_two_pow_sub_one_eq_mod]
 congr 1
 show(18446744073709551616-n) % 32=32-n
 omega
theorem uQ{x:UInt32}{n:Nat}(h0:0<n)(hn:n<32):b6 Tryz.prog 296 [Wd x,.int .i64 (-(n:Int))] [] [] (fun v_ X_ S_=>v_=(Wd (gE n x))∧X_=[]∧S_=[]):=by
 refine aI (N:=17) Tryz.func296 rfl rfl (by simp) fun b=> ?_
 have hs:IntKind.u64.wrap (32-((32-n:Nat):Int))=(n:Int):=by
  rw[show(32:Int)-((32-n:Nat):Int)=(n:Int) by omega]
  simp[IntKind.wrap,IntKind.signed,IntKind.bits]
  omega
 refine ah<|aj<|hy (fun _=>ab rfl)<|ai<|ae<|ah<|aj<|hy (fun _=>aa rfl)<|hy (fun _=>bS rfl Tryz.underlying3 Tryz.underlying263 (CG h0 hn))<|hy (fun _=>fU (by simp) rfl rfl (yG h0 hn))<|hy (fun _=>ab rfl)<|ai<|al (ρ' :=[(5,_),(4,_),(0,_),(1,_)]) ⟨rfl,rfl,rfl,rfl,trivial⟩<|ae<|ah<|aj<|hy (fun _=>aa rfl)<|hy (fun _=>aa rfl)<|hy (fun _=>(rT (k:=32-n) (by omega) rfl rfl))<|hy (fun _=>aa rfl)<|hy (fun _=>aa rfl)<|hy (fun _=>ca rfl rfl hs)<|hy (fun _=>(uH (k:=n) hn rfl rfl))<|hy (fun _=>yV (xO rfl rfl) ((show Wd (UInt32.ofNat (x.toNat*2 ^ (32-n)) ||| UInt32.ofNat (x.toNat/2 ^ n))=Wd (gE n x) by rw[qF h0 hn])))<|hy (fun _=>ab rfl)<|ai<|al (ρ' :=[(4,_),(5,_),(0,_),(1,_)]) ⟨rfl,rfl,rfl,rfl,trivial⟩<|ae<|aS<| ?_
 exact a6 trivial rfl rfl [] rfl [] rfl ⟨rfl,rfl,rfl⟩
theorem vI{x:UInt32}{n1 n2 n3:Nat}(h1:0<n1∧n1<32)(h2:0<n2∧n2<32)(h3:0<n3∧n3<32):b6 Tryz.prog 269 [Wd x,.int .i64 (n1:Int),.int .i64 (n2:Int),.int .i64 (n3:Int)] [] [] (fun v_ X_ S_=>v_=(Wd (turns n1 n2 n3 x))∧X_=[]∧S_=[]):=by
 refine aI (N:=23) Tryz.func269 rfl rfl (by simp) fun b=> ?_
 refine ah<|aj<|hy (fun _=>ab rfl)<|ai<|ae<|ah<|aj<|hy (fun _=>aa rfl)<|hy (fun _=>aa rfl)<|hy (fun _=>vL rfl (bx (by omega) (by omega)))<| ?_
 refine hx (au rfl Tryz.call296 (uQ h1.1 h1.2 (n:=n1)) [] rfl [] rfl ?_)
 rintro _ _ _ ⟨rfl,rfl,rfl⟩
 refine hy (fun _=>aa rfl)<|hy (fun _=>aa rfl)<|hy (fun _=>vL rfl (bx (by omega) (by omega)))<| ?_
 refine hx (au rfl Tryz.call296 (uQ h2.1 h2.2 (n:=n2)) [] rfl [] rfl ?_)
 rintro _ _ _ ⟨rfl,rfl,rfl⟩
 refine hy (fun _=>cG rfl rfl)<|hy (fun _=>aa rfl)<|hy (fun _=>aa rfl)<|hy (fun _=>vL rfl (bx (by omega) (by omega)))<| ?_
 refine hx (au rfl Tryz.call296 (uQ h3.1 h3.2 (n:=n3)) [] rfl [] rfl ?_)
 rintro _ _ _ ⟨rfl,rfl,rfl⟩
 refine hy (fun _=>cG rfl rfl)<|hy (fun _=>ab rfl)<|ai<|al (ρ' :=[(8,_),(0,_),(1,_),(2,_),(3,_)]) ⟨rfl,rfl,rfl,rfl,rfl,trivial⟩<|ak (X' :=[]) (S' :=[]) (fun _ m=>m)<|ae<|aS<| ?_
 exact a6 trivial rfl rfl [] rfl [] rfl ⟨rfl,rfl,rfl⟩
theorem ma{a:List UInt32}{i k n:Nat}(ha:a.length=i)(hk:k<i):(dA (a++List.replicate n 0))[k]? =some (Wd (a.getD k 0)):=by
 rw[bj (by simp;omega)]
 simp[List.getD,List.getElem?_append_left (show k<a.length by omega)]
theorem BU{a r:List UInt32}{i:Nat}{x:UInt32}(ha:a.length=i):(dA (a++x::r))[i]? =some (Wd x):=by
 subst ha
 simp[dA]
theorem uV{a r:List UInt32}{i:Nat}{x y:UInt32}(ha:a.length=i):(dA (a++x::r)).set i (Wd y)=dA (a++y::r):=by
 subst ha
 simp[dA,List.set_append]
theorem u6{a r:List UInt32}{y:UInt32}:a++y::r=(a++[y])++r:=by simp
theorem DY{A:Option Addr}{c:Nat}{l:List UInt8}(hc:64≤c):b6 Tryz.prog 268 [.slice A 64 c] [] [cn 1 A 64 (aP l)] (fun v_ X_ S_=>v_=(.agg (dA (wl l 64)).toArray)∧X_=[]∧S_=[]):=by
 refine aI (N:=75) Tryz.func268 rfl rfl (by simp) fun b=> ?_
 refine aU (fun m=>eb (m.rd 0 rfl)) ?_
 rintro⟨hl_r,hA_r⟩
 have hl:l.length=64:=hl_r
 refine ah<|aj<| ?_
 refine hx (bh y0 (fun g2=> ?_))
 refine ai<|ak (X' :=[_]) (S' :=[_]) (fun _ m=>m)<|ae<|ah<|aj<| ?_
 refine hx (bh y0 (fun g3=> ?_))
 refine aG (fun w m=>m.bs 0 rfl (show _=aE g3 354 (dA (wl l 0++List.replicate (64-0) 0))from rfl)) ?_
 refine ai<|ak (X' :=[_,_]) (S' :=[_]) (fun _ m=>m)<|ae<|ah<|ah<|aj<|hy (fun _=>aa rfl)<|ai<|ae<|aK<| ?_
 refine dH (fun i=>64-i) (fun i=>[(9,.int .i64 (i:Nat))]) (fun i=>[aE g3 354 (dA (wl l i++List.replicate (64-i) 0))]) (fun i=>[]) (fun i=>i≤64) 0 [(3,_),(2,_),(0,_)] ⟨rfl,rfl,rfl,trivial⟩ [0] rfl [] rfl (Nat.zero_le _) ⟨rfl,trivial⟩ (fun i hI=> ?_)
 have hwl:=eP l i
 refine ah<|aj<|hy (fun _=>bC rfl rfl)<|ai<|ae<|ah<| ?_
 refine cj rfl (fun h=> ?_) (fun h=> ?_)
 ·have hr64:(List.replicate (64-i) (0:UInt32))=0::List.replicate (63-i) 0:=by rw[show 64-i=(63-i)+1 by omega,List.replicate_succ]
  have hr63:(64-(i+1))=63-i:=by omega
  refine aB<|ae<|ah<|aK<|ah<|aj<|hy (fun _=>aa rfl)<|hy (fun _=>ab rfl)<|ai<|al (ρ' :=[(4,_),(10,_),(9,_),(3,_),(2,_),(0,_)]) ⟨rfl,rfl,rfl,rfl,rfl,rfl,trivial⟩<|ae<|ah<|ah<|aj<|hy (fun _=>aa rfl)<|hy (fun _=>bC rfl rfl)<|ai<|al (ρ' :=[(13,_),(4,_),(10,_),(9,_),(3,_),(2,_),(0,_)]) ⟨rfl,rfl,rfl,rfl,rfl,rfl,rfl,trivial⟩<|ae<| ?_
  refine cj rfl (fun h16=> ?_) (fun h16=> ?_)
  ·have hws:wl l (i+1)=wl l i++[jI l (4*i)]:=by rw[wl,if_pos (by omega)]
   refine bd (fun w m=>m.fp 0 rfl (View.sub (k:=4*i) (m:=4) hc (by omega))) ?_
   refine aU (fun m=>eb (m.rd 0 rfl)) ?_
   rintro⟨hl_r4,hA_r4⟩
   refine ah<|ah<|aj<|hy (fun _=>aa rfl)<|hy (fun _=>aa rfl)<|hy (fun _=>fg rfl rfl (bx (by omega) (by omega)))<|hy (fun _=>aa rfl)<|hy (fun _=>fg rfl rfl (bx (by omega) (by omega)))<|hy (fun _=>aL rfl rfl (bx (by omega) (by omega)))<|hy (fun _=>yV (ef rfl rfl rfl Tryz.underlying27 dB (show((4*i:Nat):Int)=_ by omega) (show((4*i+4:Nat):Int)=_ by omega) (by omega) (by omega)) ((show Value.slice (if c=4*i then A else A.map (·.add (4*i*1))) (4*i+4-4*i) (c-4*i)= .slice (if c=4*i then A else A.map (·.add (4*i*1))) 4 (c-4*i) by rw[Nat.add_sub_cancel_left])))<|hy (fun _=>aT rfl Tryz.underlying27)<|hy (fun _=>aa rfl)<|ai<|al (ρ' :=[(22,_),(21,_),(20,_),(13,_),(4,_),(10,_),(9,_),(3,_),(2,_),(0,_)]) ⟨rfl,rfl,rfl,rfl,rfl,rfl,rfl,rfl,rfl,rfl,trivial⟩<|ae<|aK<| ?_
   refine bd (fun w m=>m.bs 0 rfl (show _=aE g3 354 (dA (wl l i++UInt32.ofNat (wp l (4*i) 0)::List.replicate (63-i) 0))from by rw[hr64];rfl)) ?_
   refine dH (fun j=>4-j) (fun j=>[(22,.int .i64 (j:Nat))]) (fun j=>[aE g3 354 (dA (wl l i++UInt32.ofNat (wp l (4*i) j)::List.replicate (63-i) 0))]) (fun j=>[]) (fun j=>j≤4) 0 [(21,_),(20,_),(13,_),(4,_),(10,_),(9,_),(3,_),(2,_),(0,_)] ⟨rfl,rfl,rfl,rfl,rfl,rfl,rfl,rfl,rfl,trivial⟩ [0] rfl [] rfl (Nat.zero_le _) ⟨rfl,trivial⟩ (fun j hj4=> ?_)
   refine ah<|aj<|hy (fun _=>bC rfl rfl)<|ai<|ae<|ah<| ?_
   refine cj rfl (fun hj=> ?_) (fun hj=> ?_)
   ·have hgl:((l.drop (4*i)).take 4).getD j 0=l.getD (4*i+j) 0:=by
     simp[List.getD,List.getElem?_take,List.getElem?_drop,show j<4 by omega]
    refine aB<|ae<|ah<|aK<|ah<|aj<|hy (fun _=>aN rfl rfl Tryz.underlying27 dB hA_r4 rfl (by omega))<|hy (fun m=>aq rfl iv ((m.rd 0 rfl).cell (bB (by omega))))<|hy (fun _=>ab rfl)<|ai<|al (ρ' :=[(6,_),(23,_),(22,_),(21,_),(20,_),(13,_),(4,_),(10,_),(9,_),(3,_),(2,_),(0,_)]) ⟨rfl,rfl,rfl,rfl,rfl,rfl,rfl,rfl,rfl,rfl,rfl,rfl,trivial⟩<|ae<|aj<|hy (fun _=>aa rfl)<|hy (fun _=>aa rfl)<|hy (fun _=>bR rfl rfl Tryz.underlying354 br rfl (by omega))<|hy (fun m=>aq rfl bG ((m.aQ 0 rfl).aw i _ (BU hwl)))<|hy (fun _=>rO (k:=8) (b:=256) (by decide) rfl rfl rfl)<|hy (fun _=>aa rfl)<|hy (fun _=>yg rfl Tryz.underlying5 Tryz.underlying166)<|hy (fun _=>yV (xO rfl rfl) ((show Wd ((UInt32.ofNat (wp l (4*i) j)*256) ||| (((l.drop (4*i)).take 4).getD j 0).toUInt32)=Wd (UInt32.ofNat (wp l (4*i) (j+1))) by rw[hgl,Aw (by omega)])))<|hy (fun _=>bR rfl rfl Tryz.underlying354 br rfl (by omega))<| ?_
    refine cx (bU 0 rfl rfl rfl br rfl (by rw[aO];simp only[List.length_append,List.length_cons,List.length_replicate,hwl];omega) ?_)
    refine ai<|al (ρ' :=[(6,_),(23,_),(22,_),(21,_),(20,_),(13,_),(4,_),(10,_),(9,_),(3,_),(2,_),(0,_)]) ⟨rfl,rfl,rfl,rfl,rfl,rfl,rfl,rfl,rfl,rfl,rfl,rfl,trivial⟩<|ak (X' :=[_,_]) (S' :=[_,_]) (fun _ m=>m)<|aR<|ae<|aj<|hy (fun _=>aL rfl rfl (bx (by omega) (by omega)))<|hy (fun _=>aa rfl)<|ai<|al (ρ' :=[(22,_),(6,_),(23,_),(21,_),(20,_),(13,_),(4,_),(10,_),(9,_),(3,_),(2,_),(0,_)]) ⟨rfl,rfl,rfl,rfl,rfl,rfl,rfl,rfl,rfl,rfl,rfl,rfl,trivial⟩<| ?_
    refine ak (fun w m=>m.bs 0 rfl (show _=aE g3 354 (dA (wl l i++UInt32.ofNat (wp l (4*i) (j+1))::List.replicate (63-i) 0))from by rw[Nat.zero_add,uV hwl])) ?_
    refine cJ (j+1) ⟨rfl,rfl,rfl,rfl,rfl,rfl,rfl,rfl,rfl,rfl,trivial⟩ [0,0] rfl [0,1] rfl (by omega) (by omega)
   ·obtain rfl:j=4:=by omega
    refine bK<|ao<|ao<|aC<|ae<|bK<|ao<|aC<|ae<|aj<|hy (fun _=>aL rfl rfl (bx (by omega) (by omega)))<|hy (fun _=>aa rfl)<|ai<|al (ρ' :=[(9,_),(23,_),(22,_),(21,_),(20,_),(13,_),(4,_),(10,_),(3,_),(2,_),(0,_)]) ⟨rfl,rfl,rfl,rfl,rfl,rfl,rfl,rfl,rfl,rfl,rfl,trivial⟩<| ?_
    refine ak (fun w m=>m.bs 0 rfl (show _=aE g3 354 (dA (wl l (i+1)++List.replicate (64-(i+1)) 0))from by rw[A6,u6,hws,hr63])) ?_
    refine cJ (i+1) ⟨rfl,rfl,rfl,rfl,trivial⟩ [0,0] rfl [1] rfl (by omega) (by omega)
  ·have hws:wl l (i+1)=wl l i++[lJ (wl l i) i]:=by rw[wl,if_neg (by omega)]
   refine aB<|ae<|ah<|cu [] [(0,some 0),(1,some 0),(2,some 0),(3,some 0),(4,some 0),(5,some 0),(6,some 0),(7,some 0),(8,some 0),(9,some 0)] (by kernel_rfl) (by kernel_rfl) rfl 99<|an (aa rfl)<|an (ca rfl rfl (bx (by omega) (by omega)))<|an (bR rfl rfl Tryz.underlying354 br (show((i-15:Nat):Int)=_ by omega) (by omega))<|b5 (fun m=>aq rfl bG ((m.aQ 0 rfl).aw (i-15) _ (ma hwl (by omega))))<|an (aa rfl)<|an (ca rfl rfl (bx (by omega) (by omega)))<|an (bR rfl rfl Tryz.underlying354 br (show((i-2:Nat):Int)=_ by omega) (by omega))<|b5 (fun m=>aq rfl bG ((m.aQ 0 rfl).aw (i-2) _ (ma hwl (by omega))))<|an (ab rfl)<|an (ab rfl)<|bo<|al (ρ' :=[(8,_),(7,_),(13,_),(4,_),(10,_),(9,_),(3,_),(2,_),(0,_)]) ⟨rfl,rfl,rfl,rfl,rfl,rfl,rfl,rfl,rfl,trivial⟩<|ae<|cu [6,8,20,22,29] [(0,some 4),(1,some 4),(2,some 4),(3,some 4),(4,some 4),(5,some 0),(7,some 1),(10,some 4),(11,some 4),(14,some 4),(15,some 4),(16,some 4),(17,some 4),(19,some 2),(21,some 3),(24,some 4),(25,some 4),(6,none),(8,none),(9,some 4),(12,some 4),(13,some 4),(18,some 4),(20,none),(22,none),(23,some 4),(26,some 4),(27,some 4),(28,some 4),(29,none)] (by kernel_rfl) (by kernel_rfl) rfl 4<|an (aa rfl)<|an (aa rfl)<|an (ca rfl rfl (bx (by omega) (by omega)))<|an (bR rfl rfl Tryz.underlying354 br (show((i-16:Nat):Int)=_ by omega) (by omega))<|b5 (fun m=>aq rfl bG ((m.aQ 0 rfl).aw (i-16) _ (ma hwl (by omega))))<|an (aa rfl)<|an (aa rfl)<|an (aa rfl)<|an (ka (k:=3) (b:=8) (by decide) rfl rfl rfl)<|an (aa rfl)<|an (ca rfl rfl (bx (by omega) (by omega)))<|an (bR rfl rfl Tryz.underlying354 br (show((i-7:Nat):Int)=_ by omega) (by omega))<|b5 (fun m=>aq rfl bG ((m.aQ 0 rfl).aw (i-7) _ (ma hwl (by omega))))<|an (aa rfl)<|an (aa rfl)<|an (aa rfl)<|an (ka (k:=10) (b:=1024) (by decide) rfl rfl rfl)<| ?_
   refine di (au rfl Tryz.call296 (uQ (by decide) (by decide) (n:=7)) [] rfl [] rfl ?_)
   rintro _ _ _ ⟨rfl,rfl,rfl⟩
   refine⟨(fun _=>wk [0,0] [0] rfl rfl), ?_⟩
   refine di (au rfl Tryz.call296 (uQ (by decide) (by decide) (n:=18)) [] rfl [] rfl ?_)
   rintro _ _ _ ⟨rfl,rfl,rfl⟩
   refine⟨(fun _=>wk [0,0] [0] rfl rfl), ?_⟩
   refine an (cG rfl rfl)<|an (cG rfl rfl)<|an (cT rfl rfl)<|an (cT rfl rfl)<| ?_
   refine di (au rfl Tryz.call296 (uQ (by decide) (by decide) (n:=17)) [] rfl [] rfl ?_)
   rintro _ _ _ ⟨rfl,rfl,rfl⟩
   refine⟨(fun _=>wk [0,0] [0] rfl rfl), ?_⟩
   refine di (au rfl Tryz.call296 (uQ (by decide) (by decide) (n:=19)) [] rfl [] rfl ?_)
   rintro _ _ _ ⟨rfl,rfl,rfl⟩
   refine⟨(fun _=>wk [0,0] [0] rfl rfl), ?_⟩
   refine an (cG rfl rfl)<|an (cG rfl rfl)<|an (yV (cT rfl rfl) ((rfl:_=Wd (lJ (wl l i) i))))<|an (bR rfl rfl Tryz.underlying354 br rfl (by omega))<| ?_
   refine fS (bU 0 rfl rfl rfl br rfl (by rw[aO];simp only[List.length_append,List.length_replicate,hwl];omega) ⟨(fun h=>absurd h (by decide)), ?_⟩)
   refine bo<|al (ρ' :=[(8,_),(7,_),(13,_),(4,_),(10,_),(9,_),(3,_),(2,_),(0,_)]) ⟨rfl,rfl,rfl,rfl,rfl,rfl,rfl,rfl,rfl,trivial⟩<|ak (X' :=[_,_]) (S' :=[_]) (fun _ m=>m)<|aR<|ae<|aj<|hy (fun _=>aL rfl rfl (bx (by omega) (by omega)))<|hy (fun _=>aa rfl)<|ai<|al (ρ' :=[(9,_),(8,_),(7,_),(13,_),(4,_),(10,_),(3,_),(2,_),(0,_)]) ⟨rfl,rfl,rfl,rfl,rfl,rfl,rfl,rfl,rfl,trivial⟩<| ?_
   refine ak (fun w m=>m.bs 0 rfl (show _=aE g3 354 (dA (wl l (i+1)++List.replicate (64-(i+1)) 0))from by rw[Nat.zero_add,hr64,uV hwl,u6,hws,hr63])) ?_
   refine cJ (i+1) ⟨rfl,rfl,rfl,rfl,trivial⟩ [0,0] rfl [0] rfl (by omega) (by omega)
 ·obtain rfl:i=64:=by omega
  refine bd (fun w m=>m.bs 0 rfl (show _=aE g3 354 (dA (wl l 64))from by rw[Nat.sub_self];simp)) ?_
  refine bK<|ao<|ao<|aC<|ae<|ah<|aj<|hy (fun m=>yV (aX rfl B7 uX (by rw[aO,eP]) ((m.aQ 0 rfl).aw)) ((rfl:_=Value.agg (dA (wl l 64)).toArray)))<| ?_
  refine cx (a8 1 rfl rfl rfl uX (by rw[aO,eP]) fI rfl ?_)
  refine ai<|al (ρ' :=[(10,_),(9,_),(3,_),(2,_),(0,_)]) ⟨rfl,rfl,rfl,rfl,rfl,trivial⟩<|ak (X' :=[_,_]) (S' :=[_]) (fun _ m=>m)<|ae<|aS<| ?_
  exact eJ trivial rfl rfl B7 uX (by rw[aO,eP]) (fun m=>(m.aQ 0 rfl).aw) [] rfl [] rfl ⟨rfl,rfl,rfl⟩
theorem sE(v h:List UInt32)(i:Nat):(fi v h i).length=v.length:=by simp[fi]
theorem Gq{A:Option Addr}{c:Nat}{l:List UInt8}{h:List UInt32}(hc:64≤c)(hh:h.length=8):b6 Tryz.prog 227 [.agg (dA h).toArray,.slice A 64 c] [] [cn 1 A 64 (aP l),dG] (fun v_ X_ S_=>v_=(.agg (dA (dT h l)).toArray)∧X_=[]∧S_=[]):=by
 refine aI (N:=99) Tryz.func227 rfl rfl (by simp) fun b=> ?_
 refine aU (fun m=>eb (m.rd 0 rfl)) ?_
 rintro⟨hl_r,hA_r⟩
 refine ah<|aj<| ?_
 refine hx (bu rfl (fun g2=> ?_))
 refine aG (fun w m=>m.bs 0 rfl (show _=aE g2 306 (dA h)from congrArg (aE _ _) (aW _))) ?_
 refine hx (bh u5 (fun g4=> ?_))
 refine ai<|ak (X' :=[_,_]) (S' :=[_,_]) (fun _ m=>m)<|ae<|ah<|aj<|hy (fun _=>aa rfl)<| ?_
 refine hx (au rfl Tryz.call268 (DY (by omega)) [] rfl [0] rfl ?_)
 rintro _ _ _ ⟨rfl,rfl,rfl⟩
 obtain⟨W,hW⟩:∃W,wl l 64=W:=⟨_,rfl⟩
 have hw64:W.length=64:=by rw[←hW];exact eP l 64
 rw[hW]
 refine hx (bh y0 (fun g5=> ?_))
 refine cx (a8 0 rfl rfl rfl uX (by rw[aO,hw64]) fI rfl ?_)
 refine ai<|al (ρ' :=[(5,_),(4,_),(2,_),(0,_),(1,_)]) ⟨rfl,rfl,rfl,rfl,rfl,trivial⟩<|ak (X' :=[_,_,_]) (S' :=[_,_]) (fun _ m=>m)<|ae<|ah<|aj<|hy (fun m=>yV (aX rfl pQ kQ (by rw[aO,hh]) ((m.aQ 2 rfl).aw)) ((rfl:_=Value.agg (dA h).toArray)))<| ?_
 refine hx (bh u5 (fun g6=> ?_))
 refine cx (a8 0 rfl rfl rfl kQ (by rw[aO,hh]) fI rfl ?_)
 refine ai<|al (ρ' :=[(6,_),(5,_),(4,_),(2,_),(0,_),(1,_)]) ⟨rfl,rfl,rfl,rfl,rfl,rfl,trivial⟩<|ak (X' :=[_,_,_,_]) (S' :=[_,_]) (fun _ m=>m)<|ae<|ah<|ah<|aj<|hy (fun _=>aa rfl)<|ai<|ae<|aK<| ?_
 refine dH (fun i=>64-i) (fun i=>[(16,.int .i64 (i:Nat))]) (fun i=>[aE g6 306 (dA (jY W h i))]) (fun i=>[]) (fun i=>i≤64) 0 [(6,_),(5,_),(4,_),(2,_),(0,_),(1,_)] ⟨rfl,rfl,rfl,rfl,rfl,rfl,trivial⟩ [0] rfl [] rfl (Nat.zero_le _) ⟨rfl,trivial⟩ (fun i hI=> ?_)
 have hv:=jK (w:=W) hh i
 have hro:e7.length=64:=rfl
 refine ah<|aj<|hy (fun _=>bC rfl rfl)<|ai<|ae<|ah<| ?_
 refine cj rfl (fun hlt=> ?_) (fun hlt=> ?_)
 ·generalize hvd:jY W h i=v at hv ⊢
  refine aB<|ae<|ah<|aK<|ah<|aj<|hy (fun _=>aa rfl)<|hy (fun _=>ab rfl)<|ai<|al (ρ' :=[(7,_),(17,_),(16,_),(6,_),(5,_),(4,_),(2,_),(0,_),(1,_)]) ⟨rfl,rfl,rfl,rfl,rfl,rfl,rfl,rfl,rfl,trivial⟩<|ae<|ah<|cu [] [(0,some 0),(1,some 0),(2,some 0),(3,some 0),(4,some 0),(5,some 0)] (by kernel_rfl) (by kernel_rfl) rfl 99<|an (bR rfl rfl Tryz.underlying306 br (show((4:Nat):Int)=4 from rfl) (by omega))<|b5 (fun m=>aq rfl bG ((m.aQ 0 rfl).aw 4 _ (bj (by omega))))<|an (bR rfl rfl Tryz.underlying306 br (show((0:Nat):Int)=0 from rfl) (by omega))<|b5 (fun m=>aq rfl bG ((m.aQ 0 rfl).aw 0 _ (bj (by omega))))<|an (ab rfl)<|an (ab rfl)<|bo<|al (ρ' :=[(9,_),(8,_),(7,_),(17,_),(16,_),(6,_),(5,_),(4,_),(2,_),(0,_),(1,_)]) ⟨rfl,rfl,rfl,rfl,rfl,rfl,rfl,rfl,rfl,rfl,rfl,trivial⟩<|ae<|ah<|cu [3] [(0,some 1),(1,some 1),(2,some 0),(5,some 1),(6,some 1),(7,some 1),(8,some 1),(9,some 1),(10,some 1),(11,some 1),(12,some 1),(13,some 1),(14,some 1),(16,some 1),(17,some 1),(18,some 1),(20,some 1),(21,some 1),(22,some 1),(3,none),(4,some 1),(15,some 1),(19,some 1),(23,some 1),(24,some 1)] (by kernel_rfl) (by kernel_rfl) rfl 99<|an (bR rfl rfl Tryz.underlying306 br (show((7:Nat):Int)=7 from rfl) (by omega))<|b5 (fun m=>aq rfl bG ((m.aQ 0 rfl).aw 7 _ (bj (by omega))))<|an (aa rfl)<|an (aa rfl)<|an (bR rfl rfl Tryz.underlying306 br (show((5:Nat):Int)=5 from rfl) (by omega))<|b5 (fun m=>aq rfl bG ((m.aQ 0 rfl).aw 5 _ (bj (by omega))))<|an (gC rfl rfl)<|an (aa rfl)<|an (CP rfl)<|an (bR rfl rfl Tryz.underlying306 br (show((6:Nat):Int)=6 from rfl) (by omega))<|b5 (fun m=>aq rfl bG ((m.aQ 0 rfl).aw 6 _ (bj (by omega))))<|an (gC rfl rfl)<|an (cG rfl rfl)<|an (aa rfl)<|an (bR rfl rfl Tryz.underlying354 br rfl (by omega))<|b5 (fun m=>aq rfl bG ((show Rd _ 1 _ 64 (dA e7)from m.F3 1 rfl).cell (j:=i) (bj (by omega))))<|an (aa rfl)<|an (bR rfl rfl Tryz.underlying354 br rfl (by omega))<|b5 (fun m=>aq rfl bG ((m.aQ 1 rfl).aw i _ (bj (by omega))))<| ?_
  refine di (au rfl Tryz.call269 (vI (by decide) (by decide) (by decide) (n1:=6) (n2:=11) (n3:=25)) [] rfl [] rfl ?_)
  rintro _ _ _ ⟨rfl,rfl,rfl⟩
  refine⟨(fun _=>wk [0,0,0,0] [0,1] rfl rfl), ?_⟩
  refine an (cT rfl rfl)<|an (cT rfl rfl)<|an (cT rfl rfl)<| ?_
  generalize hk:e7.getD i 0=k
  refine an (yV (cT rfl rfl) ((rfl:_=Wd (rt v k (W.getD i 0)))))<|an (ab rfl)<|bo<|al (ρ' :=[(10,_),(9,_),(8,_),(7,_),(17,_),(16,_),(6,_),(5,_),(4,_),(2,_),(0,_),(1,_)]) ⟨rfl,rfl,rfl,rfl,rfl,rfl,rfl,rfl,rfl,rfl,rfl,rfl,trivial⟩<|ak (X' :=[_,_,_,_]) (S' :=[_,_]) (fun _ m=>m)<|ae<|ah<|cu [1] [(0,some 0),(2,some 1),(3,some 1),(4,some 1),(5,some 1),(6,some 1),(7,some 1),(8,some 1),(9,some 1),(10,some 1),(11,some 1),(12,some 1),(13,some 1),(14,some 1),(15,some 1),(16,some 1),(1,none),(17,some 1),(18,some 1)] (by kernel_rfl) (by kernel_rfl) rfl 99<|an (aa rfl)<|an (aa rfl)<|an (bR rfl rfl Tryz.underlying306 br (show((1:Nat):Int)=1 from rfl) (by omega))<|b5 (fun m=>aq rfl bG ((m.aQ 0 rfl).aw 1 _ (bj (by omega))))<|an (gC rfl rfl)<|an (aa rfl)<|an (bR rfl rfl Tryz.underlying306 br (show((2:Nat):Int)=2 from rfl) (by omega))<|b5 (fun m=>aq rfl bG ((m.aQ 0 rfl).aw 2 _ (bj (by omega))))<|an (gC rfl rfl)<|an (cG rfl rfl)<|an (bR rfl rfl Tryz.underlying306 br (show((1:Nat):Int)=1 from rfl) (by omega))<|b5 (fun m=>aq rfl bG ((m.aQ 0 rfl).aw 1 _ (bj (by omega))))<|an (bR rfl rfl Tryz.underlying306 br (show((2:Nat):Int)=2 from rfl) (by omega))<|b5 (fun m=>aq rfl bG ((m.aQ 0 rfl).aw 2 _ (bj (by omega))))<|an (gC rfl rfl)<|an (cG rfl rfl)<| ?_
  refine di (au rfl Tryz.call269 (vI (by decide) (by decide) (by decide) (n1:=2) (n2:=13) (n3:=22)) [] rfl [] rfl ?_)
  rintro _ _ _ ⟨rfl,rfl,rfl⟩
  refine⟨(fun _=>wk [0,0,0,0] [0,1] rfl rfl), ?_⟩
  refine an (yV (cT rfl rfl) ((rfl:_=Wd (ru v))))<|an (ab rfl)<|bo<|al (ρ' :=[(11,_),(10,_),(9,_),(8,_),(7,_),(17,_),(16,_),(6,_),(5,_),(4,_),(2,_),(0,_),(1,_)]) ⟨rfl,rfl,rfl,rfl,rfl,rfl,rfl,rfl,rfl,rfl,rfl,rfl,rfl,trivial⟩<|ak (X' :=[_,_,_,_]) (S' :=[_,_]) (fun _ m=>m)<|ae<|aj<|hy (fun _=>aa rfl)<|hy (fun _=>aa rfl)<|hy (fun _=>cT rfl rfl)<|hy (fun _=>bR rfl rfl Tryz.underlying306 br (show((0:Nat):Int)=0 from rfl) (by omega))<|hy (fun m=>aq rfl bG ((m.aQ 0 rfl).aw 0 _ (bj (by omega))))<|hy (fun _=>bR rfl rfl Tryz.underlying306 br (show((1:Nat):Int)=1 from rfl) (by omega))<|hy (fun m=>aq rfl bG ((m.aQ 0 rfl).aw 1 _ (bj (by omega))))<|hy (fun _=>bR rfl rfl Tryz.underlying306 br (show((2:Nat):Int)=2 from rfl) (by omega))<|hy (fun m=>aq rfl bG ((m.aQ 0 rfl).aw 2 _ (bj (by omega))))<|hy (fun _=>bR rfl rfl Tryz.underlying306 br (show((3:Nat):Int)=3 from rfl) (by omega))<|hy (fun m=>aq rfl bG ((m.aQ 0 rfl).aw 3 _ (bj (by omega))))<|hy (fun _=>aa rfl)<|hy (fun _=>cT rfl rfl)<|hy (fun _=>bR rfl rfl Tryz.underlying306 br (show((4:Nat):Int)=4 from rfl) (by omega))<|hy (fun m=>aq rfl bG ((m.aQ 0 rfl).aw 4 _ (bj (by omega))))<|hy (fun _=>bR rfl rfl Tryz.underlying306 br (show((5:Nat):Int)=5 from rfl) (by omega))<|hy (fun m=>aq rfl bG ((m.aQ 0 rfl).aw 5 _ (bj (by omega))))<|hy (fun _=>bR rfl rfl Tryz.underlying306 br (show((6:Nat):Int)=6 from rfl) (by omega))<|hy (fun m=>aq rfl bG ((m.aQ 0 rfl).aw 6 _ (bj (by omega))))<|hy (fun _=>yV (sP (n:=8) u5 (by kernel_rfl) rfl (by kernel_rfl) rfl (by kernel_rfl) (by kernel_rfl) (pL (l:=[_,_,_,_,_,_,_,_]))) ((rfl:_=Value.agg (dA (GW v k (W.getD i 0))).toArray)))<| ?_
  refine cx (a8 0 rfl rfl rfl kQ rfl fI (by rw[aO,hv]) ?_)
  refine ai<|al (ρ' :=[(11,_),(10,_),(9,_),(8,_),(7,_),(17,_),(16,_),(6,_),(5,_),(4,_),(2,_),(0,_),(1,_)]) ⟨rfl,rfl,rfl,rfl,rfl,rfl,rfl,rfl,rfl,rfl,rfl,rfl,rfl,trivial⟩<|ak (X' :=[_,_,_,_]) (S' :=[_,_]) (fun _ m=>m)<|aR<|ae<|aj<|hy (fun _=>aL rfl rfl (bx (by omega) (by omega)))<|hy (fun _=>aa rfl)<|ai<|al (ρ' :=[(16,_),(11,_),(10,_),(9,_),(8,_),(7,_),(17,_),(6,_),(5,_),(4,_),(2,_),(0,_),(1,_)]) ⟨rfl,rfl,rfl,rfl,rfl,rfl,rfl,rfl,rfl,rfl,rfl,rfl,rfl,trivial⟩<| ?_
  refine ak (fun w m=>m.bs 0 rfl (show _=aE g6 306 (dA (jY W h (i+1)))from by rw[←hvd,←hk];rfl)) ?_
  refine cJ (i+1) ⟨rfl,rfl,rfl,rfl,rfl,rfl,rfl,trivial⟩ [0,0,0,0] rfl [0,1] rfl (by omega) (by omega)
 ·obtain rfl:i=64:=by omega
  generalize hvv:jY W h 64=v at hv ⊢
  refine bd (fun w m=>m.bs 0 rfl (show _=aE g6 306 (dA (fi v h 0))from by rw[pP])) ?_
  refine bK<|ao<|ao<|aC<|ae<|ah<|ah<|aj<|hy (fun _=>aa rfl)<|ai<|ae<|aK<| ?_
  refine dH (fun j=>8-j) (fun j=>[(86,.int .i64 (j:Nat))]) (fun j=>[aE g6 306 (dA (fi v h j))]) (fun j=>[]) (fun j=>j≤8) 0 [(17,_),(16,_),(6,_),(5,_),(4,_),(2,_),(0,_),(1,_)] ⟨rfl,rfl,rfl,rfl,rfl,rfl,rfl,rfl,trivial⟩ [0] rfl [] rfl (Nat.zero_le _) ⟨rfl,trivial⟩ (fun j hj8=> ?_)
  have hsl:=sE v h j
  refine ah<|aj<|hy (fun _=>bC rfl rfl)<|ai<|ae<|ah<| ?_
  refine cj rfl (fun hj=> ?_) (fun hj=> ?_)
  ·refine aB<|ae<|ah<|aK<|ah<|aj<|hy (fun _=>aa rfl)<|hy (fun _=>ab rfl)<|ai<|al (ρ' :=[(12,_),(87,_),(86,_),(17,_),(16,_),(6,_),(5,_),(4,_),(2,_),(0,_),(1,_)]) ⟨rfl,rfl,rfl,rfl,rfl,rfl,rfl,rfl,rfl,rfl,rfl,trivial⟩<|ae<|cu [8] [(0,some 0),(1,some 0),(2,some 0),(3,some 0),(4,some 0),(5,some 0),(6,some 0),(7,some 0),(8,none)] (by kernel_rfl) (by kernel_rfl) rfl 0<|an (aa rfl)<|an (bR rfl rfl Tryz.underlying306 br rfl (by omega))<|b5 (fun m=>aq rfl bG ((m.aQ 0 rfl).aw j _ (bj (by omega))))<|an (aa rfl)<|an (bR rfl rfl Tryz.underlying306 br rfl (by omega))<|b5 (fun m=>aq rfl bG ((m.aQ 3 rfl).aw j _ (bj (by omega))))<|an (yV (cT rfl rfl) ((rfl:_=Wd (v_ (fi v h j) j+v_ h j))))<|an (bR rfl rfl Tryz.underlying306 br rfl (by omega))<| ?_
   refine fS (bU 0 rfl rfl rfl br rfl (by rw[aO];omega) ⟨(fun h=>absurd h (by decide)), ?_⟩)
   refine bo<|al (ρ' :=[(12,_),(87,_),(86,_),(17,_),(16,_),(6,_),(5,_),(4,_),(2,_),(0,_),(1,_)]) ⟨rfl,rfl,rfl,rfl,rfl,rfl,rfl,rfl,rfl,rfl,rfl,trivial⟩<|ak (X' :=[_,_,_,_]) (S' :=[_,_]) (fun _ m=>m)<|aR<|ae<|aj<|hy (fun _=>aL rfl rfl (bx (by omega) (by omega)))<|hy (fun _=>aa rfl)<|ai<|al (ρ' :=[(86,_),(12,_),(87,_),(17,_),(16,_),(6,_),(5,_),(4,_),(2,_),(0,_),(1,_)]) ⟨rfl,rfl,rfl,rfl,rfl,rfl,rfl,rfl,rfl,rfl,rfl,trivial⟩<| ?_
   refine ak (fun w m=>m.bs 0 rfl (show _=aE g6 306 (dA (fi v h (j+1)))from by rw[Nat.zero_add,qT,pX (by omega)])) ?_
   refine cJ (j+1) ⟨rfl,rfl,rfl,rfl,rfl,rfl,rfl,rfl,rfl,trivial⟩ [0,0,0,0] rfl [0,1] rfl (by omega) (by omega)
  ·obtain rfl:j=8:=by omega
   have hB:fi v h 8=dT h l:=by rw[dT,hW,hvv]
   rw[hB]
   have hbl:=iA hh l
   refine bK<|ao<|ao<|aC<|ae<|ah<|aj<|hy (fun m=>yV (aX rfl pQ kQ (by rw[aO,hbl]) ((m.aQ 0 rfl).aw)) ((rfl:_=Value.agg (dA (dT h l)).toArray)))<| ?_
   refine cx (a8 2 rfl rfl rfl kQ (by rw[aO,hbl]) fI rfl ?_)
   refine ai<|al (ρ' :=[(87,_),(86,_),(17,_),(16,_),(6,_),(5,_),(4,_),(2,_),(0,_),(1,_)]) ⟨rfl,rfl,rfl,rfl,rfl,rfl,rfl,rfl,rfl,rfl,trivial⟩<|ak (X' :=[_,_,_,_]) (S' :=[_,_]) (fun _ m=>m)<|ae<|aS<| ?_
   exact eJ trivial rfl rfl pQ kQ (by rw[aO,hbl]) (fun m=>(m.aQ 0 rfl).aw) [] rfl [] rfl ⟨rfl,rfl,rfl⟩
end Go.Proofs.YtmibdabdlgmafaaGreatDoor
end
section
set_option maxRecDepth 100000
namespace Go.Proofs.YtmibdabdlgmafaaGreatDoor
open Go.Eng Go.Hx Go.ChangeShapes Go.WideShapes Go.ChangeAt Go.WideMaps Go.WideElems Go.RowKit
theorem Dc : Tryz.prog.globalNamed "lighterage/sha.roots" = some 1 := by kernel_rfl
theorem C9:(Tryz.prog.globals[1]?).map (·.type)=some 354:=by kernel_rfl
theorem tV:(Rows.laid_lighterage_sha_roots:DataW Unit)= .agg (e7.map fun x=>.lit (.int .u32 (x.toNat:Int))):=by kernel_rfl
theorem xv (os : Os) (args : Array Value) : laidMetH Tryz.prog [("lighterage/sha.roots", Rows.laid_lighterage_sha_roots)] ((World.doorLaid Tryz.prog 400 os).forCall (fun _ _ => 0) ⟨#[], args, []⟩).memory :=
  laidMetH_of_parts3 (fuel:=8) (laidMet_of_run' 8 (by kernel_rfl) (by kernel_rfl)) (by kernel_rfl) (by kernel_rfl)
theorem pD {W : World} (h : laidMetH Tryz.prog [("lighterage/sha.roots", Rows.laid_lighterage_sha_roots)] W) : dG.holds W := by
  rw[MakeChecks.laidMetH_plain _ _ _ (by kernel_rfl)]at h
  obtain⟨ps,⟨g0,t0,cs0,f0,p0,q0,hg0,ht0,hv0,hd0,_,_⟩,_,_⟩:=h
  obtain rfl:=Option.some.inj (Dc.symm.trans hg0)
  obtain rfl:=Option.some.inj (C9.symm.trans ht0)
  rw[tV]at hd0
  obtain⟨xs,m1,rfl,hx1,hlen,hn,hel⟩:=DataW.trod_array Tryz.underlying354 hd0
  have c3:Tryz.prog.cellsOf 166=1:=by kernel_rfl
  simp only[Prod.mk.injEq,DataW.agg.injEq]at hx1
  refine⟨by rw[aO];rfl,fun _=>by simp,fun j u hu=> ?_⟩
  have hj:j<64:=by
    obtain⟨h1,_⟩:=List.getElem?_eq_some_iff.1 hu
    rw[aO]at h1
    exact h1
  have h0:=hel j hj
  have hxj:(xs.map (·.1))[j]? =(e7.map fun x=>DataW.lit (Lit.int .u32 (x.toNat:Int)))[j]? :=by rw[←hx1.1]
  obtain⟨y,hy⟩:∃y,xs[j]? =some y:=⟨_,List.getElem?_eq_getElem (by omega)⟩
  rw[hy]at h0
  obtain⟨n,e1,e2,_⟩:=DataW.trod_int Tryz.underlying166 h0
  rw[List.getElem?_map,hy,List.getElem?_map]at hxj
  rw[dA,List.getElem?_map]at hu
  cases hr:e7[j]? with
  |none=>rw[hr]at hu;cases hu
  |some r=>
    rw[hr]at hu hxj
    rw[e2]at hxj
    have hn2:n=(r.toNat:Int):=by simpa using hxj
    have hu2:u= .int .u32 (r.toNat:Int):=by simpa using hu.symm
    have h5:=World.var?_cell hg0 hv0 j
    rw[c3,Nat.mul_one]at e1
    have h6:cs0[j]? =some (.int .u32 n):=by
      have h7:(List.take 1 (List.drop j cs0.toList))[0]? =some (.int .u32 n):=by rw[e1];rfl
      rw[List.getElem?_take,if_pos (by decide),List.getElem?_drop,Nat.add_zero]at h7
      simpa using h7
    show W.cell? ((Option.getD (some _) d0).add j)=some u
    rw[hu2,←hn2,←h6,←h5]
    have e:(⟨1,0,none⟩:Addr).add j=⟨1,j,none⟩:=by simp[Addr.add];omega
    exact congrArg W.cell? e
end Go.Proofs.YtmibdabdlgmafaaGreatDoor
end
section
set_option maxRecDepth 20000
namespace Go.Proofs.YtmibdabdlgmafaaGreatDoor
open Go.Eng Go.Hx
theorem sB{l:List UInt8}{c:UInt8}:b6 Tryz.prog 267 [.string (strOf l),B8 c] [] [] (fun v_ X_ S_=>v_=(.int .i64 (Lib.indexByte l c))∧X_=[]∧S_=[]):=by
 refine aI (N:=8) Tryz.func267 rfl rfl (by simp) fun b=> ?_
 refine ah<|aj<|hy (fun _=>ab rfl)<|ai<|ae<|ah<|aj<|hy (fun _=>aa rfl)<|hy (fun _=>aa rfl)<| ?_
 refine hx (oC (fun m=>B2 rfl Tryz.func295 (by kernel_rfl) (by kernel_rfl) (by kernel_rfl) (show _=some Extern.BytealgIndexByte.indexByte by kernel_rfl) (Lib.run_indexByteString _ _ _)) ?_)
 refine hy (fun _=>ab rfl)<|ai<|al (ρ' :=[(4,_),(0,_),(1,_)]) ⟨rfl,rfl,rfl,trivial⟩<|ae<|aS<| ?_
 exact a6 trivial rfl rfl [] rfl [] rfl ⟨(by congr 2;simp),rfl,rfl⟩
theorem wv{l:List UInt8}{c:UInt8}:b6 Tryz.prog 274 [.string (strOf l),.string (strOf [c])] [] [] (fun v_ X_ S_=>v_=(.int .i64 (Lib.indexByte l c))∧X_=[]∧S_=[]):=by
 refine aI (N:=143) Tryz.func274 rfl rfl (by simp) fun b=> ?_
 refine ah<|aj<|hy (fun _=>ab rfl)<|ai<|ae<|ah<|aj<|hy (fun _=>aa rfl)<|hy (fun _=>yV (eZ rfl Tryz.underlying9) ((rfl:_=Value.int .i64 1)))<|hy (fun _=>ab rfl)<|ai<|al (ρ' :=[(5,_),(4,_),(0,_),(1,_)]) ⟨rfl,rfl,rfl,rfl,trivial⟩<|ae<|ah<|aK<|ah<|aj<|hy (fun _=>aa rfl)<|hy (fun _=>cm rfl rfl)<|hy (fun _=>aa rfl)<| ?_
 refine cg (o:=_) rfl rfl rfl (fun _=>aa rfl)<|cg (o:=_) rfl rfl rfl (fun _=>aa rfl)<|cg (o:=_) rfl rfl rfl (fun _=>ym rfl rfl)<|hy (fun _=>bn rfl rfl)<|hy (fun _=>ab rfl)<|ai<|al (ρ' :=[(16,_),(5,_),(4,_),(0,_),(1,_)]) ⟨rfl,rfl,rfl,rfl,rfl,trivial⟩<|ae<| ?_
 refine cj rfl (fun h=> ?_) (fun h=> ?_)
 ·obtain rfl:=cC.1 h
  refine ah<|aj<|hy (fun _=>ab rfl)<|ai<|ae<|aS<|bf<|ay<| ?_
  exact a6 trivial rfl rfl [] rfl [] rfl ⟨(by simp[Lib.indexByte]),rfl,rfl⟩
 ·refine ah<|aj<|hy (fun _=>aa rfl)<|hy (fun _=>cm rfl rfl)<|hy (fun _=>ab rfl)<|ai<|al (ρ' :=[(24,_),(16,_),(5,_),(4,_),(0,_),(1,_)]) ⟨rfl,rfl,rfl,rfl,rfl,rfl,trivial⟩<|ae<| ?_
  refine gS rfl (rfl) ?_
  refine ah<|aj<|hy (fun _=>aa rfl)<|hy (fun _=>aa rfl)<|hy (fun _=>yV (iQ rfl rfl Tryz.underlying9 rfl (tf (by simp))) ((rfl:_=B8 c)))<| ?_
  refine hx (au rfl Tryz.call267 (sB) [] rfl [] rfl ?_)
  rintro _ _ _ ⟨rfl,rfl,rfl⟩
  refine hy (fun _=>ab rfl)<|ai<|al (ρ' :=[(4,_),(24,_),(16,_),(5,_),(0,_),(1,_)]) ⟨rfl,rfl,rfl,rfl,rfl,rfl,trivial⟩<|ak (X' :=[]) (S' :=[]) (fun _ m=>m)<|ae<|aS<|bf<|ay<| ?_
  exact a6 trivial rfl rfl [] rfl [] rfl ⟨rfl,rfl,rfl⟩
theorem oW{l:List UInt8}{c:UInt8}:b6 Tryz.prog 233 [.string (strOf l),.string (strOf [c])] [] [] (fun v_ X_ S_=>v_=(.int .i64 (Lib.indexByte l c))∧X_=[]∧S_=[]):=by
 refine aI (N:=8) Tryz.func233 rfl rfl (by simp) fun b=> ?_
 refine ah<|aj<|hy (fun _=>ab rfl)<|ai<|ae<|ah<|aj<|hy (fun _=>aa rfl)<|hy (fun _=>aa rfl)<| ?_
 refine hx (au rfl Tryz.call274 (wv) [] rfl [] rfl ?_)
 rintro _ _ _ ⟨rfl,rfl,rfl⟩
 refine hy (fun _=>ab rfl)<|ai<|al (ρ' :=[(4,_),(0,_),(1,_)]) ⟨rfl,rfl,rfl,trivial⟩<|ak (X' :=[]) (S' :=[]) (fun _ m=>m)<|ae<|aS<| ?_
 exact a6 trivial rfl rfl [] rfl [] rfl ⟨rfl,rfl,rfl⟩
theorem uA{l:List UInt8}{c:UInt8}:b6 Tryz.prog 184 [.string (strOf l),.string (strOf [c])] [] [] (fun v_ X_ S_=>v_=(.bool (decide (c∈l)))∧X_=[]∧S_=[]):=by
 refine aI (N:=9) Tryz.func184 rfl rfl (by simp) fun b=> ?_
 refine ah<|aj<|hy (fun _=>ab rfl)<|ai<|ae<|ah<|aj<|hy (fun _=>aa rfl)<|hy (fun _=>aa rfl)<| ?_
 refine hx (au rfl Tryz.call233 (oW) [] rfl [] rfl ?_)
 rintro _ _ _ ⟨rfl,rfl,rfl⟩
 refine hy (fun _=>ec rfl rfl)<|hy (fun _=>ab rfl)<|ai<|al (ρ' :=[(4,_),(0,_),(1,_)]) ⟨rfl,rfl,rfl,trivial⟩<|ak (X' :=[]) (S' :=[]) (fun _ m=>m)<|ae<|aS<| ?_
 exact a6 trivial rfl rfl [] rfl [] rfl ⟨(by congr 1;rw[←Lib.contains_iff_indexByte];simp),rfl,rfl⟩
def fj(p:List UInt8):Prop:=p≠ []∧p.length≤96∧¬(0:UInt8)∈p
instance(p:List UInt8):Decidable (fj p):=by unfold fj;infer_instance
theorem vc(p:List UInt8):strOf p≠⟨#[]⟩↔p≠ []:=by
 rw[show(⟨#[]⟩:ByteArray)=strOf []from rfl]
 simp only[ne_eq,cC]
theorem x8{p:List UInt8}:b6 Tryz.prog 115 [.string (strOf p)] [] [] (fun v_ X_ S_=>v_=(.bool (decide (fj p)))∧X_=[]∧S_=[]):=by
 have hsz:=dU p
 refine aI (N:=15) Tryz.func115 rfl rfl (by simp) fun b=> ?_
 refine ah<|aj<|hy (fun _=>ab rfl)<|ai<|ae<|ah<|aj<|hy (fun _=>aa rfl)<|hy (fun _=>oM rfl rfl)<|hy (fun _=>aa rfl)<| ?_
 refine fe 5 rfl (fun h1=> ?_) (fun h1=> ?_)
 ·have h1' :=(vc p).1 h1
  refine cg (o:=_) rfl rfl rfl (fun _=>aa rfl)<|cg (o:=_) rfl rfl rfl (fun _=>eZ rfl Tryz.underlying9)<|cg (o:=_) rfl rfl rfl (fun _=>py rfl rfl)<|hy (fun _=>bM rfl rfl)<|hy (fun _=>aa rfl)<| ?_
  refine fe 10 rfl (fun h2=> ?_) (fun h2=> ?_)
  ·have h2' :p.length≤96:=by omega
   refine cg (o:=_) rfl rfl rfl (fun _=>aa rfl)<| ?_
   refine Ft (o:=_) rfl rfl rfl (au rfl Tryz.call184 (uA) [] rfl [] rfl ?_)
   rintro _ _ _ ⟨rfl,rfl,rfl⟩
   refine cg (o:=_) rfl rfl rfl (fun _=>eE rfl)<|hy (fun _=>bM rfl rfl)<|hy (fun _=>ab rfl)<|ai<|al (ρ' :=[(2,_),(0,_)]) ⟨rfl,rfl,trivial⟩<|ak (X' :=[]) (S' :=[]) (fun _ m=>m)<|ae<|aS<| ?_
   exact a6 trivial rfl rfl [] rfl [] rfl ⟨(by congr 1;simp only[fj];simp[h1',h2']),rfl,rfl⟩
  ·have h2' :¬p.length≤96:=by omega
   refine a7 rfl rfl rfl (by decide)<|a7 rfl rfl rfl (by decide)<|a7 rfl rfl rfl (by decide)<|hy (fun _=>bn rfl rfl)<|hy (fun _=>ab rfl)<|ai<|al (ρ' :=[(2,_),(0,_)]) ⟨rfl,rfl,trivial⟩<|ae<|aS<| ?_
   exact a6 trivial rfl rfl [] rfl [] rfl ⟨(by congr 1;simp only[fj];simp[h2']),rfl,rfl⟩
 ·have h1' :¬p≠ []:=fun h=>h1 ((vc p).2 h)
  refine a7 rfl rfl rfl (by decide)<|a7 rfl rfl rfl (by decide)<|a7 rfl rfl rfl (by decide)<|hy (fun _=>bn rfl rfl)<|hy (fun _=>aa rfl)<| ?_
  refine a7 rfl rfl rfl (by decide)<|a7 rfl rfl rfl (by decide)<|a7 rfl rfl rfl (by decide)<|hy (fun _=>bn rfl rfl)<|hy (fun _=>ab rfl)<|ai<|al (ρ' :=[(2,_),(0,_)]) ⟨rfl,rfl,trivial⟩<|ae<|aS<| ?_
  exact a6 trivial rfl rfl [] rfl [] rfl ⟨(by congr 1;simp only[fj];simp[h1']),rfl,rfl⟩
end Go.Proofs.YtmibdabdlgmafaaGreatDoor
end
section
set_option maxRecDepth 20000
namespace Go.Proofs.YtmibdabdlgmafaaGreatDoor
open Go.Eng Go.Hx
abbrev dx:=List (List UInt8×ba)
def eh(l:dx):List (List UInt8×Value):=l.map fun x=>(x.1,x.2.val)
def ll(l:dx):Nat:=(l.map fun x=>x.2.n).sum
theorem l6:∀(l:dx) (p:List UInt8),bA (eh l) p=(bA l p).map ba.val
 | [],p=>rfl
 |(k,r)::q,p=>by
  have:=l6 q p
  simp only[eh,List.map_cons,bA]at this ⊢
  split <;> simp_all
theorem ph:∀(l:dx) (p:List UInt8) (r:ba),cq (eh l) p r.val=eh (cq l p r)
 | [],p,r=>rfl
 |(k,u)::q,p,r=>by
  have:=ph q p r
  simp only[eh,List.map_cons,cq]at this ⊢
  split <;> simp_all
theorem sS:∀(l:dx) (p:List UInt8),eG (eh l) p=eh (eG l p)
 | [],p=>rfl
 |(k,u)::q,p=>by
  have:=sS q p
  simp only[eh,List.map_cons,eG]at this ⊢
  split <;> simp_all
theorem AZ{l:dx}{j:Nat}{p:List UInt8×Value}(h:(eh l)[j]? =some p):∃r,l[j]? =some (p.1,r)∧p.2=r.val:=by
 simp only[eh,List.getElem?_map]at h
 cases hl:l[j]? with
 |none=>rw[hl]at h;cases h
 |some x=>
  rw[hl]at h
  simp only[Option.map_some,Option.some.injEq]at h
  subst h
  exact⟨x.2,rfl,rfl⟩
theorem uh(l:dx)(j:Nat):(eh l).eraseIdx j=eh (l.eraseIdx j):=(map_eraseIdx _ l j).symm
theorem qh:∀{l:dx} {j:Nat} {x:List UInt8×ba},l[j]? =some x→ll (l.eraseIdx j)+x.2.n=ll l
 | [],j,x,h=>by simp at h
 |a::q,0,x,h=>by
  simp only[List.getElem?_cons_zero,Option.some.injEq]at h
  subst h
  simp[ll];omega
 |a::q,j+1,x,h=>by
  simp only[List.getElem?_cons_succ]at h
  have:=qh h
  simp only[ll,List.eraseIdx_cons_succ,List.map_cons,List.sum_cons]at this ⊢
  omega
inductive iG
 |written (p:List UInt8) (r:ba)
 |renamed (a b:List UInt8)
 |removed (p:List UInt8)
def iG.row:iG→Option ba
 | .written _ r=>some r
 |_=>none
def iG.val:iG→Value
 | .written p r=>.iface 189 (.agg [SV p,r.val].toArray)
 | .renamed a b=>.iface 257 (.agg [SV a,SV b].toArray)
 | .removed p=>.iface 237 (.agg [SV p].toArray)
structure cU where
 room:Int
 gs:Nat
 gl:Nat
 seen:dx
 cY:dx
 waits:List iG
 wA:Option Addr
 wc:Nat
 cf:Int
def rowsOf(st:cU):List ba:=st.seen.map (·.2)++st.cY.map (·.2)++st.waits.filterMap iG.row
def kW(st:cU):List Value:=[.int .i64 st.room,.map (some st.gs),.map (some st.gl),.slice st.wA st.waits.length st.wc,.int .i64 st.cf]
abbrev bP(g:Nat)(st:cU):bc:=ep [aE g 177 (kW st),dk SV st.gs (eh st.seen),dk SV st.gl (eh st.cY),aF 232 1 (.slice st.wA st.waits.length st.wc) st.waits.length (st.waits.map iG.val),dw (rowsOf st)]
def lP(n:Int)(gs gl:Nat):cU:=⟨n,gs,gl,[],[],[],none,0,-1⟩
theorem G9{n:Int}(h1:1≤n)(h2:n≤1048576):b6 Tryz.prog 24 [.int .i64 n] [] [] (fun v_ X_ S_=>∃g gs gl,v_=(.tuple #[.pointer (some ⟨g,0,none⟩),.int .i64 0])∧X_=[bP g (lP n gs gl)]∧S_=[]):=by
 refine aI (N:=15) Tryz.func24 rfl rfl (by simp) fun b=> ?_
 refine ah<|aj<|hy (fun _=>ab rfl)<|hy (fun _=>ab rfl)<|ai<|ae<|ah<|ah<|aj<|hy (fun _=>aa rfl)<|hy (fun _=>bC rfl rfl)<|hy (fun _=>aa rfl)<| ?_
 refine fe 6 rfl (fun h=> ?_) (fun h=> ?_)
 ·exact absurd h (by omega)
 ·refine cg (o:=_) rfl rfl rfl (fun _=>aa rfl)<|cg (o:=_) rfl rfl rfl (fun _=>cy rfl rfl)<|hy (fun _=>bn rfl rfl)<|ai<|al (ρ' :=[(9,_),(3,_),(2,_),(0,_)]) ⟨rfl,rfl,rfl,rfl,trivial⟩<|ae<| ?_
  refine dj rfl (decide_eq_false (by omega)) ?_
  refine aB<|ae<|ah<|aj<|hy (fun _=>aa rfl)<| ?_
  refine hx (lH SV (fun g11=> ?_))
  refine hx (lH SV (fun g12=> ?_))
  refine hy (fun _=>yV (bQ FR rfl rfl (by kernel_rfl) (.cons (o:=0) (sz:=1) (by kernel_rfl) rfl rfl (Nat.le_of_ble_eq_true rfl) (.cons (o:=1) (sz:=1) (by kernel_rfl) rfl rfl (Nat.le_of_ble_eq_true rfl) (.cons (o:=2) (sz:=1) (by kernel_rfl) rfl rfl (Nat.le_of_ble_eq_true rfl) (.cons (o:=4) (sz:=1) (by kernel_rfl) rfl rfl (Nat.le_of_ble_eq_true rfl) .nil))))) ((rfl:_=Value.agg (kW (lP n g11 g12)).toArray)))<| ?_
  refine hx (bu rfl (fun g14=> ?_))
  refine hy (fun _=>ab rfl)<|hy (fun _=>ab rfl)<|ai<|al (ρ' :=[(3,_),(2,_),(9,_),(0,_)]) ⟨rfl,rfl,rfl,rfl,trivial⟩<|ak (X' :=[_,_,_]) (S' :=[]) (fun _ m=>m)<|ae<|aS<| ?_
  refine ak (fun w m=>m.cI (r' :=aF 232 1 (.slice none 0 0) 0 []) (.refl _ _) (Own.nil _ _ _ _) (fun k hk=>hk.elim)) ?_
  refine ak (fun w m=>m.yJ) ?_
  refine ak (X' :=bP g14 (lP n g11 g12)::_) (fun w m=>(m.perm (ar [2,3,2,1,0] _ [_,_,_,_,_] _ rfl)).pack) ?_
  exact c9 trivial rfl rfl rfl [0] rfl [] rfl ⟨_,_,_,rfl,rfl,rfl⟩
theorem GC{g:Nat}{st:cU}:b6 Tryz.prog 87 [.pointer (some ⟨g,0,none⟩)] [bP g st] [] (fun v_ X_ S_=>v_=(.bool (decide (st.cf≠0)))∧X_=[bP g st]∧S_=[]):=by
 refine aI (N:=8) Tryz.func87 rfl rfl (by simp) fun b=> ?_
 refine bd (fun w m=>(m.perm (ar [0] _ [_] _ rfl)).unpack) ?_
 refine ah<|aj<|hy (fun _=>ab rfl)<|ai<|ae<|ah<|aj<|hy (fun _=>aa rfl)<|hy (fun _=>aM rfl)<|hy (fun _=>aD rfl od (by decide))<|hy (fun m=>aq rfl dq (ax (m.aQ 0 rfl) rfl))<|hy (fun _=>dF rfl rfl)<|hy (fun _=>ab rfl)<|ai<|al (ρ' :=[(2,_),(0,_)]) ⟨rfl,rfl,trivial⟩<|ae<|aS<| ?_
 refine ak (X' :=bP g st::_) (fun w m=>(m.perm (ar [0,0,0,0,0] _ [_,_,_,_,_] _ rfl)).pack) ?_
 exact a6 trivial rfl rfl [0] rfl [] rfl ⟨rfl,rfl,rfl⟩
def cU.eR(st:cU):cU:={st with cf:=if 0<st.cf then st.cf-1 else st.cf}
theorem ux{g:Nat}{st:cU}(hp:st.cf≤1000000000000):b6 Tryz.prog 181 [.pointer (some ⟨g,0,none⟩)] [bP g st] [] (fun v_ X_ S_=>v_=(.tuple #[])∧X_=[bP g st.eR]∧S_=[]):=by
 refine aI (N:=14) Tryz.func181 rfl rfl (by simp) fun b=> ?_
 refine bd (fun w m=>(m.perm (ar [0] _ [_] _ rfl)).unpack) ?_
 refine ah<|aj<|hy (fun _=>aa rfl)<|hy (fun _=>aM rfl)<|hy (fun _=>aD rfl od (by decide))<|hy (fun m=>aq rfl dq (ax (m.aQ 0 rfl) rfl))<|hy (fun _=>cy rfl rfl)<|ai<|al (ρ' :=[(6,_),(0,_)]) ⟨rfl,rfl,trivial⟩<|ae<| ?_
 refine cj rfl (fun h=> ?_) (fun h=> ?_)
 ·have e:st.eR={st with cf:=st.cf-1}:=by simp only[cU.eR,if_pos h]
  rw[e]
  refine aj<|hy (fun _=>aa rfl)<|hy (fun _=>aM rfl)<|hy (fun _=>aD rfl od (by decide))<|hy (fun m=>aq rfl dq (ax (m.aQ 0 rfl) rfl))<|hy (fun _=>ca rfl rfl (bx (by omega) (by omega)))<|hy (fun _=>aM rfl)<|hy (fun _=>aD rfl od (by decide))<| ?_
  refine cx (bU 0 rfl rfl rfl ta rfl (by first|exact Nat.le_of_ble_eq_true rfl|simp) ?_)
  refine ai<|al (ρ' :=[(6,_),(0,_)]) ⟨rfl,rfl,trivial⟩<|ak (X' :=[_,_,_,_,_]) (S' :=[]) (fun _ m=>m)<| ?_
  refine ak (X' :=bP g {st with cf:=st.cf-1}::_) (fun w m=>(m.perm (ar [0,0,0,0,0] _ [_,_,_,_,_] _ rfl)).pack) ?_
  exact fa trivial rfl [0] rfl [] rfl ⟨rfl,rfl,rfl⟩
 ·have e:st.eR=st:=by simp only[cU.eR,if_neg h]
  rw[e]
  refine aB<| ?_
  refine ak (X' :=bP g st::_) (fun w m=>(m.perm (ar [0,0,0,0,0] _ [_,_,_,_,_] _ rfl)).pack) ?_
  exact fa trivial rfl [0] rfl [] rfl ⟨rfl,rfl,rfl⟩
theorem Fu{g:Nat}{st:cU}(ht:ll st.seen≤1000000000000):b6 Tryz.prog 88 [.pointer (some ⟨g,0,none⟩)] [bP g st] [] (fun v_ X_ S_=>v_=(.int .i64 (ll st.seen:Nat))∧X_=[bP g st]∧S_=[]):=by
 refine aI (N:=20) Tryz.func88 rfl rfl (by simp) fun b=> ?_
 refine bd (fun w m=>(m.perm (ar [0] _ [_] _ rfl)).unpack) ?_
 refine ah<|aj<|hy (fun _=>ab rfl)<|ai<|ae<|ah<|aj<|hy (fun _=>ab rfl)<|ai<|ae<|ah<|ah<|aj<|hy (fun _=>aa rfl)<|hy (fun _=>aM rfl)<|hy (fun _=>aD rfl jn (by decide))<|hy (fun m=>aq rfl oL (ax (m.aQ 0 rfl) rfl))<| ?_
 refine hx (zP 1 rfl rfl Tryz.underlying174 (fun r10=> ?_))
 refine ai<|al (ρ' :=[(10,_),(3,_),(2,_),(0,_)]) ⟨rfl,rfl,rfl,rfl,trivial⟩<|ak (X' :=[_,_,_,_,_]) (S' :=[]) (fun _ m=>m)<|ae<|aK<| ?_
 refine fD (fun left n cur=>left.length) (fun left n cur=>[(3,.int .i64 (n:Nat))]) (fun left n cur=>[nV SV r10 st.gs (eh st.seen) (eh left) cur]) (fun left n cur=>[]) (fun left n cur=>n+ll left=ll st.seen) st.seen 0 none [(10,_),(2,_),(0,_)] ⟨rfl,rfl,rfl,trivial⟩ [0] rfl [] rfl (Nat.zero_add _) ⟨rfl,trivial⟩ (fun left n cur hI=> ?_)
 refine ah<|aj<| ?_
 refine hx (BB 0 rfl rfl (fun h0=> ?_) (fun j p hp=> ?_))
 ·obtain rfl:left=[]:=List.map_eq_nil_iff.1 h0
  have hn:n=ll st.seen:=by simpa[ll]using hI
  subst hn
  refine hy (fun _=>aH rfl rfl)<|ai<|al (ρ' :=[(12,_),(3,_),(10,_),(2,_),(0,_)]) ⟨rfl,rfl,rfl,rfl,rfl,trivial⟩<|ae<|ah<| ?_
  refine dj rfl (rfl) ?_
  refine bK<|ao<|ao<|aC<|ae<|ah<|aj<|hy (fun _=>aa rfl)<|hy (fun _=>ab rfl)<|ai<|al (ρ' :=[(2,_),(12,_),(3,_),(10,_),(0,_)]) ⟨rfl,rfl,rfl,rfl,rfl,trivial⟩<|ae<|aS<| ?_
  refine ak (fun w m=>m.Eh 0 rfl) ?_
  refine ak (X' :=bP g st::_) (fun w m=>(m.perm (ar [1,0,0,0,0] _ [_,_,_,_,_] _ rfl)).pack) ?_
  exact a6 trivial rfl rfl [0] rfl [] rfl ⟨rfl,rfl,rfl⟩
 ·obtain⟨k,v⟩:=p
  obtain⟨r,hr,e⟩:=AZ hp
  obtain rfl:v=r.val:=e
  have ht:=qh hr
  have hlt:=(List.getElem?_eq_some_iff.1 hr).1
  simp only at ht
  refine hy (fun _=>aH rfl rfl)<|ai<|al (ρ' :=[(12,_),(3,_),(10,_),(2,_),(0,_)]) ⟨rfl,rfl,rfl,rfl,rfl,trivial⟩<|ae<|ah<| ?_
  refine gS rfl (rfl) ?_
  refine aB<|ae<|aK<|ah<|aj<|hy (fun m=>yL rfl (m.GZ 0 rfl))<|hy (fun _=>yV (aH rfl rfl) ((rfl:_=Value.slice r.A r.n r.c)))<|hy (fun _=>ab rfl)<|ai<|al (ρ' :=[(5,_),(12,_),(3,_),(10,_),(2,_),(0,_)]) ⟨rfl,rfl,rfl,rfl,rfl,rfl,trivial⟩<|ae<|aj<|hy (fun _=>aa rfl)<|hy (fun _=>aa rfl)<|hy (fun _=>aT rfl Tryz.underlying27)<|hy (fun _=>aL rfl rfl (bx (by omega) (by omega)))<|hy (fun _=>ab rfl)<|ai<|al (ρ' :=[(3,_),(5,_),(12,_),(10,_),(2,_),(0,_)]) ⟨rfl,rfl,rfl,rfl,rfl,rfl,trivial⟩<|aR<| ?_
  refine ak (fun w m=>m.bs 0 rfl (show _=nV SV r10 st.gs (eh st.seen) (eh (left.eraseIdx j)) (some (k,r.val))from congrArg (fun q=>nV SV r10 st.gs (eh st.seen) q (some (k,r.val))) (uh left j))) ?_
  refine fz (left.eraseIdx j) (n+r.n) (some (k,r.val)) ⟨rfl,rfl,rfl,rfl,trivial⟩ [0,0,0,0,0] rfl [] rfl (by omega) (by rw[List.length_eraseIdx,if_pos hlt];omega)
theorem oH{l:dx}(p:List UInt8):(bA l p=none∧bA (eh l) p=none)∨∃r,bA l p=some r∧bA (eh l) p=some r.val:=by
 rw[l6]
 cases bA l p with
 |none=>exact .inl ⟨rfl,rfl⟩
 |some r=>exact .inr ⟨r,rfl,rfl⟩
def dZ(st:cU)(p:List UInt8):Int:=if st.cf=0 then 6 else if bA st.seen p=none then 4 else 0
theorem xK{g:Nat}{st:cU}{p:List UInt8}:b6 Tryz.prog 158 [.pointer (some ⟨g,0,none⟩),.string (strOf p)] [bP g st] [] (fun v_ X_ S_=>v_=(.int .i64 (dZ st p))∧X_=[bP g st]∧S_=[]):=by
 have hf:dZ st p=dZ st p:=rfl
 refine aI (N:=23) Tryz.func158 rfl rfl (by simp) fun b=> ?_
 refine bd (fun w m=>(m.perm (ar [0] _ [_] _ rfl)).unpack) ?_
 have hh:(bA (eh st.seen) p).isSome=decide (bA st.seen p≠none):=by
  rcases oH (l:=st.seen) p with⟨h1,h2⟩|⟨r,h1,h2⟩ <;> simp[h1,h2]
 refine ah<|aj<|hy (fun _=>ab rfl)<|ai<|ae<|ah<|aj<|hy (fun _=>aa rfl)<|hy (fun _=>aM rfl)<|hy (fun _=>aD rfl jn (by decide))<|hy (fun m=>aq rfl oL (ax (m.aQ 0 rfl) rfl))<|hy (fun _=>aa rfl)<|hy (fun m=>fF (enc:=SV) rfl rfl Tryz.underlying174 jW (j1 Tryz.underlying9) (m.lV 1 rfl))<|hy (fun _=>aa rfl)<|hy (fun _=>aH rfl rfl)<|hy (fun _=>yV (aH rfl rfl) ((show Value.bool (bA (eh st.seen) p).isSome= .bool (decide (bA st.seen p≠none)) by rw[hh])))<|hy (fun _=>ab rfl)<|hy (fun _=>ab rfl)<|ai<|al (ρ' :=[(6,_),(4,_),(0,_),(1,_)]) ⟨rfl,rfl,rfl,rfl,trivial⟩<|ae<|ah<|aK<|ah<|aj<| ?_
 refine aG (X' :=bP g st::_) (fun w m=>(m.perm (ar [0,0,0,0,0] _ [_,_,_,_,_] _ rfl)).pack) ?_
 refine hy (fun _=>aa rfl)<| ?_
 refine hx (au rfl Tryz.call87 (GC) [0] rfl [] rfl ?_)
 rintro _ _ _ ⟨rfl,rfl,rfl⟩
 refine hy (fun _=>eE rfl)<|hy (fun _=>ab rfl)<|ai<|al (ρ' :=[(16,_),(6,_),(4,_),(0,_),(1,_)]) ⟨rfl,rfl,rfl,rfl,rfl,trivial⟩<|ak (X' :=[_]) (S' :=[]) (fun _ m=>m)<|ae<| ?_
 refine cj rfl (fun h1=> ?_) (fun h1=> ?_)
 ·refine ah<|aj<|hy (fun _=>ab rfl)<|ai<|ae<|aS<|bf<|ay<| ?_
  exact a6 trivial rfl rfl [0] rfl [] rfl ⟨(by rw[dZ,if_pos (by omega)]),rfl,rfl⟩
 ·refine ah<|aj<|hy (fun _=>aa rfl)<|hy (fun _=>eE rfl)<|hy (fun _=>ab rfl)<|ai<|al (ρ' :=[(20,_),(16,_),(6,_),(4,_),(0,_),(1,_)]) ⟨rfl,rfl,rfl,rfl,rfl,rfl,trivial⟩<|ae<| ?_
  refine cj rfl (fun h2=> ?_) (fun h2=> ?_)
  ·refine ah<|aj<|hy (fun _=>ab rfl)<|ai<|ae<|aS<|bf<|ay<| ?_
   exact a6 trivial rfl rfl [0] rfl [] rfl ⟨(by rw[dZ,if_neg (by omega),if_pos (Decidable.not_not.1 h2)]),rfl,rfl⟩
  ·refine aB<|aR<|ae<|ah<|aj<|hy (fun _=>ab rfl)<|ai<|ae<|aS<| ?_
   exact a6 trivial rfl rfl [0] rfl [] rfl ⟨(by rw[dZ,if_neg (by omega),if_neg (fun e=>h2 (fun h=>h e))]),rfl,rfl⟩
end Go.Proofs.YtmibdabdlgmafaaGreatDoor
end
section
set_option maxRecDepth 20000
namespace Go.Proofs.YtmibdabdlgmafaaGreatDoor
open Go.Eng Go.Hx
theorem tA{st:cU}{p:List UInt8}{r:ba}(h:bA st.seen p=some r):r∈rowsOf st:=by
 unfold rowsOf
 refine List.mem_append_left _ (List.mem_append_left _ ?_)
 exact List.mem_map.2 ⟨_,iS h,rfl⟩
def cB(st:cU)(p:List UInt8):List UInt8:=if dZ st p=0 then((bA st.seen p).map (·.l)).getD []else []
theorem sV{st:cU}{p:List UInt8}(h:dZ st p≠0):cB st p=[]:=by rw[cB,if_neg h]
theorem sf{st:cU}{p:List UInt8}{r:ba}(h:dZ st p=0)(hr:bA st.seen p=some r):cB st p=r.l:=by rw[cB,if_pos h,hr];rfl
theorem sU{st:cU}{p:List UInt8}(h:dZ st p=0):∃r,bA st.seen p=some r:=by
 unfold dZ at h
 split at h
 ·omega
 ·split at h
  ·omega
  ·rename_i h2
   cases hq:bA st.seen p with
   |none=>exact absurd hq h2
   |some r=>exact⟨r,rfl⟩
def Small(st:cU):Prop:=∀r∈rowsOf st,r.n≤1000000000
theorem Fk{g:Nat}{st:cU}{p:List UInt8}(hs:Small st):b6 Tryz.prog 90 [.pointer (some ⟨g,0,none⟩),.string (strOf p)] [bP g st] [] (fun v_ X_ S_=>∃v,v_=(.tuple #[v,.int .i64 (dZ st p)])∧X_=[bP g st,aF 5 1 v (cB st p).length (aP (cB st p))]∧S_=[]):=by
 refine aI (N:=20) Tryz.func90 rfl rfl (by simp) fun b=> ?_
 refine ah<|aj<|hy (fun _=>ab rfl)<|hy (fun _=>ab rfl)<|ai<|ae<|ah<|ah<|aj<|hy (fun _=>aa rfl)<|hy (fun _=>aa rfl)<| ?_
 refine hx (au rfl Tryz.call158 (xK) [0] rfl [] rfl ?_)
 rintro _ _ _ ⟨rfl,rfl,rfl⟩
 refine hy (fun _=>ab rfl)<|ai<|al (ρ' :=[(6,_),(5,_),(4,_),(0,_),(1,_)]) ⟨rfl,rfl,rfl,rfl,rfl,trivial⟩<|ak (X' :=[_]) (S' :=[]) (fun _ m=>m)<|ae<|ah<|aj<|hy (fun _=>aa rfl)<|hy (fun _=>dF rfl rfl)<|ai<|al (ρ' :=[(11,_),(6,_),(5,_),(4,_),(0,_),(1,_)]) ⟨rfl,rfl,rfl,rfl,rfl,rfl,trivial⟩<|ae<| ?_
 refine cj rfl (fun h=> ?_) (fun h=> ?_)
 ·rw[sV h]
  refine ah<|aj<|hy (fun _=>aa rfl)<|hy (fun _=>ab rfl)<|hy (fun _=>ab rfl)<|ai<|al (ρ' :=[(5,_),(4,_),(11,_),(6,_),(0,_),(1,_)]) ⟨rfl,rfl,rfl,rfl,rfl,rfl,trivial⟩<|ae<|aS<|ay<| ?_
  refine ak (fun w m=>m.cI (r' :=aF 5 1 (.slice none 0 0) 0 []) (.refl _ _) (Own.nil _ _ _ _) (fun k hk=>hk.elim)) ?_
  exact c9 trivial rfl rfl rfl [1,0] rfl [] rfl ⟨_,rfl,rfl,rfl⟩
 ·have h0:=Decidable.not_not.1 h
  obtain⟨r,hr⟩:=sU h0
  have hv:bA (eh st.seen) p=some r.val:=by rw[l6,hr];rfl
  rw[sf h0 hr,h0]
  have hmem:=tA hr
  obtain⟨i,hi⟩:=List.mem_iff_getElem?.1 hmem
  have hsm:=hs r hmem
  refine bd (fun w m=>(m.perm (ar [0] _ [_] _ rfl)).unpack) ?_
  refine aU (fun m=>eb ((View.ok (View.row hi)).1 _ (m.GO 4 rfl))) fun hrl=> ?_
  have hrl:=hrl.1
  refine aB<|ae<|ah<|aj<|hy (fun _=>aa rfl)<|hy (fun _=>aM rfl)<|hy (fun _=>aD rfl jn (by decide))<|hy (fun m=>aq rfl oL (ax (m.aQ 0 rfl) rfl))<|hy (fun _=>aa rfl)<|hy (fun m=>yV (fF (enc:=SV) rfl rfl Tryz.underlying174 jW (j1 Tryz.underlying9) (m.lV 1 rfl)) ((show eM false (.slice none 0 0) (bA (eh st.seen) p)= .slice r.A r.n r.c by rw[hv];rfl)))<| ?_
  refine hx (cK rfl Tryz.call117 (mo (by omega)) [] rfl (.x 4 rfl (View.row hi) .nil) ?_)
  rintro _ _ _ ⟨v,rfl,rfl,rfl⟩
  refine⟨rfl, ?_⟩
  refine aA (fun m=>(m.own 0 rfl).slice) ?_
  rintro⟨A_x,c_x,rfl,hc_x⟩
  refine aA (fun m=>(m.ord 0 rfl).2.1) fun hA_x=> ?_
  refine hy (fun _=>ab rfl)<|hy (fun _=>ab rfl)<|ai<|al (ρ' :=[(5,_),(4,_),(11,_),(6,_),(0,_),(1,_)]) ⟨rfl,rfl,rfl,rfl,rfl,rfl,trivial⟩<|ak (X' :=[_,_,_,_,_,_]) (S' :=[]) (fun _ m=>m)<|ae<|aS<| ?_
  refine ak (X' :=bP g st::_) (fun w m=>(m.perm (ar [1,1,1,1,1] _ [_,_,_,_,_] _ rfl)).pack) ?_
  exact c9 trivial rfl rfl rfl [0,0] rfl [] rfl ⟨_,rfl,(by rw[hrl]),rfl⟩
theorem D4{g:Nat}{l:List (List UInt8×Value)}{p:List UInt8}{r:ba}:b6 Tryz.prog 153 [.agg [SV p,r.val].toArray,.map (some g)] [dk SV g l] [] (fun v_ X_ S_=>v_=(.tuple #[])∧X_=[dk SV g (cq l p r.val)]∧S_=[]):=by
 refine aI (N:=9) Tryz.func153 rfl rfl (by simp) fun b=> ?_
 refine ah<|aj<| ?_
 refine hx (bu rfl (fun g2=> ?_))
 refine ai<|ak (X' :=[_,_]) (S' :=[]) (fun _ m=>m)<|ae<|aj<|hy (fun _=>aa rfl)<|hy (fun _=>aD rfl Bc (by decide))<|hy (fun m=>aq rfl lF (ax (m.aQ 0 rfl) rfl))<|hy (fun _=>aD rfl Aj (by decide))<|hy (fun m=>aq rfl cZ (ax (m.aQ 0 rfl) rfl))<| ?_
 refine cx (oK (enc:=SV) 1 rfl rfl rfl rfl Tryz.underlying174 (j1 Tryz.underlying9) ?_)
 refine ai<|al (ρ' :=[(2,_),(0,_),(1,_)]) ⟨rfl,rfl,rfl,trivial⟩<|ak (X' :=[_,_]) (S' :=[]) (fun _ m=>m)<| ?_
 exact fa trivial rfl [0] rfl [] rfl ⟨rfl,rfl,rfl⟩
theorem mq{l:dx}{p:List UInt8}{r x:ba}(h:x∈(cq l p r).map (·.2)):x∈l.map (·.2)∨x=r:=by
 induction l with
 |nil=>simp only[cq,List.map_cons,List.map_nil,List.mem_singleton]at h;exact .inr h
 |cons a q ih=>
  obtain⟨k,u⟩:=a
  simp only[cq]at h
  split at h
  ·simp only[List.map_cons,List.mem_cons]at h ⊢
   rcases h with rfl|h
   ·exact .inr rfl
   ·exact .inl (.inr h)
  ·simp only[List.map_cons,List.mem_cons]at h ⊢
   rcases h with rfl|h
   ·exact .inl (.inl rfl)
   ·rcases ih h with h|h
    ·exact .inl (.inr h)
    ·exact .inr h
def cU.wrote(st:cU)(p:List UInt8)(r:ba)(A:Option Addr)(c:Nat):cU:={st.eR with seen:=cq st.seen p r,waits:=st.waits++[.written p r],wA:=A,wc:=c}
theorem oY{st:cU}{p:List UInt8}{r:ba}{A:Option Addr}{c:Nat}:∀x∈rowsOf (st.wrote p r A c),x∈rowsOf st∨x=r:=by
 intro x hx
 unfold rowsOf cU.wrote at hx
 simp only[cU.eR,List.mem_append,List.filterMap_append]at hx
 unfold rowsOf
 simp only[List.mem_append]
 rcases hx with(h|h)|h|h
 ·rcases mq h with h|h
  ·exact .inl (.inl (.inl h))
  ·exact .inr h
 ·exact .inl (.inl (.inr h))
 ·exact .inl (.inr h)
 ·simp[iG.row]at h
  exact .inr h
theorem Gj{g:Nat}{st:cU}{p:List UInt8}{r:ba}{e:TypeId}(hp:st.cf≤1000000000000)(hw:st.waits.length≤1000000):b6 Tryz.prog 116 [.pointer (some ⟨g,0,none⟩),(iG.written p r).val] [bP g st,aF e 1 (.slice r.A r.n r.c) r.n (aP r.l)] [] (fun v_ X_ S_=>∃A c,v_=(.tuple #[])∧X_=[bP g (st.wrote p r A c)]∧S_=[]):=by
 have hsw:st.eR.waits.length=st.waits.length:=rfl
 refine aI (N:=25) Tryz.func116 rfl rfl (by simp) fun b=> ?_
 refine ah<|aj<|hy (fun _=>aa rfl)<| ?_
 refine hx (au rfl Tryz.call181 (ux (by omega)) [0] rfl [] rfl ?_)
 rintro _ _ _ ⟨rfl,rfl,rfl⟩
 refine aG (fun w m=>(m.perm (ar [0] _ [_] _ rfl)).unpack) ?_
 refine ai<|al (ρ' :=[(0,_),(1,_)]) ⟨rfl,rfl,trivial⟩<|ak (X' :=[_,_,_,_,_,_]) (S' :=[]) (fun _ m=>m)<|ae<|ah<|cu [8] [(0,some 0),(1,some 0),(2,some 0),(3,some 0),(4,some 0),(5,some 0),(6,some 0),(7,some 0),(8,none)] (by kernel_rfl) (by kernel_rfl) rfl 0<|an (aa rfl)<|an (aa rfl)<|an (aM rfl)<|an (aD rfl jn (by decide))<|b5 (fun m=>aq rfl oL (ax (m.aQ 0 rfl) rfl))<|an (ff rfl rfl)<|an (y7 rfl (by kernel_rfl))<|an (aa rfl)<| ?_
 refine di (zi rfl rfl (fun w=>by kernel_rfl) Tryz.call153 (D4) [1] rfl [] rfl ?_)
 rintro _ _ _ ⟨rfl,rfl,rfl⟩
 refine⟨(fun h=>absurd h (by decide)), ?_⟩
 refine bo<|al (ρ' :=[(0,_),(1,_)]) ⟨rfl,rfl,trivial⟩<|ak (X' :=[_,_,_,_,_,_]) (S' :=[]) (fun _ m=>m)<|ae<|aj<|hy (fun _=>aa rfl)<|hy (fun _=>aa rfl)<|hy (fun _=>aM rfl)<|hy (fun _=>aD rfl me (by decide))<|hy (fun m=>aq rfl Cp (ax (m.aQ 1 rfl) rfl))<|hy (fun _=>aa rfl)<| ?_
 refine hx (bT Tryz.underlying175 vB rfl rfl rfl (by simp[Value.cells,iG.val]) (by decide) (by decide) (fun g21=> ?_))
 have hA_b21:0<1→(some (⟨g21,0,none⟩:Addr))≠none:=fun _ h=>by cases h
 refine aG (fun w m=>m.bs 0 rfl (show _=aF 232 1 (.slice (some ⟨g21,0,none⟩) 1 1) 1 [(iG.written p r).val]from rfl)) ?_
 refine hx (bw 4 rfl rfl rfl Tryz.underlying175 Tryz.underlying175 (by exact .inl rfl) vB rfl (fun m=>Src.bW (m.ord 0 rfl)) (by simp[iG.val,Value.oneCell']) (by unfold maxLen;omega) (by omega) (fun u=> ?_))
 refine aA (fun m=>(m.own 0 rfl).slice) ?_
 rintro⟨A_d3,c_d3,rfl,hc_d3⟩
 refine aA (fun m=>(m.ord 0 rfl).2.1) fun hA_d3=> ?_
 refine hy (fun _=>aM rfl)<|hy (fun _=>aD rfl me (by decide))<| ?_
 refine cx (bU 3 rfl rfl rfl xL rfl (by first|exact Nat.le_of_ble_eq_true rfl|simp) ?_)
 refine ai<|al (ρ' :=[(0,_),(1,_)]) ⟨rfl,rfl,trivial⟩<|ak (X' :=[_,_,_,_,_,_,_]) (S' :=[]) (fun _ m=>m)<| ?_
 refine ak (fun w m=>m.bs 0 rfl (show _=aE g 177 (kW (st.wrote p r A_d3 c_d3))from by simp[kW,cU.wrote,cU.eR])) ?_
 refine ak (fun w m=>m.bs 3 rfl (show _=dk SV st.gs (eh (st.wrote p r A_d3 c_d3).seen)from congrArg (dk SV st.gs) (ph _ _ _))) ?_
 refine ak (fun w m=>m.bs 2 rfl (show _=aF 232 1 (.slice A_d3 (st.wrote p r A_d3 c_d3).waits.length c_d3) (st.wrote p r A_d3 c_d3).waits.length ((st.wrote p r A_d3 c_d3).waits.map iG.val)from by simp[cU.wrote,cU.eR])) ?_
 refine ak (X' :=dw (rowsOf (st.wrote p r A_d3 c_d3))::_) (fun w m=>(m.perm (ar [5,5] _ [_,_] _ rfl)).yz (oY)) ?_
 refine ak (X' :=bP g (st.wrote p r A_d3 c_d3)::_) (fun w m=>(m.perm (ar [3,2,3,1,0] _ [_,_,_,_,_] _ rfl)).pack) ?_
 exact fa trivial rfl [0] rfl [] rfl ⟨_,_,rfl,rfl,rfl⟩
def bJ(st:cU)(p:List UInt8)(n:Nat):Int:=if¬fj p then 1 else if st.cf=0 then 6 else if st.room<(ll st.seen:Int)-(((bA st.seen p).map (·.n)).getD 0:Nat)+n then 5 else 0
theorem yt:∀{l:dx} {m:Nat},(∀x∈l,x.2.n≤m)→ll l≤l.length*m
 | [],m,h=>by simp[ll]
 |a::q,m,h=>by
  have:=yt (l:=q) (m:=m) (fun x hx=>h x (List.mem_cons_of_mem _ hx))
  have h1:=h a (List.mem_cons_self ..)
  simp only[ll,List.map_cons,List.sum_cons,List.length_cons,Nat.add_mul]at this ⊢
  omega
structure oh(st:cU)(k:Nat):Prop where
 cf:st.cf≤1000000000000
 room:st.room≤1048576
 seen:st.seen.length≤k
 rest:st.cY.length+st.waits.length≤k
 small:∀r∈rowsOf st,r.n≤1048576
theorem oh.le{st:cU}{k k' :Nat}(h:oh st k)(hk:k≤k'):oh st k' :=⟨h.cf,h.room,Nat.le_trans h.seen hk,Nat.le_trans h.rest hk,h.small⟩
theorem oh.ll{st:cU}{k:Nat}(h:oh st k):ll st.seen≤k*1048576:=Nat.le_trans (yt (m:=1048576) (fun x hx=>h.small _ (by unfold rowsOf;exact List.mem_append_left _ (List.mem_append_left _ (List.mem_map.2 ⟨x,hx,rfl⟩))))) (Nat.mul_le_mul_right _ h.seen)
theorem oh.sm{st:cU}{k:Nat}(h:oh st k):Small st:=fun r hr=>Nat.le_trans (h.small r hr) (by decide)
theorem oh.init{n:Int}{gs gl:Nat}(h:n≤1048576):oh (lP n gs gl) 0:=⟨by simp[lP],h,Nat.le_refl _,Nat.le_refl _,fun r hr=>by simp[rowsOf,lP]at hr⟩
theorem o7(l:dx)(p:List UInt8)(r:ba):(cq l p r).length≤l.length+1:=by
 induction l with
 |nil=>simp[cq]
 |cons a q ih=>
  obtain⟨k,u⟩:=a
  simp only[cq]
  split <;> simp only[List.length_cons] <;> omega
theorem sF(l:dx)(p:List UInt8):(eG l p).length≤l.length:=by
 induction l with
 |nil=>simp[eG]
 |cons a q ih=>
  obtain⟨k,u⟩:=a
  simp only[eG]
  split <;> simp only[List.length_cons] <;> omega
theorem j3{st:cU}(h:st.cf≤1000000000000):st.eR.cf≤1000000000000:=by
 simp only[cU.eR]
 split <;> omega
theorem oh.wrote{st:cU}{k:Nat}(h:oh st k){p:List UInt8}{r:ba}(hr:r.n≤1048576)(A:Option Addr)(c:Nat):oh (st.wrote p r A c) (k+1):=by
 refine⟨j3 h.cf,h.room, ?_, ?_,fun x hx=> ?_⟩
 ·have:=o7 st.seen p r
  have:=h.seen
  show(cq st.seen p r).length≤k+1
  omega
 ·have:=h.rest
  show st.cY.length+(st.waits++[iG.written p r]).length≤k+1
  simp only[List.length_append,List.length_cons,List.length_nil]
  omega
 ·rcases oY x hx with h' |rfl
  ·exact h.small x h'
  ·exact hr
theorem Dh{g:Nat}{st:cU}{p:List UInt8}{A:Option Addr}{n c:Nat}{l:List UInt8}{k:Nat}(ok:oh st k)(hk:k≤100000)(hn:n≤1048576):b6 Tryz.prog 33 [.pointer (some ⟨g,0,none⟩),.string (strOf p),.slice A n c] [bP g st] [cn 1 A n (aP l)] (fun v_ X_ S_=>∃st1 B c1 A1 c2,v_=(.int .i64 (bJ st p n))∧X_=[bP g st1]∧S_=[]∧((bJ st p n≠0∧st1=st)∨(bJ st p n=0∧st1=st.wrote p ⟨B,n,c1,l⟩ A1 c2))):=by
 have hp:=ok.cf
 have hw:st.waits.length≤1000000:=by have:=ok.rest;omega
 have ht:ll st.seen≤1000000000000:=by have:=ok.ll;omega
 have hs:=ok.sm
 refine aI (N:=41) Tryz.func33 rfl rfl (by simp) fun b=> ?_
 refine aU (fun m=>eb (m.rd 0 rfl)) ?_
 rintro⟨hl_r,hA_r⟩
 refine ah<|aj<|hy (fun _=>ab rfl)<|ai<|ae<|ah<|aK<|ah<|aj<|hy (fun _=>aa rfl)<| ?_
 refine hx (au rfl Tryz.call115 (x8) [] rfl [] rfl ?_)
 rintro _ _ _ ⟨rfl,rfl,rfl⟩
 refine hy (fun _=>eE rfl)<|hy (fun _=>ab rfl)<|ai<|al (ρ' :=[(7,_),(6,_),(0,_),(1,_),(2,_)]) ⟨rfl,rfl,rfl,rfl,rfl,trivial⟩<|ak (X' :=[_]) (S' :=[_]) (fun _ m=>m)<|ae<| ?_
 refine cj rfl (fun h1=> ?_) (fun h1=> ?_)
 ·have e:bJ st p n=1:=by rw[bJ,if_pos h1]
  rw[e]
  refine ah<|aj<|hy (fun _=>ab rfl)<|ai<|ae<|aS<|bf<|ay<| ?_
  exact a6 trivial rfl rfl [0] rfl [] rfl ⟨_,none,0,none,0,rfl,rfl,rfl,.inl ⟨by decide,rfl⟩⟩
 ·refine ah<|aj<|hy (fun _=>aa rfl)<| ?_
  refine hx (au rfl Tryz.call87 (GC) [0] rfl [] rfl ?_)
  rintro _ _ _ ⟨rfl,rfl,rfl⟩
  refine hy (fun _=>eE rfl)<|hy (fun _=>ab rfl)<|ai<|al (ρ' :=[(11,_),(7,_),(6,_),(0,_),(1,_),(2,_)]) ⟨rfl,rfl,rfl,rfl,rfl,rfl,trivial⟩<|ak (X' :=[_]) (S' :=[_]) (fun _ m=>m)<|ae<| ?_
  refine cj rfl (fun h2=> ?_) (fun h2=> ?_)
  ·have e:bJ st p n=6:=by rw[bJ,if_neg h1,if_pos (by omega)]
   rw[e]
   refine ah<|aj<|hy (fun _=>ab rfl)<|ai<|ae<|aS<|bf<|ay<| ?_
   exact a6 trivial rfl rfl [0] rfl [] rfl ⟨_,none,0,none,0,rfl,rfl,rfl,.inl ⟨by decide,rfl⟩⟩
  ·have hwe:bJ st p n=if st.room<(ll st.seen:Int)-(((bA st.seen p).map (·.n)).getD 0:Nat)+n then 5 else 0:=by rw[bJ,if_neg h1,if_neg (by omega)]
   have hv:∃B m c0,eM false (.slice none 0 0) (bA (eh st.seen) p)= .slice B m c0∧m=((bA st.seen p).map (·.n)).getD 0∧m≤1000000000:=by
    rw[l6]
    cases hq:bA st.seen p with
    |none=>exact⟨none,0,0,rfl,rfl,by decide⟩
    |some r=>exact⟨r.A,r.n,r.c,rfl,rfl,hs r (tA hq)⟩
   obtain⟨B,m,c0,hv1,hv2,hv3⟩:=hv
   rw[←hv2]at hwe
   refine ah<|cu [1] [(0,some 0),(2,some 1),(3,some 1),(4,some 1),(5,some 1),(6,some 1),(7,some 1),(8,some 1),(10,some 1),(11,some 1),(13,some 1),(14,some 1),(15,some 1),(16,some 1),(1,none),(9,some 1),(12,some 1),(17,some 1),(18,some 1)] (by kernel_rfl) (by kernel_rfl) rfl 99<|an (aa rfl)<|an (aa rfl)<|an (aM rfl)<|an (aD rfl jn (by decide))<|b5 (fun m=>aq rfl oL (ax (show eS _ _ _ _ from m.Gc 0 rfl 0 rfl) rfl))<|an (aa rfl)<|b5 (fun m=>yV (fF (enc:=SV) rfl rfl Tryz.underlying174 jW (j1 Tryz.underlying9) (show fR _ _ _ _ from m.Gc 0 rfl 1 rfl)) (hv1))<|an (aT rfl Tryz.underlying27)<|an (aa rfl)<|an (aT rfl Tryz.underlying27)<|an (aa rfl)<|an (aM rfl)<|an (aD rfl B0 (by decide))<|b5 (fun m=>aq rfl dq (ax (show eS _ _ _ _ from m.Gc 0 rfl 0 rfl) rfl))<| ?_
   refine di (au rfl Tryz.call88 (Fu (by omega)) [0] rfl [] rfl ?_)
   rintro _ _ _ ⟨rfl,rfl,rfl⟩
   refine⟨(fun _=>wk [0] [0] rfl rfl), ?_⟩
   refine an (ca rfl rfl (bx (by omega) (by omega)))<|an (aL rfl rfl (bx (by omega) (by omega)))<|an (cy rfl rfl)<|an (ab rfl)<|bo<|al (ρ' :=[(15,_),(11,_),(7,_),(6,_),(0,_),(1,_),(2,_)]) ⟨rfl,rfl,rfl,rfl,rfl,rfl,rfl,trivial⟩<|ak (X' :=[_]) (S' :=[_]) (fun _ m=>m)<|ae<| ?_
   refine cj rfl (fun h3=> ?_) (fun h3=> ?_)
   ·rw[if_pos (by omega)]at hwe
    rw[hwe]
    refine ah<|aj<|hy (fun _=>ab rfl)<|ai<|ae<|aS<|bf<|ay<| ?_
    exact a6 trivial rfl rfl [0] rfl [] rfl ⟨_,none,0,none,0,rfl,rfl,rfl,.inl ⟨by decide,rfl⟩⟩
   ·rw[if_neg (by omega)]at hwe
    rw[hwe]
    refine aB<|aR<|ae<|ah<|aj<|hy (fun _=>aa rfl)<|hy (fun _=>aa rfl)<|hy (fun _=>aa rfl)<| ?_
    refine hx (au rfl Tryz.call117 (mo (by omega)) [] rfl [0] rfl ?_)
    rintro _ _ _ ⟨v,rfl,rfl,rfl⟩
    refine aA (fun m=>(m.own 0 rfl).slice) ?_
    rintro⟨A_x,c_x,rfl,hc_x⟩
    refine aA (fun m=>(m.ord 0 rfl).2.1) fun hA_x=> ?_
    refine hy (fun _=>yV (bQ Fb rfl rfl (by kernel_rfl) (.cons (o:=0) (sz:=1) (by kernel_rfl) rfl rfl (Nat.le_of_ble_eq_true rfl) (.cons (o:=1) (sz:=1) (by kernel_rfl) rfl rfl (Nat.le_of_ble_eq_true rfl) .nil))) ((rfl:_=Value.agg [SV p,Value.slice A_x n c_x].toArray)))<|hy (fun _=>pU rfl Tryz.underlying189 (fun _ h=>by cases h))<| ?_
    refine hx (au rfl Tryz.call116 (Gj (by omega) (by omega) (r:=⟨A_x,n,c_x,l⟩)) [1,0] rfl [] rfl ?_)
    rintro _ _ _ ⟨A2,c2,rfl,rfl,rfl⟩
    refine ai<|al (ρ' :=[(15,_),(11,_),(7,_),(6,_),(0,_),(1,_),(2,_)]) ⟨rfl,rfl,rfl,rfl,rfl,rfl,rfl,trivial⟩<|ak (X' :=[_]) (S' :=[_]) (fun _ m=>m)<|ae<|ah<|aj<|hy (fun _=>ab rfl)<|ai<|ae<|aS<| ?_
    exact a6 trivial rfl rfl [0] rfl [] rfl ⟨_,_,_,_,_,rfl,rfl,rfl,.inr ⟨rfl,rfl⟩⟩
theorem AD{g:Nat}{l:List (List UInt8×Value)}:b6 Tryz.prog 154 [.map (some g)] [dk SV g l] [] (fun v_ X_ S_=>∃g1,v_=(.map (some g1))∧X_=[dk SV g l,dk SV g1 l]∧S_=[]):=by
 refine aI (N:=9) Tryz.func154 rfl rfl (by simp) fun b=> ?_
 refine ah<|aj<|hy (fun _=>ab rfl)<|ai<|ae<|ah<|ah<|aj<|hy (fun _=>aa rfl)<|hy (fun _=>DP rfl rfl Tryz.underlying174)<|ai<|al (ρ' :=[(4,_),(2,_),(0,_)]) ⟨rfl,rfl,rfl,trivial⟩<|ae<| ?_
 refine dj rfl (rfl) ?_
 refine aB<|ae<|ah<|aj<|hy (fun _=>aa rfl)<|hy (fun _=>pU rfl Tryz.underlying174 (fun _ h=>by cases h))<| ?_
 refine hx (xb 0 rfl rfl Tryz.func209 (by kernel_rfl) (by kernel_rfl) (by kernel_rfl) (by kernel_rfl) (fun g1=> ?_))
 refine hy (fun _=>qu rfl (show _=Result.ok (Value.map (some g1)) _ by kernel_rfl))<|hy (fun _=>ab rfl)<|ai<|al (ρ' :=[(2,_),(4,_),(0,_)]) ⟨rfl,rfl,rfl,trivial⟩<|ak (X' :=[_,_]) (S' :=[]) (fun _ m=>m)<|ae<|aS<| ?_
 exact a6 trivial rfl rfl [1,0] rfl [] rfl ⟨_,rfl,rfl,rfl⟩
def cU.synced(st:cU)(gl:Nat):cU:={st.eR with gl:=gl,cY:=st.seen,waits:=[],wA:=none,wc:=0}
def da(st:cU):Int:=if st.cf=0 then 6 else 0
theorem nD{st:cU}{gl:Nat}:∀x∈rowsOf (st.synced gl),x∈rowsOf st:=by
 intro x hx
 unfold rowsOf cU.synced at hx
 simp only[cU.eR,List.filterMap_nil,List.append_nil,List.mem_append,or_self]at hx
 unfold rowsOf
 exact List.mem_append_left _ (List.mem_append_left _ hx)
theorem oh.synced{st:cU}{k:Nat}(h:oh st k)(gl:Nat):oh (st.synced gl) k:=
 ⟨j3 h.cf,h.room,h.seen,by show st.seen.length+0≤k;have:=h.seen;omega,fun x hx=>h.small x (nD x hx)⟩
theorem FI{g:Nat}{st:cU}{k:Nat}(ok:oh st k):b6 Tryz.prog 110 [.pointer (some ⟨g,0,none⟩)] [bP g st] [] (fun v_ X_ S_=>∃st1 gl,v_=(.int .i64 (da st))∧X_=[bP g st1]∧S_=[]∧((st.cf=0∧st1=st)∨(st.cf≠0∧st1=st.synced gl))):=by
 refine aI (N:=19) Tryz.func110 rfl rfl (by simp) fun b=> ?_
 refine ah<|aj<|hy (fun _=>ab rfl)<|ai<|ae<|ah<|ah<|aj<|hy (fun _=>aa rfl)<| ?_
 refine hx (au rfl Tryz.call87 (GC) [0] rfl [] rfl ?_)
 rintro _ _ _ ⟨rfl,rfl,rfl⟩
 refine hy (fun _=>eE rfl)<|ai<|al (ρ' :=[(5,_),(2,_),(0,_)]) ⟨rfl,rfl,rfl,trivial⟩<|ak (X' :=[_]) (S' :=[]) (fun _ m=>m)<|ae<| ?_
 refine cj rfl (fun h1=> ?_) (fun h1=> ?_)
 ·have h0:st.cf=0:=Decidable.not_not.1 h1
  have e:da st=6:=by rw[da,if_pos h0]
  rw[e]
  refine ah<|aj<|hy (fun _=>ab rfl)<|ai<|ae<|aS<|ay<| ?_
  exact a6 trivial rfl rfl [0] rfl [] rfl ⟨_,0,rfl,rfl,rfl,.inl ⟨h0,rfl⟩⟩
 ·have h0:st.cf≠0:=fun e=>h1 (fun h=>h e)
  have e:da st=0:=by rw[da,if_neg h0]
  rw[e]
  have hp:=ok.cf
  refine aB<|ae<|ah<|aj<|hy (fun _=>aa rfl)<| ?_
  refine hx (au rfl Tryz.call181 (ux (by omega)) [0] rfl [] rfl ?_)
  rintro _ _ _ ⟨rfl,rfl,rfl⟩
  refine aG (fun w m=>(m.perm (ar [0] _ [_] _ rfl)).unpack) ?_
  refine ai<|al (ρ' :=[(5,_),(2,_),(0,_)]) ⟨rfl,rfl,rfl,trivial⟩<|ak (X' :=[_,_,_,_,_]) (S' :=[]) (fun _ m=>m)<|ae<|ah<|aj<|hy (fun _=>aa rfl)<|hy (fun _=>aa rfl)<|hy (fun _=>aa rfl)<|hy (fun _=>aM rfl)<|hy (fun _=>aD rfl jn (by decide))<|hy (fun m=>aq rfl oL (ax (m.aQ 0 rfl) rfl))<| ?_
  refine hx (au rfl Tryz.call154 (AD) [1] rfl [] rfl ?_)
  rintro _ _ _ ⟨g1,rfl,rfl,rfl⟩
  refine hy (fun _=>aM rfl)<|hy (fun _=>aD rfl Bh (by decide))<| ?_
  refine cx (bU 2 rfl rfl rfl EZ rfl (by first|exact Nat.le_of_ble_eq_true rfl|simp) ?_)
  refine hy (fun _=>aM rfl)<|hy (fun _=>aD rfl me (by decide))<| ?_
  refine cx (bU 0 rfl rfl rfl xL rfl (by first|exact Nat.le_of_ble_eq_true rfl|simp) ?_)
  refine ai<|al (ρ' :=[(5,_),(2,_),(0,_)]) ⟨rfl,rfl,rfl,trivial⟩<|ak (X' :=[_,_,_,_,_,_]) (S' :=[]) (fun _ m=>m)<|ae<|ah<|aj<|hy (fun _=>ab rfl)<|ai<|ae<|aS<| ?_
  refine ak (fun w m=>m.cI (r' :=aF 232 1 (.slice none 0 0) 0 []) (.refl _ _) (Own.nil _ _ _ _) (fun k hk=>hk.elim)) ?_
  refine ak (fun w m=>Mem.tY (X:=[_]) (m.perm (ar [4] _ [_] _ rfl))) ?_
  refine ak (fun w m=>Mem.tY (X:=[_]) (m.perm (ar [4] _ [_] _ rfl))) ?_
  refine ak (fun w m=>m.bs 1 rfl (show _=aE g 177 (kW (st.synced g1))from rfl)) ?_
  refine ak (X' :=dw (rowsOf (st.synced g1))::_) (fun w m=>(m.perm (ar [4] _ [_] _ rfl)).yP (nD)) ?_
  refine ak (X' :=bP g (st.synced g1)::_) (fun w m=>(m.perm (ar [1,2,2,1,0] _ [_,_,_,_,_] _ rfl)).pack) ?_
  exact a6 trivial rfl rfl [0] rfl [] rfl ⟨_,_,rfl,rfl,rfl,.inr ⟨h0,rfl⟩⟩
end Go.Proofs.YtmibdabdlgmafaaGreatDoor
end
section
set_option maxRecDepth 20000
namespace Go.Proofs.YtmibdabdlgmafaaGreatDoor
open Go.Eng Go.Hx
theorem Hq(A:Option Addr)(n c:Nat)(l:List UInt8)(m:Nat)(w:World)(hr:Rd w 1 A n (aP l))(hc:n≤c)(hn:n≤140737488351232):
  Calls Tryz.prog 32 #[.slice A n c,.int .i64 (m:Int)] w fun e w' =>∃v,e= .returned v∧Go.Eng.Own w' w.heap.size 5 1 v (min n m) (aP (l.take m))∧Fr No w w' :=by
 have hl:l.length=n:=by have:=hr.1;rw[az]at this;omega
 have hrd:Rd w 1 A (min n m) (aP (l.take m)):=by
  have:=hr.take (k:=min n m) (by omega)
  have e:(aP l).take (min n m*1)=aP (l.take m):=by
   rw[aP,aP,←List.map_take,Nat.mul_one]
   congr 1
   by_cases h:m≤n
   ·congr 1;omega
   ·rw[List.take_of_length_le (by omega),List.take_of_length_le (by omega)]
  rw[e]at this
  exact this
 refine enter (N:=14) Tryz.func32 rfl rfl (by simp) ?_
 refine bq<|bE<|nq (ab rfl)<|bF<|aY<|bq<|bE<|nq (ab rfl)<|bF<|aY<|bq<|bE<|nq (aa rfl)<|nq (aa rfl)<|nq (aa rfl)<|nq (aT rfl Tryz.underlying27)<|nq (aa rfl)<|nq (zp rfl rfl)<|nq (oy rfl rfl Tryz.underlying27 dB (show((min n m:Nat):Int)=_ by omega) ((by omega)))<| ?_
 refine nx (lN rfl rfl Tryz.underlying27 Tryz.underlying27 (by exact .inl rfl) eA rfl (Own.nil w w.heap.size _ 1) (Src.bW hrd) bg (by unfold maxLen;omega) (by omega) (by omega) fun v w1 ho hf hv=> ?_)
 refine nq (ab rfl)<|bF<|cb (ag (t:=4) rfl<|ag (t:=5) rfl<|ag (t:=0) rfl<|ag (t:=1) rfl<|aJ)<|aY<|gW<| ?_
 refine gV trivial rfl rfl ⟨v,rfl, ?_,hf.mono (fun _ _ e=>e.elim)⟩
 simpa using ho
def ck(n m:Int):Int:=(if n<0 then-(n+1)else n) % m
theorem dC(n m:Int)(hm:0<m):0≤ck n m∧ck n m<m:=⟨Int.emod_nonneg _ (by omega),Int.emod_lt_of_pos _ hm⟩
theorem yR(n m:Int)(w:World)(h1:-9223372036854775808≤n)(h2:n≤9223372036854775807)(hm:0<m):
  Calls Tryz.prog 16 #[.int .i64 n,.int .i64 m] w fun e w' =>e= .returned (.int .i64 (ck n m))∧w=w' :=by
 refine enter (N:=13) Tryz.func16 rfl rfl (by simp) ?_
 refine bq<|bE<|nq (ab rfl)<|bF<|aY<|bq<|bq<|bE<|nq (aa rfl)<|nq (bC rfl rfl)<|bF<|cb (ag (t:=6) rfl<|ag (t:=4) rfl<|ag (t:=0) rfl<|ag (t:=1) rfl<|aJ)<|aY<| ?_
 refine vY rfl (fun h=> ?_) (fun h=> ?_)
 ·refine bE<|nq (aa rfl)<|nq (aL rfl rfl (bx (by omega) (by omega)))<|nq (vL rfl (bx (by omega) (by omega)))<|nq (ab rfl)<|bF<|cb (ag (t:=0) rfl<|ag (t:=6) rfl<|ag (t:=4) rfl<|ag (t:=1) rfl<|aJ)<|aY<|bq<|bE<|nq (aa rfl)<|nq (aa rfl)<|nq (gh rfl rfl (by omega) (by omega))<|nq (ab rfl)<|bF<|cb (ag (t:=4) rfl<|ag (t:=0) rfl<|ag (t:=6) rfl<|ag (t:=1) rfl<|aJ)<|aY<|gW<| ?_
  refine gV trivial rfl rfl ⟨?_,rfl⟩
  simp only[ck,if_pos h]
 ·refine gF<|aY<|bq<|bE<|nq (aa rfl)<|nq (aa rfl)<|nq (gh rfl rfl (by omega) (by omega))<|nq (ab rfl)<|bF<|cb (ag (t:=4) rfl<|ag (t:=6) rfl<|ag (t:=0) rfl<|ag (t:=1) rfl<|aJ)<|aY<|gW<| ?_
  refine gV trivial rfl rfl ⟨?_,rfl⟩
  simp only[ck,if_neg h]
theorem bytes(a:List UInt8)(w:World)(ha:a.length=32):
  Calls Tryz.prog 183 #[.agg (aP a).toArray] w fun e w' =>∃v,e= .returned v∧Go.Eng.Own w' w.heap.size 5 1 v 32 (aP a)∧Fr No w w' :=by
 refine enter (N:=16) Tryz.func183 rfl rfl (by simp) ?_
 refine bq<|bE<| ?_
 refine nx (s7 rfl fun g1 w1 hg1 hf1 hb1=> ?_)
 rw[aW]at hb1
 refine nq (ab rfl)<|bF<|aY<|bq<|bE<|nq (ab rfl)<|bF<|aY<|bq<|bq<|bE<|nq (ab rfl)<|bF<|aY<|dz<| ?_
 refine rp (fun k _=>32-k) (fun k v=>[(1,.pointer (some ⟨g1,0,none⟩)),(3,v),(4,.int .i64 (k:Nat))]) (fun k v w' =>k≤32∧Go.Eng.Own w' w1.heap.size 5 1 v k (aP (a.take k))∧Fr No w1 w') 0 (.slice none 0 0) (⟨Nat.zero_le _,Own.nil w1 w1.heap.size _ 1,Fr.refl _ _⟩) (ag (t:=1) rfl<|ag (t:=3) rfl<|ag (t:=4) rfl<|aJ) (fun k v w2 ⟨hk,ho,hf⟩=> ?_)
 refine bq<|bq<|bE<|nq (aa rfl)<|nq (bC rfl rfl)<|bF<|cb (ag (t:=6) rfl<|ag (t:=1) rfl<|ag (t:=3) rfl<|ag (t:=4) rfl<|aJ)<|aY<| ?_
 refine vY rfl (fun h=> ?_) (fun h=> ?_)
 ·have ga:=bB (l:=a) (i:=k) (by omega)
  refine gF<|aY<|bq<|dz<|bE<|nq (aa rfl)<|nq (aa rfl)<|nq (bR rfl rfl Tryz.underlying53 dB rfl (by omega))<|nq (aq rfl iv ((hb1.um hf).aw _ _ ga))<| ?_
  refine nx (oA Tryz.underlying27 eA rfl rfl rfl (by simp[Value.cells,B8]) (by decide) (by decide) fun g w3 hg hf3 hb3=> ?_)
  refine nx (lN rfl rfl Tryz.underlying27 Tryz.underlying27 (by exact .inl rfl) eA rfl (ho.um hf3) (Src.jx hb3 rfl) (bg (l:=[_])) (by unfold maxLen;omega) (by omega) (hf.dM hf3).size fun v4 w4 ho4 hf4 hv4=> ?_)
  refine nq (ab rfl)<|bF<|cb (ag (t:=3) rfl<|ag (t:=6) rfl<|ag (t:=1) rfl<|ag (t:=4) rfl<|aJ)<|gJ<|aY<|bE<|nq (aa rfl)<|nq (aL rfl rfl (bx (by omega) (by omega)))<|nq (ab rfl)<|bF<|cb (ag (t:=4) rfl<|ag (t:=3) rfl<|ag (t:=6) rfl<|ag (t:=1) rfl<|aJ)<| ?_
  refine oU (k+1) v4 (ag (t:=1) rfl<|ag (t:=3) rfl<|ag (t:=4) rfl<|aJ) (⟨by omega,by rw[ey (by omega),bz];exact ho4,(hf.dM hf3).new hf4 (fun i hi=>(ho.from hi).1)⟩) (by omega)
 ·obtain rfl:k=32:=by omega
  refine kO<|cd<|cd<|dh<|aY<|bq<|bE<|nq (aa rfl)<|nq (ab rfl)<|bF<|cb (ag (t:=2) rfl<|ag (t:=6) rfl<|ag (t:=1) rfl<|ag (t:=3) rfl<|ag (t:=4) rfl<|aJ)<|aY<|gW<| ?_
  rw[List.take_of_length_le (by omega)]at ho
  exact gV trivial rfl rfl ⟨v,rfl,ho.wide hf1.size,hf1.dM hf⟩
end Go.Proofs.YtmibdabdlgmafaaGreatDoor
end
section
namespace Go.Hx
open Go.Eng
abbrev Ge(ds:List (List UInt8)):Prop:=∀d∈ds,d.length=32
end Go.Hx
end
section
set_option maxRecDepth 20000
namespace Go.Proofs.YtmibdabdlgmafaaGreatDoor
open Go.Eng Go.Hx
end Go.Proofs.YtmibdabdlgmafaaGreatDoor
end
section
set_option maxRecDepth 20000
namespace Go.Proofs.YtmibdabdlgmafaaGreatDoor
open Go.Eng Go.Hx
theorem number(n:Nat)(w:World)(hn:n<4294967296):
  Calls Tryz.prog 160 #[.int .i64 (n:Int)] w fun e w' =>∃v,e= .returned v∧Go.Eng.Own w' w.heap.size 5 1 v 4 (aP (iW n))∧Fr No w w' :=by
 refine enter (N:=21) Tryz.func160 rfl rfl (by simp) ?_
 refine bq<|bE<|nq (ab rfl)<|bF<|aY<|bq<|bE<|nq (aa rfl)<|nq (bS rfl Tryz.underlying3 Tryz.underlying166 ((vU (by omega) (by omega))))<|nq (ab rfl)<|bF<|cb (ag (t:=3) rfl<|ag (t:=2) rfl<|ag (t:=0) rfl<|aJ)<|aY<|bq<|bE<|nq (aa rfl)<|nq (gh rfl rfl (by omega) (by omega))<|nq (bS rfl Tryz.underlying166 Tryz.underlying5 ((show IntKind.u8.wrap ((n:Int) % 256)=((UInt8.ofNat n).toNat:Int) by simp[IntKind.wrap,IntKind.signed,IntKind.bits])))<|nq (aa rfl)<|nq (jR rfl rfl (by omega) (by omega) (vU (by omega) (by omega)))<|nq (gh rfl rfl (by omega) (by omega))<|nq (bS rfl Tryz.underlying166 Tryz.underlying5 ((show IntKind.u8.wrap ((n:Int)/256 % 256)=((UInt8.ofNat (n/256)).toNat:Int) by simp[IntKind.wrap,IntKind.signed,IntKind.bits])))<|nq (aa rfl)<|nq (jR rfl rfl (by omega) (by omega) (vU (by omega) (by omega)))<|nq (gh rfl rfl (by omega) (by omega))<|nq (bS rfl Tryz.underlying166 Tryz.underlying5 ((show IntKind.u8.wrap ((n:Int)/65536 % 256)=((UInt8.ofNat (n/65536)).toNat:Int) by simp[IntKind.wrap,IntKind.signed,IntKind.bits])))<|nq (aa rfl)<|nq (jR rfl rfl (by omega) (by omega) (vU (by omega) (by omega)))<|nq (bS rfl Tryz.underlying166 Tryz.underlying5 ((show IntKind.u8.wrap ((n:Int)/16777216)=((UInt8.ofNat (n/16777216)).toNat:Int) by simp[IntKind.wrap,IntKind.signed,IntKind.bits])))<| ?_
 refine nx (oA Tryz.underlying27 eA rfl rfl rfl (by simp[Value.cells,B8]) (by decide) (by decide) fun g w1 hg hf1 hb1=> ?_)
 refine nq (ab rfl)<|bF<|cb (ag (t:=2) rfl<|ag (t:=3) rfl<|ag (t:=0) rfl<|aJ)<|aY<|gW<| ?_
 exact gV trivial rfl rfl ⟨_,rfl,Own.made hb1 hg (Nat.le_refl _) (by decide) rfl,hf1⟩
end Go.Proofs.YtmibdabdlgmafaaGreatDoor
end
section
set_option maxRecDepth 20000
namespace Go.Proofs.YtmibdabdlgmafaaGreatDoor
open Go.Eng Go.Hx
theorem Fq{A:Option Addr}{n c:Nat}{l:List UInt8}{m:Nat}(hc:n≤c)(hn:n≤140737488351232):b6 Tryz.prog 32 [.slice A n c,.int .i64 (m:Int)] [] [cn 1 A n (aP l)] (fun v_ X_ S_=>∃v,v_=v∧X_=[aF 5 1 v (min n m) (aP (l.take m))]∧S_=[]):=by
 exact jQ fun mm=>Calls.mono (Hq A n c l m _ (mm.rd 0 rfl) hc hn) (fun e w' ⟨v,h,ho,hf⟩=>⟨v,v,_,_,_,_,h,⟨v,rfl,rfl,rfl⟩,ho,hf⟩)
theorem jt{n m:Int}(h1:-9223372036854775808≤n)(h2:n≤9223372036854775807)(hm:0<m):b6 Tryz.prog 16 [.int .i64 n,.int .i64 m] [] [] (fun v_ X_ S_=>v_=(.int .i64 (ck n m))∧X_=[]∧S_=[]):=by
 exact iR fun mm=>Calls.mono (yR n m _ h1 h2 hm) (fun e w' ⟨h,hw⟩=>⟨_,h,⟨rfl,rfl,rfl⟩,hw▸Fr.refl _ _⟩)
theorem zB{A:Option Addr}{n c:Nat}{l:List UInt8}(hn:n≤70368744177664):b6 Tryz.prog 189 [.slice A n c] [] [cn 1 A n (aP l)] (fun v_ X_ S_=>∃v,v_=v∧X_=[aF 5 1 v (n+4) (aP (yf l))]∧S_=[]):=by
 exact jQ fun m=>Calls.mono (AA A n c l _ (m.rd 0 rfl) hn) (fun e w' ⟨v,h,ho,hf⟩=>⟨v,v,_,_,_,_,h,⟨v,rfl,rfl,rfl⟩,ho,hf⟩)
theorem AQ{n:Nat}(hn:n<4294967296):b6 Tryz.prog 160 [.int .i64 (n:Int)] [] [] (fun v_ X_ S_=>∃v,v_=v∧X_=[aF 5 1 v 4 (aP (iW n))]∧S_=[]):=by
 exact jQ fun m=>Calls.mono (number n _ hn) (fun e w' ⟨v,h,ho,hf⟩=>⟨v,v,_,_,_,_,h,⟨v,rfl,rfl,rfl⟩,ho,hf⟩)
end Go.Proofs.YtmibdabdlgmafaaGreatDoor
end
section
set_option maxRecDepth 20000
namespace Go.Proofs.YtmibdabdlgmafaaGreatDoor
open Go.Eng Go.Hx
def rY(l:dx):iG→dx
 | .written p r=>cq l p r
 | .renamed a c=>match bA l a with
  |none=>l
  |some r=>cq (eG l a) c r
 | .removed p=>eG l p
theorem DI{g:Nat}{l:dx}{a c:List UInt8}:b6 Tryz.prog 337 [.agg [SV a,SV c].toArray,.map (some g)] [dk SV g (eh l)] [] (fun v_ X_ S_=>v_=(.tuple #[])∧X_=[dk SV g (eh (rY l (.renamed a c)))]∧S_=[]):=by
 refine aI (N:=21) Tryz.func337 rfl rfl (by simp) fun b=> ?_
 refine ah<|aj<| ?_
 refine hx (bu rfl (fun g2=> ?_))
 refine aG (fun w m=>m.bs 0 rfl (show _=aE g2 257 [SV a,SV c]from congrArg (aE _ _) (aW _))) ?_
 rcases oH (l:=l) a with⟨h1,h2⟩|⟨r,h1,h2⟩
 ·refine ai<|ak (X' :=[_,_]) (S' :=[]) (fun _ m=>m)<|ae<|ah<|aj<|hy (fun _=>aa rfl)<|hy (fun _=>aD rfl rL (by decide))<|hy (fun m=>aq rfl lF (ax (m.aQ 0 rfl) (i:=0) rfl))<|hy (fun m=>yV (fF (enc:=SV) rfl rfl Tryz.underlying174 jW (j1 Tryz.underlying9) (m.lV 1 rfl)) ((show eM true (.slice none 0 0) (bA (eh l) a)= .tuple #[.slice none 0 0,.bool false] by rw[h2];rfl)))<|hy (fun _=>aa rfl)<|hy (fun _=>aH rfl rfl)<|hy (fun _=>aH rfl rfl)<|hy (fun _=>ab rfl)<|hy (fun _=>ab rfl)<|ai<|al (ρ' :=[(5,_),(4,_),(2,_),(0,_),(1,_)]) ⟨rfl,rfl,rfl,rfl,rfl,trivial⟩<|ae<|ah<|aj<|hy (fun _=>aa rfl)<|ai<|ae<| ?_
  refine dj rfl (rfl) ?_
  refine aB<| ?_
  have e:rY l (.renamed a c)=l:=by rw[rY,h1]
  rw[e]
  exact fa trivial rfl [1] rfl [] rfl ⟨rfl,rfl,rfl⟩
 ·refine ai<|ae<|ah<|aj<|hy (fun _=>aa rfl)<|hy (fun _=>aD rfl rL (by decide))<|hy (fun m=>aq rfl lF (ax (m.aQ 0 rfl) rfl))<|hy (fun m=>yV (fF (enc:=SV) rfl rfl Tryz.underlying174 jW (j1 Tryz.underlying9) (m.lV 1 rfl)) ((show eM true (.slice none 0 0) (bA (eh l) a)= .tuple #[r.val,.bool true] by rw[h2];rfl)))<|hy (fun _=>aa rfl)<|hy (fun _=>aH rfl rfl)<|hy (fun _=>aH rfl rfl)<|hy (fun _=>ab rfl)<|hy (fun _=>ab rfl)<|ai<|al (ρ' :=[(5,_),(4,_),(2,_),(0,_),(1,_)]) ⟨rfl,rfl,rfl,rfl,rfl,trivial⟩<|ae<|ah<|aj<|hy (fun _=>aa rfl)<|ai<|ae<| ?_
  refine gS rfl (rfl) ?_
  refine ah<|aj<|hy (fun _=>aa rfl)<|hy (fun _=>aD rfl rL (by decide))<|hy (fun m=>aq rfl lF (ax (m.aQ 0 rfl) (i:=0) rfl))<| ?_
  refine cx (wb (enc:=SV) 1 rfl rfl rfl Tryz.underlying174 (j1 Tryz.underlying9) ?_)
  refine ai<|al (ρ' :=[(13,_),(5,_),(4,_),(2,_),(0,_),(1,_)]) ⟨rfl,rfl,rfl,rfl,rfl,rfl,trivial⟩<|ak (X' :=[_,_]) (S' :=[]) (fun _ m=>m)<|ae<|aj<|hy (fun _=>aa rfl)<|hy (fun _=>aD rfl B1 (by decide))<|hy (fun m=>aq rfl lF (ax (m.aQ 1 rfl) (i:=1) rfl))<|hy (fun _=>aa rfl)<| ?_
  refine cx (oK (enc:=SV) 0 rfl rfl rfl rfl Tryz.underlying174 (j1 Tryz.underlying9) ?_)
  refine ai<|al (ρ' :=[(13,_),(5,_),(4,_),(2,_),(0,_),(1,_)]) ⟨rfl,rfl,rfl,rfl,rfl,rfl,trivial⟩<|ak (X' :=[_,_]) (S' :=[]) (fun _ m=>m)<| ?_
  have e:cq (eG (eh l) a) c r.val=eh (rY l (.renamed a c)):=by rw[rY,h1,sS,ph]
  refine ak (fun w m=>m.bs 0 rfl (show _=dk SV g (eh (rY l (.renamed a c)))from congrArg (dk SV g) e)) ?_
  exact fa trivial rfl [0] rfl [] rfl ⟨rfl,rfl,rfl⟩
def cU.kI(st:cU)(c:iG)(A:Option Addr)(k:Nat):cU:={st.eR with seen:=rY st.seen c,waits:=st.waits++[c],wA:=A,wc:=k}
theorem mz{l:dx}{p:List UInt8}{x:ba}(h:x∈(eG l p).map (·.2)):x∈l.map (·.2):=by
 induction l with
 |nil=>exact h
 |cons a q ih=>
  obtain⟨k,u⟩:=a
  simp only[eG]at h
  split at h
  ·exact List.mem_cons_of_mem _ h
  ·simp only[List.map_cons,List.mem_cons]at h ⊢
   rcases h with rfl|h
   ·exact .inl rfl
   ·exact .inr (ih h)
theorem yb{l:dx}{c:iG}(hc:c.row=none){x:ba}(h:x∈(rY l c).map (·.2)):x∈l.map (·.2):=by
 cases c with
 |written p r=>cases hc
 |renamed a b=>
  simp only[rY]at h
  split at h
  ·exact h
  ·rename_i r hr
   rcases mq h with h|h
   ·exact mz h
   ·exact h▸List.mem_map.2 ⟨_,iS hr,rfl⟩
 |removed p=>exact mz h
theorem Bj(l:dx)(c:iG):(rY l c).length≤l.length+1:=by
 cases c with
 |written p r=>exact o7 l p r
 |renamed a b=>
  simp only[rY]
  split
  ·omega
  ·rename_i r hr
   have h1:=o7 (eG l a) b r
   have h2:=sF l a
   omega
 |removed p=>have h2:=sF l p;show(eG l p).length≤_;omega
theorem sv{st:cU}{c:iG}{A:Option Addr}{k:Nat}(hc:c.row=none):∀x∈rowsOf (st.kI c A k),x∈rowsOf st:=by
 intro x hx
 unfold rowsOf cU.kI at hx
 simp only[cU.eR,List.mem_append,List.filterMap_append]at hx
 unfold rowsOf
 simp only[List.mem_append]
 rcases hx with(h|h)|h|h
 ·exact .inl (.inl (yb hc h))
 ·exact .inl (.inr h)
 ·exact .inr h
 ·simp[hc]at h
theorem oh.kI{st:cU}{k:Nat}(h:oh st k){c:iG}(hc:c.row=none)(A:Option Addr)(j:Nat):oh (st.kI c A j) (k+1):=by
 refine⟨j3 h.cf,h.room, ?_, ?_,fun x hx=>h.small x (sv hc x hx)⟩
 ·have:=Bj st.seen c
  have:=h.seen
  show(rY st.seen c).length≤k+1
  omega
 ·have:=h.rest
  show st.cY.length+(st.waits++[c]).length≤k+1
  simp only[List.length_append,List.length_cons,List.length_nil]
  omega
theorem Gt{g:Nat}{st:cU}{a c:List UInt8}(hp:st.cf≤1000000000000)(hw:st.waits.length≤1000000):b6 Tryz.prog 116 [.pointer (some ⟨g,0,none⟩),(iG.renamed a c).val] [bP g st] [] (fun v_ X_ S_=>∃A k,v_=(.tuple #[])∧X_=[bP g (st.kI (.renamed a c) A k)]∧S_=[]):=by
 have hsw:st.eR.waits.length=st.waits.length:=rfl
 refine aI (N:=25) Tryz.func116 rfl rfl (by simp) fun b=> ?_
 refine ah<|aj<|hy (fun _=>aa rfl)<| ?_
 refine hx (au rfl Tryz.call181 (ux (by omega)) [0] rfl [] rfl ?_)
 rintro _ _ _ ⟨rfl,rfl,rfl⟩
 refine aG (fun w m=>(m.perm (ar [0] _ [_] _ rfl)).unpack) ?_
 refine ai<|al (ρ' :=[(0,_),(1,_)]) ⟨rfl,rfl,trivial⟩<|ak (X' :=[_,_,_,_,_]) (S' :=[]) (fun _ m=>m)<|ae<|ah<|cu [8] [(0,some 0),(1,some 0),(2,some 0),(3,some 0),(4,some 0),(5,some 0),(6,some 0),(7,some 0),(8,none)] (by kernel_rfl) (by kernel_rfl) rfl 0<|an (aa rfl)<|an (aa rfl)<|an (aM rfl)<|an (aD rfl jn (by decide))<|b5 (fun m=>aq rfl oL (ax (m.aQ 0 rfl) rfl))<|an (ff rfl rfl)<|an (y7 rfl (by kernel_rfl))<|an (aa rfl)<| ?_
 refine di (zi rfl rfl (fun w=>by kernel_rfl) Tryz.call337 (DI) [1] rfl [] rfl ?_)
 rintro _ _ _ ⟨rfl,rfl,rfl⟩
 refine⟨(fun h=>absurd h (by decide)), ?_⟩
 refine bo<|al (ρ' :=[(0,_),(1,_)]) ⟨rfl,rfl,trivial⟩<|ak (X' :=[_,_,_,_,_]) (S' :=[]) (fun _ m=>m)<|ae<|aj<|hy (fun _=>aa rfl)<|hy (fun _=>aa rfl)<|hy (fun _=>aM rfl)<|hy (fun _=>aD rfl me (by decide))<|hy (fun m=>aq rfl Cp (ax (m.aQ 1 rfl) rfl))<|hy (fun _=>aa rfl)<| ?_
 refine hx (bT Tryz.underlying175 vB rfl rfl rfl (by simp[Value.cells,iG.val]) (by decide) (by decide) (fun g21=> ?_))
 have hA_b21:0<1→(some (⟨g21,0,none⟩:Addr))≠none:=fun _ h=>by cases h
 refine aG (fun w m=>m.bs 0 rfl (show _=aF 232 1 (.slice (some ⟨g21,0,none⟩) 1 1) 1 [((iG.renamed a c)).val]from rfl)) ?_
 refine hx (bw 4 rfl rfl rfl Tryz.underlying175 Tryz.underlying175 (by exact .inl rfl) vB rfl (fun m=>Src.bW (m.ord 0 rfl)) (by simp[iG.val,Value.oneCell']) (by unfold maxLen;omega) (by omega) (fun u=> ?_))
 refine aA (fun m=>(m.own 0 rfl).slice) ?_
 rintro⟨A_d3,c_d3,rfl,hc_d3⟩
 refine aA (fun m=>(m.ord 0 rfl).2.1) fun hA_d3=> ?_
 refine hy (fun _=>aM rfl)<|hy (fun _=>aD rfl me (by decide))<| ?_
 refine cx (bU 3 rfl rfl rfl xL rfl (by first|exact Nat.le_of_ble_eq_true rfl|simp) ?_)
 refine ai<|al (ρ' :=[(0,_),(1,_)]) ⟨rfl,rfl,trivial⟩<|ak (X' :=[_,_,_,_,_,_]) (S' :=[]) (fun _ m=>m)<| ?_
 refine ak (fun w m=>m.bs 0 rfl (show _=aE g 177 (kW (st.kI ((iG.renamed a c)) A_d3 c_d3))from by simp[kW,cU.kI,cU.eR])) ?_
 refine ak (fun w m=>m.bs 3 rfl (show _=dk SV st.gs (eh (st.kI ((iG.renamed a c)) A_d3 c_d3).seen)from rfl)) ?_
 refine ak (fun w m=>m.bs 2 rfl (show _=aF 232 1 (.slice A_d3 (st.kI ((iG.renamed a c)) A_d3 c_d3).waits.length c_d3) (st.kI ((iG.renamed a c)) A_d3 c_d3).waits.length ((st.kI ((iG.renamed a c)) A_d3 c_d3).waits.map iG.val)from by simp[cU.kI,cU.eR])) ?_
 refine ak (X' :=dw (rowsOf (st.kI ((iG.renamed a c)) A_d3 c_d3))::_) (fun w m=>(m.perm (ar [5] _ [_] _ rfl)).yP ((sv rfl))) ?_
 refine ak (X' :=bP g (st.kI ((iG.renamed a c)) A_d3 c_d3)::_) (fun w m=>(m.perm (ar [3,2,3,1,0] _ [_,_,_,_,_] _ rfl)).pack) ?_
 exact fa trivial rfl [0] rfl [] rfl ⟨_,_,rfl,rfl,rfl⟩
def bV(st:cU)(a c:List UInt8):Int:=if¬fj c then 1 else dZ st a
theorem AH{g:Nat}{st:cU}{a c:List UInt8}{k:Nat}(ok:oh st k)(hk:k≤100000):b6 Tryz.prog 108 [.pointer (some ⟨g,0,none⟩),.string (strOf a),.string (strOf c)] [bP g st] [] (fun v_ X_ S_=>∃st1 A j,v_=(.int .i64 (bV st a c))∧X_=[bP g st1]∧S_=[]∧((bV st a c≠0∧st1=st)∨(bV st a c=0∧st1=st.kI (.renamed a c) A j))):=by
 have hp:=ok.cf
 have hw:st.waits.length≤1000000:=by have:=ok.rest;omega
 refine aI (N:=23) Tryz.func108 rfl rfl (by simp) fun b=> ?_
 refine ah<|aj<|hy (fun _=>ab rfl)<|ai<|ae<|ah<|ah<|aj<|hy (fun _=>aa rfl)<| ?_
 refine hx (au rfl Tryz.call115 (x8) [] rfl [] rfl ?_)
 rintro _ _ _ ⟨rfl,rfl,rfl⟩
 refine hy (fun _=>eE rfl)<|ai<|al (ρ' :=[(10,_),(6,_),(0,_),(1,_),(2,_)]) ⟨rfl,rfl,rfl,rfl,rfl,trivial⟩<|ak (X' :=[_]) (S' :=[]) (fun _ m=>m)<|ae<| ?_
 refine cj rfl (fun h1=> ?_) (fun h1=> ?_)
 ·have e:bV st a c=1:=by rw[bV,if_pos h1]
  rw[e]
  refine ah<|aj<|hy (fun _=>ab rfl)<|ai<|ae<|aS<|ay<| ?_
  exact a6 trivial rfl rfl [0] rfl [] rfl ⟨_,none,0,rfl,rfl,rfl,.inl ⟨by decide,rfl⟩⟩
 ·have e:bV st a c=dZ st a:=by rw[bV,if_neg h1]
  rw[e]
  refine aB<|ae<|ah<|ah<|aj<|hy (fun _=>aa rfl)<|hy (fun _=>aa rfl)<| ?_
  refine hx (au rfl Tryz.call158 (xK) [0] rfl [] rfl ?_)
  rintro _ _ _ ⟨rfl,rfl,rfl⟩
  refine hy (fun _=>ab rfl)<|ai<|al (ρ' :=[(7,_),(10,_),(6,_),(0,_),(1,_),(2,_)]) ⟨rfl,rfl,rfl,rfl,rfl,rfl,trivial⟩<|ak (X' :=[_]) (S' :=[]) (fun _ m=>m)<|ae<|ah<|aj<|hy (fun _=>aa rfl)<|hy (fun _=>dF rfl rfl)<|ai<|al (ρ' :=[(15,_),(7,_),(10,_),(6,_),(0,_),(1,_),(2,_)]) ⟨rfl,rfl,rfl,rfl,rfl,rfl,rfl,trivial⟩<|ae<| ?_
  refine cj rfl (fun h2=> ?_) (fun h2=> ?_)
  ·refine ah<|aj<|hy (fun _=>aa rfl)<|hy (fun _=>ab rfl)<|ai<|al (ρ' :=[(6,_),(15,_),(7,_),(10,_),(0,_),(1,_),(2,_)]) ⟨rfl,rfl,rfl,rfl,rfl,rfl,rfl,trivial⟩<|ae<|aS<|ay<| ?_
   exact a6 trivial rfl rfl [0] rfl [] rfl ⟨_,none,0,rfl,rfl,rfl,.inl ⟨h2,rfl⟩⟩
  ·have h0:=Decidable.not_not.1 h2
   rw[h0]
   refine aB<|ae<|ah<|aj<|hy (fun _=>aa rfl)<|hy (fun _=>aa rfl)<|hy (fun _=>aa rfl)<|hy (fun _=>yV (bQ EO rfl rfl (by kernel_rfl) (.cons (o:=0) (sz:=1) (by kernel_rfl) rfl rfl (Nat.le_of_ble_eq_true rfl) (.cons (o:=1) (sz:=1) (by kernel_rfl) rfl rfl (Nat.le_of_ble_eq_true rfl) .nil))) ((rfl:_=Value.agg [SV a,SV c].toArray)))<|hy (fun _=>yV (pU rfl Tryz.underlying257 (fun _ h=>by cases h)) ((rfl:_=(iG.renamed a c).val)))<| ?_
   refine hx (au rfl Tryz.call116 (Gt (by omega) (by omega)) [0] rfl [] rfl ?_)
   rintro _ _ _ ⟨A,k2,rfl,rfl,rfl⟩
   refine ai<|al (ρ' :=[(15,_),(7,_),(10,_),(6,_),(0,_),(1,_),(2,_)]) ⟨rfl,rfl,rfl,rfl,rfl,rfl,rfl,trivial⟩<|ak (X' :=[_]) (S' :=[]) (fun _ m=>m)<|ae<|ah<|aj<|hy (fun _=>ab rfl)<|ai<|ae<|aS<| ?_
   exact a6 trivial rfl rfl [0] rfl [] rfl ⟨_,_,_,rfl,rfl,rfl,.inr ⟨rfl,rfl⟩⟩
end Go.Proofs.YtmibdabdlgmafaaGreatDoor
end
section
namespace Go.Eng
open Go.RowKit Go.ChangeShapes Go.WideShapes
inductive Cell
 |v (x:Value)
 |s (sz:Nat) (A:Option Addr) (n c:Nat) (xs:List Cell)
def Cell.val:Cell→Value
 | .v x=>x
 | .s _ A n c _=>.slice A n c
mutual
def Cell.cR:Cell→Nat→Prop
 | .v _=>fun _=>False
 | .s _ A _ _ xs=>fun k=>(xs≠ []∧∃a,A=some a∧k=a.block)∨vW xs k
def vW:List Cell→Nat→Prop
 | []=>fun _=>False
 |x::r=>fun k=>x.cR k∨vW r k
end
mutual
def Cell.holds(w:World):Cell→Prop
 | .v _=>True
 | .s sz A n c xs=>Rd w sz A n (xs.map Cell.val)∧n≤c∧im w xs
def im(w:World):List Cell→Prop
 | []=>True
 |x::r=>x.holds w∧im w r
end
theorem fy{w:World}:∀{xs:List Cell},im w xs↔∀x∈xs,x.holds w
 | []=>by simp[im]
 |x::r=>by simp only[im,fy (xs:=r),List.mem_cons,forall_eq_or_imp]
mutual
theorem Cell.gx{S:Nat→Prop}{w w' :World}(f:Fr S w w'):∀(c:Cell),(∀k,c.cR k→¬S k)→c.holds w→c.holds w'
 | .v _,_,_=>trivial
 | .s sz A n c xs,h,hh=>by
  obtain⟨h1,h2,h3⟩:=hh
  refine⟨Rd.gx h1 f (fun k hk=>h k ?_),h2,B9 f xs (fun k hk=>h k (.inr hk)) h3⟩
  obtain⟨hne,a,ha,hk⟩:=hk
  exact .inl ⟨fun e=>hne (by rw[e];rfl),a,ha,hk⟩
theorem B9{S:Nat→Prop}{w w' :World}(f:Fr S w w'):∀(xs:List Cell),(∀k,vW xs k→¬S k)→im w xs→im w' xs
 | [],_,_=>trivial
 |x::r,h,hh=>⟨Cell.gx f x (fun k hk=>h k (.inl hk)) hh.1,B9 f r (fun k hk=>h k (.inr hk)) hh.2⟩
end
mutual
theorem Cell.low{w:World}:∀(c:Cell) {k:Nat},c.holds w→c.cR k→k<w.heap.size
 | .v _,_,_,h=>h.elim
 | .s sz A n c xs,k,hh,hk=>by
  obtain⟨h1,h2,h3⟩:=hh
  rcases hk with⟨hne,a,ha,hk⟩|hk
  ·exact(cn sz A n (xs.map Cell.val)).low h1 ⟨fun e=>hne (List.map_eq_nil_iff.1 e),a,ha,hk⟩
  ·exact Fh xs h3 hk
theorem Fh{w:World}:∀(xs:List Cell) {k:Nat},im w xs→vW xs k→k<w.heap.size
 | [],_,_,h=>h.elim
 |x::r,k,hh,hk=>by
  rcases hk with hk|hk
  ·exact Cell.low x hh.1 hk
  ·exact Fh r hh.2 hk
end
def vP(c:Cell):bc:=⟨c.cR,fun w=>c.holds w,fun f h x=>c.gx f h x,fun x hk=>c.low x hk⟩
theorem View.Gx{sz n c:Nat}{A:Option Addr}{xs:List Cell}:View (vP (.s sz A n c xs)) (cn sz A n (xs.map Cell.val)):=
 .of (fun w h=>h.1) (fun k hk=>by
  obtain⟨hne,a,ha,hk⟩:=hk
  exact .inl ⟨fun e=>hne (by rw[e];rfl),a,ha,hk⟩)
inductive Ty(P:Program):TypeId→List Cell→Prop
 |int {t:TypeId} {k:IntKind} {z:Int} (ht:P.underlying t=some (.int k)) (hw:(Lit.int k z).wf=true):Ty P t [.v (.int k z)]
 |bool {t:TypeId} {b:Bool} (ht:P.underlying t=some .bool):Ty P t [.v (.bool b)]
 |str {t:TypeId} {s:List UInt8} (ht:P.underlying t=some .string) (hs:s.length≤140737488351232):Ty P t [.v (.string (strOf s))]
 |slice {t e:TypeId} {A:Option Addr} {n c:Nat} {xs:List Cell} (ht:P.underlying t=some (.slice e)) (hc:n≤c) (hn:n*P.bytesOf e≤140737488351232) (hl:xs.length=n*P.cellsOf e)
   (h:∀i,i<n→Ty P e ((xs.drop (i*P.cellsOf e)).take (P.cellsOf e))):Ty P t [.s (P.cellsOf e) A n c xs]
 |arr {t e:TypeId} {n:Nat} {xs:List Cell} (ht:P.underlying t=some (.array n e)) (hl:xs.length=P.cellsOf t) (h:∀i,i<n→Ty P e ((xs.drop (i*P.cellsOf e)).take (P.cellsOf e))):Ty P t xs
 |struct {t:TypeId} {fs:Array Field} {xs:List Cell} (ht:P.underlying t=some (.struct fs)) (hl:xs.length=P.cellsOf t) (h:∀(i:Nat) (f:Field),fs[i]? =some f→Ty P f.type ((xs.drop f.offset).take (P.cellsOf f.type))):Ty P t xs
def iz(P:Program):List Field→Nat→Nat→Bool
 | [],o,e=>o == e
 |f::r,o,e=>f.offset == o && iz P r (o+P.cellsOf f.type) e
def parts(P:Program):Nat→TypeId→Bool
 |0,_=>false
 |n+1,t=>match P.underlying t with
  |some (.int _)|some .bool|some .string=>true
  |some (.slice e)=>parts P n e && decide (0<P.cellsOf e)
  |some (.array m e)=>parts P n e && (P.cellsOf t == m*P.cellsOf e)
  |some (.struct fs)=>fs.toList.all (fun f=>parts P n f.type) && iz P fs.toList 0 (P.cellsOf t)
  |_=>false
section
variable{H:Type}{enc:TypeId×Value→H}{P:Program}{w:World}{base:Nat}{spare:Nat→Bool}{held:Bool}
theorem wE{b:Nat}{a:Addr}{n:Nat}{cs:List Value}(h:w.cells? b a n=some cs):cs.length=n∧∀j u,cs[j]? =some u→w.cell? (a.add j)=some u:=by
 obtain⟨hb,hl,hcell⟩:=World.cells?_some h
 refine⟨hl,fun j u hu=> ?_⟩
 have hj:j<n:=by rw[←hl];exact(List.getElem?_eq_some_iff.1 hu).1
 rw[hcell j hj,hu]
theorem gO{e:TypeId}{d:DataW H}{n:Nat}:∀{ds:List (DataW H)},d∈ds→n∈d.weights P e→n∈DataW.weightsAll P e ds
 | [],h,_=>by cases h
 |a::r,h,hn=>by
  simp only[DataW.weightsAll,List.mem_append]
  rcases List.mem_cons.1 h with rfl|h
  ·exact .inl hn
  ·exact .inr (gO h hn)
theorem pieces{sz:Nat}{Q:List Cell→Prop}{R:Nat→List Value→Prop}:∀(m:Nat),(∀i,i<m→∃ys:List Cell,ys.length=sz∧Q ys∧R i (ys.map Cell.val)∧im w ys)→
  ∃xs:List Cell,xs.length=m*sz∧(∀i,i<m→Q ((xs.drop (i*sz)).take sz)∧R i (((xs.drop (i*sz)).take sz).map Cell.val))∧im w xs
 |0,_=>⟨[],by simp,fun i hi=>absurd hi (by omega),trivial⟩
 |m+1,h=>by
  obtain⟨xs,h1,h2,h3⟩:=pieces m (fun i hi=>h i (by omega))
  obtain⟨ys,h4,h5,h6,h7⟩:=h m (by omega)
  have hlen:(m+1)*sz=m*sz+sz:=by rw[Nat.add_mul,Nat.one_mul]
  refine⟨xs++ys,by rw[List.length_append,h1,h4,hlen],fun i hi=> ?_,fy.2 fun x hx=> ?_⟩
  ·by_cases hm:i=m
   ·subst hm
    have e:((xs++ys).drop (i*sz)).take sz=ys:=by
     rw[←h1,List.drop_left,List.take_of_length_le (by omega)]
    rw[e]
    exact⟨h5,h6⟩
   ·have hi' :i<m:=by omega
    have hle:i*sz+sz≤m*sz:=by
     have:=Nat.mul_le_mul_right sz (show i+1≤m by omega)
     rwa [Nat.add_mul,Nat.one_mul]at this
    have e:((xs++ys).drop (i*sz)).take sz=(xs.drop (i*sz)).take sz:=by
     rw[List.drop_append_of_le_length (by omega),List.take_append_of_le_length (by rw[List.length_drop];omega)]
    rw[e]
    exact h2 i hi'
  ·rcases List.mem_append.1 hx with hx|hx
   ·exact fy.1 h3 x hx
   ·exact fy.1 h7 x hx
theorem mI{xs:List Value}{sz i j:Nat}(hj:j<sz):((xs.drop (i*sz)).take sz)[j]? =xs[i*sz+j]? :=by
 rw[List.getElem?_take,if_pos hj,List.getElem?_drop]
theorem lv{cs:List Value}:∀(fs:List Field) (o e:Nat),iz P fs o e=true→(∀f∈fs,∃ys:List Cell,ys.length=P.cellsOf f.type∧Ty P f.type ys∧ys.map Cell.val=(cs.drop f.offset).take (P.cellsOf f.type)∧im w ys)→
  o≤e∧∃xs:List Cell,xs.length=e-o∧xs.map Cell.val=(cs.drop o).take (e-o)∧im w xs∧∀f∈fs,o≤f.offset∧Ty P f.type ((xs.drop (f.offset-o)).take (P.cellsOf f.type))
 | [],o,e,hc,_=>by
  have:o=e:=by simpa[iz]using hc
  subst this
  exact⟨Nat.le_refl _,[],by simp,by simp,trivial,by simp⟩
 |f::r,o,e,hc,h=>by
  simp only[iz,Bool.and_eq_true,beq_iff_eq]at hc
  obtain⟨h0,hc⟩:=hc
  obtain⟨hle,xs,h1,h2,h3,h4⟩:=lv r _ e hc (fun g hg=>h g (List.mem_cons_of_mem _ hg))
  obtain⟨ys,h5,h6,h7,h8⟩:=h f (List.mem_cons_self ..)
  rw[h0]at h7
  refine⟨by omega,ys++xs,by rw[List.length_append,h1,h5];omega, ?_,fy.2 fun x hx=> ?_,fun g hg=> ?_⟩
  ·rw[List.map_append,h7,h2,←List.drop_drop,show e-o=P.cellsOf f.type+(e-(o+P.cellsOf f.type)) by omega,List.take_add]
  ·rcases List.mem_append.1 hx with hx|hx
   ·exact fy.1 h8 x hx
   ·exact fy.1 h3 x hx
  ·rcases List.mem_cons.1 hg with rfl|hg
   ·refine⟨by omega, ?_⟩
    rw[h0,Nat.sub_self,List.drop_zero,←h5,List.take_left]
    exact h6
   ·obtain⟨h9,h10⟩:=h4 g hg
    refine⟨by omega, ?_⟩
    have e1:(ys++xs).drop (g.offset-o)=xs.drop (g.offset-(o+P.cellsOf f.type)):=by
     rw[List.drop_append,List.drop_of_length_le (by omega),List.nil_append]
     congr 1
     omega
    rw[e1]
    exact h10
theorem jb:∀(k fuel:Nat) (t:TypeId) (cs:List Value) (x:DataW H×List MemPlace),parts P k t=true→DataW.trod enc P w 0 spare held fuel t cs=some x→(∀q∈DataW.weights P t x.1,q≤140737488351232)→∃xs:List Cell,xs.map Cell.val=cs∧im w xs∧Ty P t xs
 |0,fuel,t,cs,x,hp,_,_=>by simp[parts]at hp
 |k+1,fuel,t,cs,x,hp,h,hw=>by
  unfold parts at hp
  split at hp
  ·rename_i q ht
   obtain⟨z,rfl,_,hz⟩:=DataW.trod_int ht h
   exact⟨[.v (.int q z)],rfl,⟨trivial,trivial⟩,.int ht hz⟩
  ·rename_i ht
   obtain⟨b,rfl,_⟩:=DataW.trod_bool ht h
   exact⟨[.v (.bool b)],rfl,⟨trivial,trivial⟩,.bool ht⟩
  ·rename_i ht
   obtain⟨s,rfl,hx,_⟩:=DataW.trod_string ht h
   have h1:=hw s.data.toList.length (by rw[hx];simp[DataW.weights])
   exact⟨[.v (.string s)],rfl,⟨trivial,trivial⟩,.str (s:=bytesOf s) ht h1⟩
  ·rename_i e ht
   simp only[Bool.and_eq_true,decide_eq_true_eq]at hp
   rcases DataW.trod_slice ht h with⟨rfl,rfl⟩|⟨a,len,cap,elems,rest,m,_,rfl,hx,hb,hl,hm,hlen,hel,_,_⟩
   ·exact⟨[.s (P.cellsOf e) none 0 0 []],rfl,⟨⟨Rd.nil _ _ _,Nat.le_refl _,trivial⟩,trivial⟩,.slice ht (Nat.le_refl _) (by simp) (by simp) (fun i hi=>absurd hi (by omega))⟩
   ·have hwe:∀d∈elems.map (·.1),∀q∈DataW.weights P e d,q≤140737488351232:=fun d hd q hq=>hw q (by
     rw[hx]
     simp only[DataW.weights,ht,List.mem_cons,List.mem_append]
     exact .inr (.inl (gO hd hq)))
    obtain⟨xs,h1,h2,h3⟩:=pieces (w:=w) (sz:=P.cellsOf e) (Q:=Ty P e) (R:=fun i vs=>∀j u,vs[j]? =some u→w.cell? (a.add (i*P.cellsOf e+j))=some u) len (fun i hi=>by
     have h1:=hel i hi
     rw[List.getElem?_eq_getElem (by omega)]at h1
     obtain⟨c,hc1,hc2⟩:=Option.bind_eq_some_iff.1 h1
     obtain⟨hcl,hcc⟩:=wE hc1
     obtain⟨ys,h4,h5,h6⟩:=jb k _ e c _ hp.1 hc2 (fun q hq=>hwe _ (List.mem_map.2 ⟨_,List.getElem_mem _,rfl⟩) q hq)
     refine⟨ys,by rw[←hcl,←h4,List.length_map],h6,fun j u hu=> ?_,h5⟩
     rw[h4]at hu
     have:=hcc j u hu
     rwa [add_add]at this)
    have hR:Rd w (P.cellsOf e) (some a) len (xs.map Cell.val):=⟨by rw[List.length_map,h1],fun _ e=>(by cases e),fun q u hu=>by
     have hq:q<len*P.cellsOf e:=by
      have:=(List.getElem?_eq_some_iff.1 hu).1
      rwa [List.length_map,h1]at this
     have hd:q/P.cellsOf e<len:=(Nat.div_lt_iff_lt_mul hp.2).2 hq
     have hmod:=Nat.mod_lt q hp.2
     have hqe:q/P.cellsOf e*P.cellsOf e+q % P.cellsOf e=q:=by
      have:=Nat.div_add_mod q (P.cellsOf e)
      rw[Nat.mul_comm]at this
      exact this
     have:=(h2 _ hd).2 (q % P.cellsOf e) u (by rw[List.map_take,List.map_drop,mI hmod,hqe];exact hu)
     rw[hqe]at this
     simpa using this⟩
    have hn:len*P.bytesOf e≤140737488351232:=by
     have:=hw ((elems.length+rest.length)*P.bytesOf e) (by rw[hx];simp[DataW.weights,ht])
     rw[hlen,Nat.add_mul]at this
     omega
    exact⟨[.s (P.cellsOf e) (some a) len cap xs],rfl,⟨⟨hR,hl,h3⟩,trivial⟩,.slice ht hl hn h1 (fun i hi=>(h2 i hi).1)⟩
  ·rename_i m e ht
   simp only[Bool.and_eq_true,beq_iff_eq]at hp
   obtain⟨ys,n,_,hx,hlen,hyl,hel⟩:=DataW.trod_array ht h
   have hwe:∀d∈ys.map (·.1),∀q∈DataW.weights P e d,q≤140737488351232:=fun d hd q hq=>hw q (by
    rw[hx]
    simp only[DataW.weights,ht]
    exact gO hd hq)
   obtain⟨xs,h1,h2,h3⟩:=pieces (w:=w) (sz:=P.cellsOf e) (Q:=Ty P e) (R:=fun i vs=>vs=(cs.drop (i*P.cellsOf e)).take (P.cellsOf e)) m (fun i hi=>by
    have h1:=hel i hi
    rw[List.getElem?_eq_getElem (by omega)]at h1
    obtain⟨zs,h4,h5,h6⟩:=jb k _ e _ _ hp.1 h1 (fun q hq=>hwe _ (List.mem_map.2 ⟨_,List.getElem_mem _,rfl⟩) q hq)
    refine⟨zs, ?_,h6,h4,h5⟩
    have:=congrArg List.length h4
    rw[List.length_map,List.length_take,List.length_drop,hlen,hp.2]at this
    have hle:i*P.cellsOf e+P.cellsOf e≤m*P.cellsOf e:=by
     have:=Nat.mul_le_mul_right (P.cellsOf e) (show i+1≤m by omega)
     rwa [Nat.add_mul,Nat.one_mul]at this
    omega)
   refine⟨xs, ?_,h3,.arr ht (by rw[h1,hp.2]) (fun i hi=>(h2 i hi).1)⟩
   apply List.ext_getElem?
   intro q
   by_cases hq:q<m*P.cellsOf e
   ·have hpos:0<P.cellsOf e:=by
     rcases Nat.eq_zero_or_pos (P.cellsOf e)with h0|h0
     ·rw[h0,Nat.mul_zero]at hq;omega
     ·exact h0
    have hd:q/P.cellsOf e<m:=(Nat.div_lt_iff_lt_mul hpos).2 hq
    have hmod:=Nat.mod_lt q hpos
    have hqe:q/P.cellsOf e*P.cellsOf e+q % P.cellsOf e=q:=by
     have:=Nat.div_add_mod q (P.cellsOf e)
     rw[Nat.mul_comm]at this
     exact this
    have h4:=congrArg (fun l:List Value=>l[q % P.cellsOf e]?) (h2 _ hd).2
    simp only[List.map_take,List.map_drop]at h4
    rwa [mI hmod,mI hmod,hqe]at h4
   ·rw[List.getElem?_eq_none (by rw[List.length_map,h1];omega),List.getElem?_eq_none (by rw[hlen,hp.2];omega)]
  ·rename_i fs ht
   simp only[Bool.and_eq_true,List.all_eq_true]at hp
   obtain⟨ys,n,_,hx,hlen,hyl,hel⟩:=DataW.trod_struct ht h
   have hw2:∀(i:Nat) (f:Field) (d:DataW H),fs[i]? =some f→(ys.map (·.1))[i]? =some d→∀q∈DataW.weights P f.type d,q≤140737488351232:=fun i f d hf hd q hq=>hw q (by
    rw[hx]
    simp only[DataW.weights,ht]
    exact DataW.weights_mem_each (j:=i) (t:=f.type) (d:=d) (by simp[hf]) hd q hq)
   obtain⟨_,xs,h1,h2,h3,h4⟩:=lv (P:=P) (w:=w) (cs:=cs) fs.toList 0 (P.cellsOf t) hp.2 (fun f hf=>by
    obtain⟨i,hi⟩:=List.mem_iff_getElem?.1 hf
    have hi' :fs[i]? =some f:=by simpa using hi
    have h1:=hel i f hi'
    have hlt:i<ys.length:=by
     rw[hyl]
     exact(Array.getElem?_eq_some_iff.1 hi').1
    rw[List.getElem?_eq_getElem hlt]at h1
    obtain⟨zs,h5,h6,h7⟩:=jb k _ f.type _ _ (hp.1 f hf) h1 (fun q hq=>hw2 i f _ hi' (by rw[List.getElem?_map,List.getElem?_eq_getElem hlt];rfl) q hq)
    have hz:zs.length=P.cellsOf f.type:=by
     have hz:=congrArg List.length h5
     rw[List.length_map,List.length_take,List.length_drop,hlen]at hz
     have hin:∀(l:List Field) (o e:Nat),iz P l o e=true→f∈l→f.offset+P.cellsOf f.type≤e∧o≤e:=by
      intro l
      induction l with
      |nil=>intro o e _ hm;cases hm
      |cons g r ih=>
       intro o e hc hm
       simp only[iz,Bool.and_eq_true,beq_iff_eq]at hc
       have hge:∀(l:List Field) (o e:Nat),iz P l o e=true→o≤e:=by
        intro l
        induction l with
        |nil=>intro o e hc;simp[iz]at hc;omega
        |cons g r ih=>intro o e hc;simp only[iz,Bool.and_eq_true,beq_iff_eq]at hc;have:=ih _ _ hc.2;omega
       rcases List.mem_cons.1 hm with rfl|hm
       ·have:=hge _ _ _ hc.2
        omega
       ·have:=ih _ _ hc.2 hm
        omega
     have:=hin _ _ _ hp.2 hf
     omega
    exact⟨zs,hz,h7,h5,h6⟩)
   refine⟨xs, ?_,h3,.struct ht (by rw[h1];omega) (fun i f hf=> ?_)⟩
   ·rw[h2,List.drop_zero,Nat.sub_zero,←hlen,List.take_length]
   ·have:=(h4 f (by rw[Array.mem_toList_iff];exact Array.mem_of_getElem? hf)).2
    rwa [Nat.sub_zero]at this
  ·cases hp
end
section
variable{P:Program}{t e:TypeId}{xs:List Cell}
theorem Dd{k:IntKind}(ht:P.underlying t=some (.int k))(h:Ty P t xs):∃z,xs=[.v (.int k z)]∧(Lit.int k z).wf=true:=by
 cases h with
 |int ht' hw=>rw[ht]at ht';cases ht';exact⟨_,rfl,hw⟩
 |bool ht' =>rw[ht]at ht';cases ht'
 |str ht' =>rw[ht]at ht';cases ht'
 |slice ht' =>rw[ht]at ht';cases ht'
 |arr ht' =>rw[ht]at ht';cases ht'
 |struct ht' =>rw[ht]at ht';cases ht'
theorem D8(ht:P.underlying t=some (.int .i64))(h:Ty P t xs):∃z,xs=[.v (.int .i64 z)]∧-9223372036854775808≤z∧z≤9223372036854775807:=by
 obtain⟨z,rfl,hw⟩:=Dd ht h
 refine⟨z,rfl, ?_⟩
 simp only[Lit.wf,IntKind.min,IntKind.max,IntKind.signed,IntKind.bits]at hw
 simp at hw
 omega
theorem sI(ht:P.underlying t=some (.slice e))(h:Ty P t xs):∃A n c ys,xs=[.s (P.cellsOf e) A n c ys]∧n≤c∧n*P.bytesOf e≤140737488351232∧ys.length=n*P.cellsOf e∧∀i,i<n→Ty P e ((ys.drop (i*P.cellsOf e)).take (P.cellsOf e)):=by
 cases h with
 |int ht' =>rw[ht]at ht';cases ht'
 |bool ht' =>rw[ht]at ht';cases ht'
 |str ht' =>rw[ht]at ht';cases ht'
 |slice ht' hc hn hl h=>rw[ht]at ht';cases ht';exact⟨_,_,_,_,rfl,hc,hn,hl,h⟩
 |arr ht' =>rw[ht]at ht';cases ht'
 |struct ht' =>rw[ht]at ht';cases ht'
end
theorem eY{w:World}{sz n i o:Nat}{A:Option Addr}{xs:List Value}{u:Value}(h:Rd w sz A n xs)(hu:xs[i*sz+o]? =some u):w.cell? (((A.getD d0).add (i*sz)).add o)=some u:=by
 rw[add_add]
 exact h.cell hu
theorem View.rowOf{sz n c:Nat}{A:Option Addr}{xs:List Cell}{vs:List Value}(h:xs.map Cell.val=vs):View (vP (.s sz A n c xs)) (cn sz A n vs):=h▸View.Gx
section
variable{H:Type}{enc:TypeId×Value→H}{P:Program}{W:World}{spare:Nat→Bool}{held:Bool}{tss:List TypeId}{dss:List (DataW H)}
theorem uK{t:TypeId}{v:Value}{d:DataW H}{ps:List MemPlace}{j:Nat}(k:Nat)(hp:parts P k t=true)(h:DataW.Trod enc P W 0 spare held t v d ps)(hsz:(DataW.weightsEach P tss dss).all (· ≤reachBytes)=true)(hjt:tss[j]? =some t)(hjd:dss[j]? =some d):
  ∃xs:List Cell,xs.map Cell.val=v.cells.toList∧im W xs∧Ty P t xs:=by
 obtain⟨fuel,hf⟩:=h
 refine jb k fuel t _ _ hp hf (fun q hq=> ?_)
 have:=List.all_eq_true.1 hsz q (DataW.weights_mem_each hjt hjd q hq)
 have hr:reachBytes=140737488351232:=rfl
 simp at this
 omega
theorem Bp{t e:TypeId}{A:Option Addr}{n c:Nat}{d:DataW H}{ps:List MemPlace}{j:Nat}(k:Nat)(hp:parts P k t=true)(ht:P.underlying t=some (.slice e))(h:DataW.Trod enc P W 0 spare held t (.slice A n c) d ps)(hsz:(DataW.weightsEach P tss dss).all (· ≤reachBytes)=true)(hjt:tss[j]? =some t)(hjd:dss[j]? =some d):
  ∃ys:List Cell,(vP (.s (P.cellsOf e) A n c ys)).holds W∧Ty P t [.s (P.cellsOf e) A n c ys]:=by
 obtain⟨xs,h1,h2,h3⟩:=uK k hp h hsz hjt hjd
 obtain⟨A',n',c',ys,rfl,_⟩:=sI ht h3
 have e1:[Cell.val (.s (P.cellsOf e) A' n' c' ys)]=[Value.slice A n c]:=h1
 simp only[Cell.val,List.cons.injEq,Value.slice.injEq,and_true]at e1
 obtain⟨rfl,rfl,rfl⟩:=e1
 exact⟨ys,h2.1,h3⟩
end
end Go.Eng
end
section
set_option maxRecDepth 20000
namespace Go.Proofs.YtmibdabdlgmafaaGreatDoor
open Go.Eng Go.Hx
def jG(x:UInt32):UInt32:=x*2+x/2147483648
def lf(x:UInt32):Nat→UInt32
 |0=>x
 |k+1=>jG (lf x k)
def Ci(x:UInt32):UInt32:=
 let a:=x ^^^ (x*8192)
 let b:=a ^^^ (a/131072)
 b ^^^ (b*32)
def yp:Nat→UInt32
 |0=>2654435769
 |k+1=>Ci (yp k)
def lD(i:Nat):List UInt32:=(List.range i).map fun k=>yp (k+1)
theorem qQ(i:Nat):(lD i).length=i:=by simp[lD]
theorem oP(i:Nat):lD (i+1)=lD i++[yp (i+1)]:=by simp[lD,List.range_succ]
def bm:List UInt32:=lD 256
theorem bl:bm.length=256:=qQ 256
def fm(w:List UInt32)(b:List UInt8):Nat→Nat→UInt32
 |_,0=>0
 |i,k+1=>fm w b i k ^^^ lf (w.getD (b.getD (i+k) 0).toNat 0) (b.length-1-(i+k))
def dX(w:List UInt32)(b:List UInt8):UInt32:=fm w b (b.length-16) (b.length-(b.length-16))
theorem EX{x:UInt32}{n:Nat}(hn:n≤1000000):b6 Tryz.prog 245 [Wd x,.int .i64 (n:Int)] [] [] (fun v_ X_ S_=>v_=(Wd (lf x n))∧X_=[]∧S_=[]):=by
 refine aI (N:=17) Tryz.func245 rfl rfl (by simp) fun b=> ?_
 refine ah<|aj<|hy (fun _=>ab rfl)<|ai<|ae<|ah<|ah<|aj<|hy (fun _=>ab rfl)<|ai<|ae<|aK<| ?_
 refine dH (fun i=>n-i) (fun i=>[(5,.int .i64 (i:Nat)),(0,Wd (lf x i))]) (fun i=>[]) (fun i=>[]) (fun i=>i≤n) 0 [(4,_),(1,_)] ⟨rfl,rfl,trivial⟩ [] rfl [] rfl (Nat.zero_le _) ⟨rfl,rfl,trivial⟩ (fun i hi=> ?_)
 refine ah<|ah<|aj<|hy (fun _=>aa rfl)<|hy (fun _=>aa rfl)<|hy (fun _=>bC rfl rfl)<|ai<|al (ρ' :=[(8,_),(5,_),(0,_),(4,_),(1,_)]) ⟨rfl,rfl,rfl,rfl,rfl,trivial⟩<|ae<| ?_
 refine cj rfl (fun hlt=> ?_) (fun hlt=> ?_)
 ·refine aB<|ae<|ah<|aK<|aj<|hy (fun _=>aa rfl)<|hy (fun _=>k8 (b:=2) rfl rfl)<|hy (fun _=>aa rfl)<|hy (fun _=>mV (b:=2147483648) (by decide) rfl rfl)<|hy (fun _=>cT rfl rfl)<|hy (fun _=>ab rfl)<|ai<|al (ρ' :=[(0,_),(8,_),(5,_),(4,_),(1,_)]) ⟨rfl,rfl,rfl,rfl,rfl,trivial⟩<|aR<|ae<|aj<|hy (fun _=>aa rfl)<|hy (fun _=>aL rfl rfl (bx (by omega) (by omega)))<|hy (fun _=>ab rfl)<|ai<|al (ρ' :=[(5,_),(0,_),(8,_),(4,_),(1,_)]) ⟨rfl,rfl,rfl,rfl,rfl,trivial⟩<| ?_
  refine cJ (i+1) ⟨rfl,rfl,rfl,rfl,trivial⟩ [] rfl [] rfl (by omega) (by omega)
 ·obtain rfl:i=n:=by omega
  refine bK<|ao<|ao<|aC<|ae<|ah<|aj<|hy (fun _=>aa rfl)<|hy (fun _=>ab rfl)<|ai<|al (ρ' :=[(4,_),(8,_),(5,_),(0,_),(1,_)]) ⟨rfl,rfl,rfl,rfl,rfl,trivial⟩<|ae<|aS<| ?_
  exact a6 trivial rfl rfl [] rfl [] rfl ⟨rfl,rfl,rfl⟩
theorem Ar:b6 Tryz.prog 136 [] [] [] (fun v_ X_ S_=>∃A c,v_=(.slice A 256 c)∧X_=[aF 166 1 (.slice A 256 c) 256 (dA bm)]∧S_=[]):=by
 refine aI (N:=25) Tryz.func136 rfl rfl (by simp) fun b=> ?_
 refine ah<|aj<|hy (fun _=>ab rfl)<|ai<|ae<|ah<|aj<|hy (fun _=>ab rfl)<|ai<|ae<|ah<|aj<|hy (fun _=>ab rfl)<|ai<|ae<|ah<|ah<|aj<|hy (fun _=>ab rfl)<|ai<|ae<|aK<| ?_
 refine bd (fun w m=>m.cI (r' :=aF 166 1 (.slice none 0 0) 0 []) (.refl _ _) (Own.nil _ _ _ _) (fun k hk=>hk.elim)) ?_
 refine fD (fun i A1 c1=>256-i) (fun i A1 c1=>[(1,.slice A1 i c1),(2,Wd (yp i)),(3,.int .i64 (i:Nat))]) (fun i A1 c1=>[aF 166 1 (.slice A1 i c1) i (dA (lD i))]) (fun i A1 c1=>[]) (fun i A1 c1=>i≤256) 0 none 0 [(0,_)] ⟨rfl,trivial⟩ [0] rfl [] rfl (Nat.zero_le _) ⟨rfl,rfl,rfl,trivial⟩ (fun i A1 c1 hi=> ?_)
 refine ah<|ah<|aj<|hy (fun _=>aa rfl)<|hy (fun _=>bC rfl rfl)<|ai<|al (ρ' :=[(5,_),(1,_),(2,_),(3,_),(0,_)]) ⟨rfl,rfl,rfl,rfl,rfl,trivial⟩<|ae<| ?_
 refine cj rfl (fun hlt=> ?_) (fun hlt=> ?_)
 ·refine aB<|ae<|ah<|aK<|ah<|aj<|hy (fun _=>aa rfl)<|hy (fun _=>aa rfl)<|hy (fun _=>k8 (b:=8192) rfl rfl)<|hy (fun _=>cG rfl rfl)<|hy (fun _=>ab rfl)<|ai<|al (ρ' :=[(2,_),(5,_),(1,_),(3,_),(0,_)]) ⟨rfl,rfl,rfl,rfl,rfl,trivial⟩<|ae<|ah<|aj<|hy (fun _=>aa rfl)<|hy (fun _=>aa rfl)<|hy (fun _=>mV (b:=131072) (by decide) rfl rfl)<|hy (fun _=>cG rfl rfl)<|hy (fun _=>ab rfl)<|ai<|al (ρ' :=[(2,_),(5,_),(1,_),(3,_),(0,_)]) ⟨rfl,rfl,rfl,rfl,rfl,trivial⟩<|ae<|ah<|aj<|hy (fun _=>aa rfl)<|hy (fun _=>aa rfl)<|hy (fun _=>k8 (b:=32) rfl rfl)<|hy (fun _=>cG rfl rfl)<|hy (fun _=>ab rfl)<|ai<|al (ρ' :=[(2,_),(5,_),(1,_),(3,_),(0,_)]) ⟨rfl,rfl,rfl,rfl,rfl,trivial⟩<|ae<|aj<|hy (fun _=>aa rfl)<|hy (fun _=>aa rfl)<| ?_
  refine hx (bT Tryz.underlying215 kJ rfl rfl rfl (by simp[Value.cells,B8]) (by decide) (by decide) (fun g22=> ?_))
  have hA_b22:0<1→(some (⟨g22,0,none⟩:Addr))≠none:=fun _ h=>by cases h
  refine aG (fun w m=>m.bs 0 rfl (show _=aF 166 1 (.slice (some ⟨g22,0,none⟩) 1 1) 1 (dA [yp (i+1)])from(by rw[show yp (i+1)=Ci (yp i)from rfl];rfl))) ?_
  refine hx (bw 1 rfl rfl rfl Tryz.underlying215 Tryz.underlying215 (by exact .inl rfl) kJ rfl (fun m=>Src.bW (m.ord 0 rfl)) fI (by unfold maxLen;omega) (by omega) (fun u=> ?_))
  refine aA (fun m=>(m.own 0 rfl).slice) ?_
  rintro⟨A_o,c_o,rfl,hc_o⟩
  refine aA (fun m=>(m.ord 0 rfl).2.1) fun hA_o=> ?_
  refine aG (fun w m=>m.bs 0 rfl (show _=aF 166 1 (.slice A_o (i+1) c_o) (i+1) (dA (lD (i+1)))from congrArg (aF _ _ _ _) (by rw[oP,kX]))) ?_
  refine hy (fun _=>ab rfl)<|ai<|al (ρ' :=[(1,_),(2,_),(5,_),(3,_),(0,_)]) ⟨rfl,rfl,rfl,rfl,rfl,trivial⟩<|ak (X' :=[_,_]) (S' :=[]) (fun _ m=>m)<|aR<|ae<|aj<|hy (fun _=>aa rfl)<|hy (fun _=>aL rfl rfl (bx (by omega) (by omega)))<|hy (fun _=>ab rfl)<|ai<|al (ρ' :=[(3,_),(1,_),(2,_),(5,_),(0,_)]) ⟨rfl,rfl,rfl,rfl,rfl,trivial⟩<| ?_
  refine fz (i+1) A_o c_o ⟨rfl,rfl,rfl,rfl,trivial⟩ [0] rfl [] rfl (by omega) (by omega)
 ·obtain rfl:i=256:=by omega
  refine bK<|ao<|ao<|aC<|ae<|ah<|aj<|hy (fun _=>aa rfl)<|hy (fun _=>ab rfl)<|ai<|al (ρ' :=[(0,_),(5,_),(1,_),(2,_),(3,_)]) ⟨rfl,rfl,rfl,rfl,rfl,trivial⟩<|ae<|aS<| ?_
  exact a6 trivial rfl rfl [0] rfl [] rfl ⟨_,_,rfl,rfl,rfl⟩
theorem we{A B:Option Addr}{c n k:Nat}{w:List UInt32}{l:List UInt8}(hw:w.length=256)(hl:l.length=n)(hn:n≤1000000):b6 Tryz.prog 201 [.slice A 256 c,.slice B n k] [] [cn 1 A 256 (dA w),cn 1 B n (aP l)] (fun v_ X_ S_=>v_=(Wd (dX w l))∧X_=[]∧S_=[]):=by
 refine aI (N:=35) Tryz.func201 rfl rfl (by simp) fun b=> ?_
 refine aU (fun m=>gu (m.rd 0 rfl)) ?_
 rintro⟨hl_rw,hA_rw⟩
 refine aU (fun m=>eb (m.rd 1 rfl)) ?_
 rintro⟨hl_rb,hA_rb⟩
 refine ah<|aj<|hy (fun _=>ab rfl)<|ai<|ae<|ah<|aj<|hy (fun _=>ab rfl)<|ai<|ae<|ah<|aj<|hy (fun _=>aa rfl)<|hy (fun _=>aT rfl Tryz.underlying27)<|hy (fun _=>ca rfl rfl (bx (by omega) (by omega)))<|hy (fun _=>yV (FG rfl rfl) ((show Value.int .i64 (max ((n:Int)-16) 0)= .int .i64 ((n-16:Nat):Int)from by congr 1;omega)))<|hy (fun _=>ab rfl)<|ai<|al (ρ' :=[(6,_),(5,_),(4,_),(0,_),(1,_)]) ⟨rfl,rfl,rfl,rfl,rfl,trivial⟩<|ae<|ah<|ah<|aj<|hy (fun _=>aa rfl)<|hy (fun _=>ab rfl)<|ai<|al (ρ' :=[(7,_),(6,_),(5,_),(4,_),(0,_),(1,_)]) ⟨rfl,rfl,rfl,rfl,rfl,rfl,trivial⟩<|ae<|aK<| ?_
 refine dH (fun k2=>n-(n-16)-k2) (fun k2=>[(7,.int .i64 ((n-16+k2:Nat):Int)),(5,Wd (fm w l (n-16) k2))]) (fun k2=>[]) (fun k2=>[]) (fun k2=>n-16+k2≤n) 0 [(6,_),(4,_),(0,_),(1,_)] ⟨rfl,rfl,rfl,rfl,trivial⟩ [] rfl [] rfl (by omega) ⟨rfl,rfl,trivial⟩ (fun k2 hk=> ?_)
 refine ah<|ah<|aj<|hy (fun _=>aa rfl)<|hy (fun _=>aa rfl)<|hy (fun _=>aT rfl Tryz.underlying27)<|hy (fun _=>bC rfl rfl)<|ai<|al (ρ' :=[(16,_),(7,_),(5,_),(6,_),(4,_),(0,_),(1,_)]) ⟨rfl,rfl,rfl,rfl,rfl,rfl,rfl,trivial⟩<|ae<| ?_
 refine cj rfl (fun hlt=> ?_) (fun hlt=> ?_)
 ·have h8:=UInt8.toNat_lt (l.getD (n-16+k2) 0)
  refine aB<|ae<|ah<|aK<|aj<|hy (fun _=>aa rfl)<|hy (fun _=>aa rfl)<|hy (fun _=>aa rfl)<|hy (fun _=>aa rfl)<|hy (fun _=>aN rfl rfl Tryz.underlying27 dB hA_rb rfl (by omega))<|hy (fun m=>aq rfl iv ((m.rd 1 rfl).cell (bB (by omega))))<|hy (fun _=>aN rfl rfl Tryz.underlying215 br hA_rw rfl (by omega))<|hy (fun m=>aq rfl bG ((m.rd 0 rfl).cell (bj (by omega))))<|hy (fun _=>aa rfl)<|hy (fun _=>aT rfl Tryz.underlying27)<|hy (fun _=>ca rfl rfl (bx (by omega) (by omega)))<|hy (fun _=>aa rfl)<|hy (fun _=>yV (ca rfl rfl (bx (by omega) (by omega))) ((show Value.int .i64 ((n:Int)-1-((n-16+k2:Nat):Int))= .int .i64 ((l.length-1-(n-16+k2):Nat):Int)from by congr 1;omega)))<| ?_
  refine hx (au rfl Tryz.call245 (EX (by omega)) [] rfl [] rfl ?_)
  rintro _ _ _ ⟨rfl,rfl,rfl⟩
  refine hy (fun _=>cG rfl rfl)<|hy (fun _=>ab rfl)<|ai<|al (ρ' :=[(5,_),(16,_),(7,_),(6,_),(4,_),(0,_),(1,_)]) ⟨rfl,rfl,rfl,rfl,rfl,rfl,rfl,trivial⟩<|ak (X' :=[]) (S' :=[_,_]) (fun _ m=>m)<|aR<|ae<|aj<|hy (fun _=>aa rfl)<|hy (fun _=>aL rfl rfl (bx (by omega) (by omega)))<|hy (fun _=>ab rfl)<|ai<|al (ρ' :=[(7,_),(5,_),(16,_),(6,_),(4,_),(0,_),(1,_)]) ⟨rfl,rfl,rfl,rfl,rfl,rfl,rfl,trivial⟩<| ?_
  refine cJ (k2+1) ⟨rfl,rfl,rfl,rfl,rfl,rfl,trivial⟩ [] rfl [0,1] rfl (by omega) (by omega)
 ·have hk2:k2=l.length-(l.length-16):=by omega
  subst hk2
  subst hl
  refine bK<|ao<|ao<|aC<|ae<|ah<|aj<|hy (fun _=>aa rfl)<|hy (fun _=>ab rfl)<|ai<|al (ρ' :=[(4,_),(16,_),(7,_),(5,_),(6,_),(0,_),(1,_)]) ⟨rfl,rfl,rfl,rfl,rfl,rfl,rfl,trivial⟩<|ae<|aS<| ?_
  exact a6 trivial rfl rfl [] rfl [] rfl ⟨rfl,rfl,rfl⟩
end Go.Proofs.YtmibdabdlgmafaaGreatDoor
end
section
set_option maxRecDepth 20000
namespace Go.Proofs.YtmibdabdlgmafaaGreatDoor
open Go.Eng Go.Hx
theorem Ea{n:Nat}(hn:n<32):IntKind.u64.wrap (n:Int)=(n:Int):=by
 simp[IntKind.wrap,IntKind.signed,IntKind.bits]
 omega
theorem w7{n:Nat}(hn:n<32):bits .and .u64 (n:Int) 31=(n:Int):=by
 have h:=u64_and_nat n 31 (by omega) (by decide)
 rw[show((31:Nat):Int)=31 from rfl]at h
 rw[h,show(31:Nat)=2 ^ 5-1 from rfl,Nat.and_two_pow_sub_one_eq_mod]
 congr 1
 show n % 32=n
 omega
theorem B3{x:UInt32}{n:Nat}(h0:0<n)(hn:n<32):b6 Tryz.prog 296 [Wd x,.int .i64 (n:Int)] [] [] (fun v_ X_ S_=>v_=(Wd (gE (32-n) x))∧X_=[]∧S_=[]):=by
 refine aI (N:=17) Tryz.func296 rfl rfl (by simp) fun b=> ?_
 have hs:IntKind.u64.wrap (32-(n:Int))=((32-n:Nat):Int):=by
  rw[show(32:Int)-(n:Int)=((32-n:Nat):Int) by omega]
  simp[IntKind.wrap,IntKind.signed,IntKind.bits]
  omega
 have hr:=qF (x:=x) (n:=32-n) (by omega) (by omega)
 rw[show 32-(32-n)=n by omega]at hr
 refine ah<|aj<|hy (fun _=>ab rfl)<|ai<|ae<|ah<|aj<|hy (fun _=>aa rfl)<|hy (fun _=>bS rfl Tryz.underlying3 Tryz.underlying263 (Ea hn))<|hy (fun _=>fU (by simp) rfl rfl (w7 hn))<|hy (fun _=>ab rfl)<|ai<|al (ρ' :=[(5,_),(4,_),(0,_),(1,_)]) ⟨rfl,rfl,rfl,rfl,trivial⟩<|ae<|ah<|aj<|hy (fun _=>aa rfl)<|hy (fun _=>aa rfl)<|hy (fun _=>(rT (k:=n) (by omega) rfl rfl))<|hy (fun _=>aa rfl)<|hy (fun _=>aa rfl)<|hy (fun _=>ca rfl rfl hs)<|hy (fun _=>(uH (k:=32-n) (by omega) rfl rfl))<|hy (fun _=>yV (xO rfl rfl) ((show Wd (UInt32.ofNat (x.toNat*2 ^ n) ||| UInt32.ofNat (x.toNat/2 ^ (32-n)))=Wd (gE (32-n) x) by rw[hr])))<|hy (fun _=>ab rfl)<|ai<|al (ρ' :=[(4,_),(5,_),(0,_),(1,_)]) ⟨rfl,rfl,rfl,rfl,trivial⟩<|ae<|aS<| ?_
 exact a6 trivial rfl rfl [] rfl [] rfl ⟨rfl,rfl,rfl⟩
theorem Ad{X a b c r p q:Nat}(hX:X=2*p*a+b)(hb:b=p*c+r)(hr:r<p)(ha:a<q)(hpq:p*q=2147483648)(hc:c<2)(hp:0<p):
  (a+b*q) % 2147483648*2+(a+b*q)/2147483648=X/p+X % p*(2*q):=by
 have h1:a+b*q=2147483648*c+(r*q+a):=by
  rw[hb,Nat.add_mul,Nat.mul_right_comm,hpq]
  omega
 have h2:r*q+a<2147483648:=by
  have:(r+1)*q≤p*q:=Nat.mul_le_mul_right q hr
  rw[Nat.add_mul,hpq]at this
  omega
 have h3:X=p*(2*a+c)+r:=by
  rw[hX,hb,Nat.mul_add,Nat.mul_assoc 2 p a,Nat.mul_left_comm 2 p a]
  omega
 have h4:X/p=2*a+c:=by
  rw[h3,Nat.mul_add_div hp,Nat.div_eq_of_lt hr]
  omega
 have h5:X % p=r:=by
  rw[h3,Nat.mul_add_mod,Nat.mod_eq_of_lt hr]
 have h6:(a+b*q) % 2147483648=r*q+a:=by rw[h1,Nat.mul_add_mod,Nat.mod_eq_of_lt h2]
 have h7:(a+b*q)/2147483648=c:=by rw[h1,Nat.mul_add_div (by decide),Nat.div_eq_of_lt h2];omega
 rw[h4,h5,h6,h7,Nat.mul_left_comm r 2 q]
 omega
theorem zM(y:UInt32):(jG y).toNat=y.toNat % 2147483648*2+y.toNat/2147483648:=by
 have h:=y.toNat_lt
 unfold jG
 rw[UInt32.toNat_add,UInt32.toNat_mul,UInt32.toNat_div]
 show(y.toNat*2 % 4294967296+y.toNat/2147483648) % 4294967296=_
 omega
theorem sa(x:UInt32):∀(n:Nat),n≤32→(lf x n).toNat=x.toNat/2 ^ (32-n)+x.toNat % 2 ^ (32-n)*2 ^ n
 |0,_=>by
  have h:=x.toNat_lt
  show x.toNat=x.toNat/4294967296+x.toNat % 4294967296*1
  omega
 |n+1,hn=>by
  have h:=x.toNat_lt
  show(jG (lf x n)).toNat=_
  rw[zM,sa x n (by omega)]
  have e1:2 ^ (32-n)=2*2 ^ (32-(n+1)):=by rw[←Nat.pow_succ'];congr 1;omega
  have e2:2 ^ (n+1)=2*2 ^ n:=Nat.pow_succ'
  have hpq:2 ^ (32-(n+1))*2 ^ n=2147483648:=by
   rw[←Nat.pow_add,show 32-(n+1)+n=31 by omega]
  rw[e1,e2]
  have hp:0<2 ^ (32-(n+1)):=Nat.two_pow_pos _
  generalize 2 ^ (32-(n+1))=p at hpq hp ⊢
  generalize 2 ^ n=q at hpq ⊢
  refine Ad (c:=x.toNat % (2*p)/p) (r:=x.toNat % (2*p) % p) (Nat.div_add_mod x.toNat (2*p)).symm (Nat.div_add_mod _ p).symm (Nat.mod_lt _ hp) ?_ hpq ?_ hp
  ·rw[Nat.div_lt_iff_lt_mul (by omega),show q*(2*p)=2*(p*q) by rw[Nat.mul_comm q,Nat.mul_assoc],hpq]
   omega
  ·rw[Nat.div_lt_iff_lt_mul hp]
   exact Nat.mod_lt _ (by omega)
theorem qR{x:UInt32}{n:Nat}(hn:n≤32):gE (32-n) x=lf x n:=by
 apply UInt32.toNat_inj.1
 have h:=(lf x n).toNat_lt
 unfold gE
 rw[sa x n hn]at h ⊢
 rw[UInt32.toNat_ofNat',show 32-(32-n)=n by omega,Nat.mod_eq_of_lt h]
theorem mE(x:UInt32):jG x=(x <<< 1) ||| (x >>> 31):=by
 have h:=qR (x:=x) (n:=1) (by decide)
 rw[show lf x 1=jG x from rfl]at h
 rw[←h,←qF (n:=32-1) (by decide) (by decide)]
 congr 1
 ·apply UInt32.toNat_inj.1
  rw[UInt32.toNat_shiftLeft,UInt32.toNat_ofNat']
  show x.toNat*2 % 4294967296=x.toNat <<< 1 % 4294967296
  rw[Nat.shiftLeft_eq]
 ·apply UInt32.toNat_inj.1
  rw[UInt32.toNat_shiftRight,UInt32.toNat_ofNat']
  show x.toNat/2147483648 % 4294967296=x.toNat >>> 31
  have:=x.toNat_lt
  rw[Nat.shiftRight_eq_div_pow]
  show x.toNat/2147483648 % 4294967296=x.toNat/2147483648
  omega
theorem sd(x y:UInt32):jG (x ^^^ y)=jG x ^^^ jG y:=by
 rw[mE,mE,mE]
 apply UInt32.toBitVec_inj.1
 simp only[UInt32.toBitVec_or,UInt32.toBitVec_xor,UInt32.toBitVec_shiftLeft,UInt32.toBitVec_shiftRight]
 ext i hi
 simp
 by_cases h1:i=0
 ·simp[h1]
 ·have e:∀z:BitVec 32,z.getLsbD (31+i)=false:=fun z=>BitVec.getLsbD_of_ge z (31+i) (by omega)
  simp[h1,e]
theorem wD:jG 0=0:=by decide
theorem pO{w:List UInt32}{b:List UInt8}{c:UInt8}{i:Nat}:∀(k:Nat),i+k≤b.length→fm w (b++[c]) i k=jG (fm w b i k)
 |0,_=>wD.symm
 |k+1,h=>by
  have e:(b++[c]).getD (i+k) 0=b.getD (i+k) 0:=by rw[List.getD,List.getD,List.getElem?_append_left (by omega)]
  have e2:(b++[c]).length-1-(i+k)=(b.length-1-(i+k))+1:=by rw[List.length_append,List.length_singleton];omega
  rw[fm,fm,pO k (by omega),e,e2,sd]
  rfl
theorem nE{w:List UInt32}{b:List UInt8}{i:Nat}:∀(k:Nat),fm w b i (k+1)=lf (w.getD (b.getD i 0).toNat 0) (b.length-1-i) ^^^ fm w b (i+1) k
 |0=>by rw[fm,fm,fm,Nat.add_zero];exact UInt32.xor_comm ..
 |k+1=>by
  rw[fm,nE k,fm,UInt32.xor_assoc,show i+1+k=i+(k+1) by omega]
theorem ua(w:List UInt32)(b:List UInt8)(c:UInt8):dX w (b++[c])=if 16≤b.length then jG (dX w b) ^^^ w.getD c.toNat 0 ^^^ lf (w.getD (b.getD (b.length-16) 0).toNat 0) 16 else jG (dX w b) ^^^ w.getD c.toNat 0:=by
 have hl:(b++[c]).length=b.length+1:=by simp
 have lT:∀i k,i+k=b.length→fm w (b++[c]) i (k+1)=jG (fm w b i k) ^^^ w.getD c.toNat 0:=fun i k h=>by
  rw[fm,pO k (by omega),h]
  have e:(b++[c]).getD b.length 0=c:=by rw[List.getD,List.getElem?_append_right (Nat.le_refl _),Nat.sub_self];rfl
  rw[e,hl,Nat.add_sub_cancel,Nat.sub_self]
  rfl
 unfold dX
 rw[hl]
 by_cases h:16≤b.length
 ·rw[if_pos h,show b.length+1-16=b.length-16+1 by omega,show b.length+1-(b.length-16+1)=15+1 by omega,lT _ _ (by omega),show b.length-(b.length-16)=15+1 by omega,nE (w:=w) (b:=b) (i:=b.length-16) 15,sd]
  have e:jG (lf (w.getD (b.getD (b.length-16) 0).toNat 0) (b.length-1-(b.length-16)))=lf (w.getD (b.getD (b.length-16) 0).toNat 0) 16:=by
   rw[show b.length-1-(b.length-16)=15 by omega]
   rfl
  rw[e]
  generalize lf (w.getD (b.getD (b.length-16) 0).toNat 0) 16=z
  generalize jG (fm w b (b.length-16+1) 15)=y
  rw[UInt32.xor_comm z y,UInt32.xor_assoc y z,UInt32.xor_comm z,UInt32.xor_assoc,UInt32.xor_assoc,UInt32.xor_self,UInt32.xor_zero]
 ·rw[if_neg h,show b.length+1-16=0 by omega,show b.length-16=0 by omega,Nat.sub_zero,Nat.sub_zero,lT 0 b.length (by omega)]
end Go.Proofs.YtmibdabdlgmafaaGreatDoor
end
section
namespace Go.Proofs.YtmibdabdlgmafaaGreatDoor
abbrev Dm:Go.Conc.Locks.MuLink:={lock:=119,unlock:=120,ilock:=185,iunlock:=186,lockSlow:=238,unlockSlow:=241,disable:=234,enable:=236,acquire:=237,relMerge:=239,cas32:=235,add32:=240,tMutex:=170,tIMutex:=168,tPMutex:=259,tPIMutex:=327,tPI32:=329,tUP:=331,tNoCopy:=165,tU32:=166}
theorem Co:Go.Conc.Locks.MuLib Tryz.prog Dm:=by
 constructor <;> first|kernel_rfl|(intro _;kernel_rfl)
end Go.Proofs.YtmibdabdlgmafaaGreatDoor
end
section
set_option maxRecDepth 20000
namespace Go.Proofs.YtmibdabdlgmafaaGreatDoor
open Go.Eng Go.Hx
def fh(d mu:Int)(ws:List UInt32)(ring:List UInt8)(n:Nat)(s:UInt32):List Value:=[.int .u32 d,.int .i32 mu,.int .u32 0]++(dA ws++(aP ring++[.int .i64 (n:Int),Wd s]))
section
variable{d mu:Int}{ws:List UInt32}{ring:List UInt8}{n:Nat}{s:UInt32}
theorem gZ(hw:ws.length=256)(hr:ring.length=16):(fh d mu ws ring n s).length=277:=by simp[fh,aO,az,hw,hr]
theorem Cf{j:Nat}(hw:ws.length=256)(hj:j<256):(fh d mu ws ring n s)[3+j]? =some (Wd (ws.getD j 0)):=by
 rw[fh,List.getElem?_append_right (by simp),List.getElem?_append_left (by rw[aO];simp;omega)]
 rw[show 3+j- [Value.int .u32 d,.int .i32 mu,.int .u32 0].length=j by simp]
 exact bj (by omega)
theorem Fc{j:Nat}(hw:ws.length=256)(hr:ring.length=16)(hj:j<16):(fh d mu ws ring n s)[259+j]? =some (B8 (ring.getD j 0)):=by
 rw[fh,List.getElem?_append_right (by simp;omega),List.getElem?_append_right (by rw[aO];simp;omega),List.getElem?_append_left (by rw[aO,az];simp;omega)]
 rw[aO,hw,show 259+j- [Value.int .u32 d,.int .i32 mu,.int .u32 0].length-256=j by simp;omega]
 exact bB (by omega)
theorem vM(hw:ws.length=256)(hr:ring.length=16):(fh d mu ws ring n s)[275]? =some (.int .i64 (n:Int)):=by
 rw[fh,List.getElem?_append_right (by simp),List.getElem?_append_right (by rw[aO];simp;omega),List.getElem?_append_right (by rw[aO,az];simp;omega)]
 rw[aO,az,hw,hr]
 rfl
theorem vo(hw:ws.length=256)(hr:ring.length=16):(fh d mu ws ring n s)[276]? =some (Wd s):=by
 rw[fh,List.getElem?_append_right (by simp),List.getElem?_append_right (by rw[aO];simp;omega),List.getElem?_append_right (by rw[aO,az];simp;omega)]
 rw[aO,az,hw,hr]
 rfl
theorem xQ{j:Nat}{x:UInt32}(hw:ws.length=256)(hj:j<256):(fh d mu ws ring n s).set (3+j) (Wd x)=fh d mu (ws.set j x) ring n s:=by
 rw[fh,List.set_append_right _ _ (by simp),List.set_append_left _ _ (by rw[aO];simp;omega)]
 rw[show 3+j- [Value.int .u32 d,.int .i32 mu,.int .u32 0].length=j by simp,qT]
 rfl
theorem sk{j:Nat}{x:UInt8}(hw:ws.length=256)(hr:ring.length=16)(hj:j<16):(fh d mu ws ring n s).set (259+j) (B8 x)=fh d mu ws (ring.set j x) n s:=by
 rw[fh,List.set_append_right _ _ (by simp;omega),List.set_append_right _ _ (by rw[aO];simp;omega),List.set_append_left _ _ (by rw[aO,az];simp;omega)]
 rw[aO,hw,show 259+j- [Value.int .u32 d,.int .i32 mu,.int .u32 0].length-256=j by simp;omega,show(aP ring).set j (B8 x)=aP (ring.set j x) by simp[aP,List.map_set]]
 rfl
theorem oI{m:Nat}(hw:ws.length=256)(hr:ring.length=16):(fh d mu ws ring n s).set 275 (.int .i64 (m:Int))=fh d mu ws ring m s:=by
 rw[fh,List.set_append_right _ _ (by simp),List.set_append_right _ _ (by rw[aO];simp;omega),List.set_append_right _ _ (by rw[aO,az];simp;omega)]
 rw[aO,az,hw,hr]
 rfl
theorem oR{x:UInt32}(hw:ws.length=256)(hr:ring.length=16):(fh d mu ws ring n s).set 276 (Wd x)=fh d mu ws ring n x:=by
 rw[fh,List.set_append_right _ _ (by simp),List.set_append_right _ _ (by rw[aO];simp;omega),List.set_append_right _ _ (by rw[aO,az];simp;omega)]
 rw[aO,az,hw,hr]
 rfl
end
theorem wV{α:Type}(v:List α)(i:Nat)(x:α)(h:i<v.length):(v.set i x).take (i+1)=v.take i++[x]:=by
 apply List.ext_getElem?
 intro j
 rw[List.getElem?_take,List.getElem?_append,List.getElem?_set,List.getElem?_take,List.length_take]
 by_cases h1:j<i
 ·rw[if_pos (by omega),if_neg (by omega),if_pos (by omega),if_pos h1]
 ·by_cases h2:j=i
  ·subst h2
   rw[if_pos (by omega),if_pos rfl,if_pos h,if_neg (by omega),Nat.min_eq_left (by omega),Nat.sub_self]
   rfl
  ·rw[if_neg (by omega),if_neg (by omega)]
   rw[List.getElem?_eq_none (by simp;omega)]
theorem mT{w:World}{g a c:Nat}{t:TypeId}{cs:List Value}{v:Value}(h:eS w g t cs)(hv:cs[a+c]? =some v):w.cell? (((⟨g,0,none⟩:Addr).add a).add c)=some v:=by
 rw[eI,eI,Nat.zero_add]
 exact h.cell hv
theorem BR:eU Tryz.prog 396 1=some (0,1,166):=by kernel_rfl
theorem om:eU Tryz.prog 398 1=some (0,1,396):=by kernel_rfl
theorem vO:eU Tryz.prog 398 2=some (1,2,170):=by kernel_rfl
theorem vJ:eU Tryz.prog 401 0=some (0,3,398):=by kernel_rfl
theorem qU:eU Tryz.prog 401 1=some (3,256,399):=by kernel_rfl
theorem AM:eU Tryz.prog 404 0=some (0,259,401):=by kernel_rfl
theorem rb:eU Tryz.prog 404 1=some (259,16,402):=by kernel_rfl
theorem jC:eU Tryz.prog 404 2=some (275,1,3):=by kernel_rfl
theorem jw:eU Tryz.prog 404 3=some (276,1,166):=by kernel_rfl
theorem E6:TI Tryz.prog 404 (.agg (fh 0 0 (List.replicate 256 0) (List.replicate 16 0) 0 0).toArray) 277 1072:=by unfold TI;kernel_rfl
section
variable{P:Program}{Q:Exit→Act→World→Prop}{N:Nat}{D:List Deferred}{ρ:Env}{b:b8}{X S:List bc}{ty:TypeId}{K:Value→List bc→List bc→Prop}{fn:Func}{R:Value→List bc→List bc→Prop}
theorem yv{f g o:Nat}{t:TypeId}{cs:List Value}{x:Int}{l:List Operand}{tys:Array TypeId}(i:Nat)(hi:X[i]? =some (aE g t cs))(hc:cs[o]? =some (.int .u32 x))(hx:mh ρ l=some [.pointer (some ⟨g,o,none⟩)])
  (hrun:∀(w:World) (a:Addr) (x:Int),w.cell? a=some (.int .u32 x)→(callFunc f #[.pointer (some a)]).run P w= .ok (.value (.int .u32 x)) w) (k:K (.int .u32 x) X S):XH P Q N D ρ b X S (.call ⟨.value (.func f),l.toArray,tys⟩) ty K:=fun w m=>by
 refine cL (v' :=.int .u32 x) (w' :=w) (fun a _ _ _ _ ha=> ?_) ⟨X,S,m,k⟩
 have h:=hrun w ⟨g,o,none⟩ x ((m.aQ i hi).cell hc)
 simp[execOp,resolve,Deferred.ofValue,Act.eval,invoke,ha.gj hx,h]
theorem BY{f g o:Nat}{t:TypeId}{cs:List Value}{x:Value}(i:Nat)(hi:X[i]? =some (aE g t cs))(hc:cs[o]? =some x)(hcall:∀args w,(callFunc f args).run P w= .ok (.enter f args) w)
  (hst:∀(a:Addr) (x:Value) (u:FrameMode) (w:World),w.cell? a=some x→w.frozen? a=false→CallsD P f #[.pointer (some a),.bool true] u w fun e u' w' =>u' =u∧(e= .returned (.tuple #[])∧w' =w.drew.setCell a (.int .u32 1)))
  (k:HE P fn b R N D ρ (aE g t (cs.set o (.int .u32 1))::X.eraseIdx i) S):HE P fn b R N (⟨.fn (.func f) #[], #[.pointer (some ⟨g,o,none⟩),.bool true]⟩::D) ρ X S:=fun w m tmps ht=>by
 have hb:=m.aQ i hi
 have hlt:=(List.getElem?_eq_some_iff.1 hc).1
 refine⟨by simp,.func f, #[],f, #[.pointer (some ⟨g,o,none⟩),.bool true],rfl, ?_, ?_⟩
 ·simp[invoke,hcall]
 ·refine CallsD.mono (hst ⟨g,o,none⟩ x .returning w (hb.cell hc) (hb.frozen hlt)) ?_
  rintro e u' w' ⟨rfl,rfl,rfl⟩
  have m1:=m.lift (Fr.drew w)
  have hb1:=m1.aQ i hi
  have m' :=m1.perm (ar [i] X [aE g t cs] (X.eraseIdx i) (by simp[bD,hi]))
  exact k _ (m'.change (r' :=aE g t (cs.set o (.int .u32 1))) (Fr.setCell w.drew ⟨g,o,none⟩ _) (hb1.set o _) (fun k hk=>.inl hk)) tmps ht
end
theorem Bz(a:Addr)(x:Value)(u:FrameMode)(w:World)(hc:w.cell? a=some x)(hz:w.frozen? a=false):
  CallsD Tryz.prog 315 #[.pointer (some a),.bool true] u w fun e u' w' =>u' =u∧(e= .returned (.tuple #[])∧w' =w.drew.setCell a (.int .u32 1)):=by
 have hc' :w.drew.cell? a=some x:=by go_simp
 have hz' :w.drew.frozen? a=false:=by go_simp
 have hst:=run_call_store (P:=Tryz.prog) Tryz.func316 (by kernel_rfl) (by kernel_rfl) (by kernel_rfl) (by kernel_rfl) (k:=.u32) (y:=1) hc' hz'
 go_enter_d Tryz.func315,Tryz.ntmps315
 go_wp2
 go_region_calls
 all_goals (go_end0;exact⟨rfl,rfl⟩)
theorem ug{g n:Nat}{d mu:Int}{ws:List UInt32}{ring:List UInt8}{s:UInt32}:b6 Tryz.prog 312 [.pointer (some ⟨g,0,none⟩)] [aE g 404 (fh d mu ws ring n s)] [] (fun v_ X_ S_=>v_=(.bool (decide (¬d=0)))∧X_=[aE g 404 (fh d mu ws ring n s)]∧S_=[]):=by
 refine aI (N:=8) Tryz.func312 rfl rfl (by simp) fun b=> ?_
 refine ah<|aj<|hy (fun _=>ab rfl)<|ai<|ae<|ah<|aj<|hy (fun _=>aa rfl)<|hy (fun _=>aM rfl)<|hy (fun _=>aD rfl BR (by decide))<| ?_
 refine hx (yv 0 rfl rfl rfl (fun w a x hc=>run_call_load (P:=Tryz.prog) Tryz.func314 (by kernel_rfl) (by kernel_rfl) (by kernel_rfl) .u32 (by kernel_rfl) hc) ?_)
 refine hy (fun _=>dF rfl rfl)<|hy (fun _=>ab rfl)<|ai<|al (ρ' :=[(2,_),(0,_)]) ⟨rfl,rfl,trivial⟩<|ak (X' :=[_]) (S' :=[]) (fun _ m=>m)<|ae<|aS<| ?_
 exact a6 trivial rfl rfl [0] rfl [] rfl ⟨rfl,rfl,rfl⟩
theorem D7{g n:Nat}{d mu:Int}{ws:List UInt32}{ring:List UInt8}{s:UInt32}(hw:ws.length=256):b6 Tryz.prog 311 [.pointer (some ⟨g,0,none⟩)] [aE g 404 (fh d mu ws ring n s)] [] (fun v_ X_ S_=>v_=(.tuple #[])∧X_=[aE g 404 (fh d mu bm ring n s)]∧S_=[]):=by
 refine aI (N:=26) Tryz.func311 rfl rfl (by simp) fun b=> ?_
 refine ah<|aj<|hy (fun _=>ab rfl)<|ai<|ae<|ah<|aj<|hy (fun _=>aa rfl)<|ai<|ae<|aK<| ?_
 refine jS (fun i v=>256-i) (fun i v=>[(4,.int .i64 (i:Nat)),(2,Wd (yp i))]) (fun i v=>[aE g 404 (fh d mu v ring n s)]) (fun i v=>[]) (fun i v=>i≤256∧v.length=256∧v.take i=lD i) 0 ws [(0,_)] ⟨rfl,trivial⟩ [0] rfl [] rfl (⟨by omega,hw,rfl⟩) ⟨rfl,rfl,trivial⟩ (fun i v ⟨hi,hv,ht⟩=> ?_)
 refine ah<|aj<|hy (fun _=>bC rfl rfl)<|ai<|ae<|ah<| ?_
 refine cj rfl (fun hlt=> ?_) (fun hlt=> ?_)
 ·have hi2:i<256:=by omega
  refine aB<|ae<|ah<|aK<|ah<|aj<|hy (fun _=>aa rfl)<|hy (fun _=>ab rfl)<|ai<|al (ρ' :=[(3,_),(5,_),(4,_),(2,_),(0,_)]) ⟨rfl,rfl,rfl,rfl,rfl,trivial⟩<|ae<|ah<|aj<|hy (fun _=>aa rfl)<|hy (fun _=>aa rfl)<|hy (fun _=>rO (k:=13) (b:=8192) (by decide) rfl rfl rfl)<|hy (fun _=>cG rfl rfl)<|hy (fun _=>ab rfl)<|ai<|al (ρ' :=[(2,_),(3,_),(5,_),(4,_),(0,_)]) ⟨rfl,rfl,rfl,rfl,rfl,trivial⟩<|ae<|ah<|aj<|hy (fun _=>aa rfl)<|hy (fun _=>aa rfl)<|hy (fun _=>ka (k:=17) (b:=131072) (by decide) rfl rfl rfl)<|hy (fun _=>cG rfl rfl)<|hy (fun _=>ab rfl)<|ai<|al (ρ' :=[(2,_),(3,_),(5,_),(4,_),(0,_)]) ⟨rfl,rfl,rfl,rfl,rfl,trivial⟩<|ae<|ah<|aj<|hy (fun _=>aa rfl)<|hy (fun _=>aa rfl)<|hy (fun _=>rO (k:=5) (b:=32) (by decide) rfl rfl rfl)<|hy (fun _=>cG rfl rfl)<|hy (fun _=>ab rfl)<|ai<|al (ρ' :=[(2,_),(3,_),(5,_),(4,_),(0,_)]) ⟨rfl,rfl,rfl,rfl,rfl,trivial⟩<|ae<|aj<|hy (fun _=>aa rfl)<|hy (fun _=>aa rfl)<|hy (fun _=>aa rfl)<|hy (fun _=>aM rfl)<|hy (fun _=>aD rfl qU (by decide))<|hy (fun _=>bR rfl rfl Tryz.underlying399 br rfl (by omega))<| ?_
  refine cx (bU 0 rfl rfl rfl br rfl (by simp[fh,aO,az,hv];omega) ?_)
  refine ai<|al (ρ' :=[(2,_),(3,_),(5,_),(4,_),(0,_)]) ⟨rfl,rfl,rfl,rfl,rfl,trivial⟩<|ak (X' :=[_]) (S' :=[]) (fun _ m=>m)<|aR<|ae<|aj<|hy (fun _=>aL rfl rfl (bx (by omega) (by omega)))<|hy (fun _=>aa rfl)<|ai<|al (ρ' :=[(4,_),(2,_),(3,_),(5,_),(0,_)]) ⟨rfl,rfl,rfl,rfl,rfl,trivial⟩<| ?_
  refine ak (fun w m=>m.bs 0 rfl (show _=aE g 404 (fh d mu (v.set i (yp (i+1))) ring n s)from congrArg (aE _ _) (show(fh d mu v ring n s).set (3+i) (Wd (yp (i+1)))=_ from xQ hv hi2))) ?_
  refine fW (i+1) (v.set i (yp (i+1))) ⟨rfl,rfl,rfl,trivial⟩ [0] rfl [] rfl (⟨by omega,by rw[List.length_set];exact hv,by rw[wV _ _ _ (by omega),ht,oP]⟩) (by omega)
 ·obtain rfl:i=256:=by omega
  have hv2:v=bm:=by rw[←List.take_of_length_le (l:=v) (i:=256) (by omega),ht];rfl
  subst hv2
  refine bK<|ao<|ao<|aC<| ?_
  exact fa trivial rfl [0] rfl [] rfl ⟨rfl,rfl,rfl⟩
theorem Eb{g n:Nat}{d:Int}{ws:List UInt32}{ring:List UInt8}{s:UInt32}:b6 Tryz.prog 119 [.pointer (some ⟨g,1,none⟩)] [aE g 404 (fh d 0 ws ring n s)] [] (fun v_ X_ S_=>v_=(.tuple #[])∧X_=[aE g 404 (fh d 1 ws ring n s)]∧S_=[]):=by
 exact Ew Co rfl
theorem F4{g n:Nat}{ws:List UInt32}{ring:List UInt8}{s:UInt32}(hw:ws.length=256):b6 Tryz.prog 313 [.pointer (some ⟨g,0,none⟩),.func (.func 311) #[.pointer (some ⟨g,0,none⟩)] #[]] [aE g 404 (fh 0 0 ws ring n s)] [] (fun v_ X_ S_=>v_=(.tuple #[])∧X_=[aE g 404 (fh 1 0 bm ring n s)]∧S_=[]):=by
 refine v8 (N:=21) Tryz.func313 rfl rfl (by simp) fun b=> ?_
 refine ah<|aj<|hy (fun _=>aa rfl)<|hy (fun _=>aM rfl)<|hy (fun _=>aD rfl vO (by decide))<| ?_
 refine hx (au rfl Tryz.call119 (Eb) [0] rfl [] rfl ?_)
 rintro _ _ _ ⟨rfl,rfl,rfl⟩
 refine ai<|al (ρ' :=[(0,_),(1,_)]) ⟨rfl,rfl,trivial⟩<|ak (X' :=[_]) (S' :=[]) (fun _ m=>m)<|ae<|ah<|aj<|hy (fun _=>aa rfl)<|hy (fun _=>aM rfl)<|hy (fun _=>aD rfl vO (by decide))<|yN rfl<|ai<|al (ρ' :=[(0,_),(1,_)]) ⟨rfl,rfl,trivial⟩<|ae<|ah<|aj<|hy (fun _=>aa rfl)<|hy (fun _=>aM rfl)<|hy (fun _=>aD rfl om (by decide))<| ?_
 refine hx (au rfl Tryz.call312 (ug) [0] rfl [] rfl ?_)
 rintro _ _ _ ⟨rfl,rfl,rfl⟩
 refine hy (fun _=>eE rfl)<|ai<|al (ρ' :=[(15,_),(0,_),(1,_)]) ⟨rfl,rfl,rfl,trivial⟩<|ak (X' :=[_]) (S' :=[]) (fun _ m=>m)<|ae<| ?_
 refine gS rfl (rfl) ?_
 refine ah<|aj<|hy (fun _=>aa rfl)<|hy (fun _=>aM rfl)<|hy (fun _=>aD rfl om (by decide))<|yN rfl<|ai<|al (ρ' :=[(15,_),(0,_),(1,_)]) ⟨rfl,rfl,rfl,trivial⟩<|ae<|aj<|hy (fun _=>aa rfl)<| ?_
 refine hx (ek rfl rfl Tryz.call311 (D7 hw) [0] rfl [] rfl ?_)
 rintro _ _ _ ⟨rfl,rfl,rfl⟩
 refine ai<|al (ρ' :=[(15,_),(0,_),(1,_)]) ⟨rfl,rfl,rfl,trivial⟩<|ak (X' :=[_]) (S' :=[]) (fun _ m=>m)<| ?_
 refine yi trivial ?_
 refine BY 0 rfl rfl Tryz.call315 Bz ?_
 refine Be Co 0 rfl rfl Tryz.call120 ?_
 exact lT (v:=.tuple #[]) (fun _ _ _=>by simp[results,Tryz.results313]) [0] rfl [] rfl ⟨rfl,rfl,rfl⟩
theorem FV{g n:Nat}{ws:List UInt32}{ring:List UInt8}{s:UInt32}(hw:ws.length=256):b6 Tryz.prog 310 [.pointer (some ⟨g,0,none⟩),.func (.func 311) #[.pointer (some ⟨g,0,none⟩)] #[]] [aE g 404 (fh 0 0 ws ring n s)] [] (fun v_ X_ S_=>v_=(.tuple #[])∧X_=[aE g 404 (fh 1 0 bm ring n s)]∧S_=[]):=by
 refine aI (N:=12) Tryz.func310 rfl rfl (by simp) fun b=> ?_
 refine ah<|aj<|hy (fun _=>aa rfl)<|hy (fun _=>aM rfl)<|hy (fun _=>aD rfl om (by decide))<| ?_
 refine hx (au rfl Tryz.call312 (ug) [0] rfl [] rfl ?_)
 rintro _ _ _ ⟨rfl,rfl,rfl⟩
 refine hy (fun _=>eE rfl)<|ai<|al (ρ' :=[(8,_),(0,_),(1,_)]) ⟨rfl,rfl,rfl,trivial⟩<|ak (X' :=[_]) (S' :=[]) (fun _ m=>m)<|ae<| ?_
 refine gS rfl (rfl) ?_
 refine aj<|hy (fun _=>aa rfl)<|hy (fun _=>aa rfl)<| ?_
 refine hx (au rfl Tryz.call313 (F4 hw) [0] rfl [] rfl ?_)
 rintro _ _ _ ⟨rfl,rfl,rfl⟩
 refine ai<|al (ρ' :=[(8,_),(0,_),(1,_)]) ⟨rfl,rfl,rfl,trivial⟩<|ak (X' :=[_]) (S' :=[]) (fun _ m=>m)<| ?_
 exact fa trivial rfl [0] rfl [] rfl ⟨rfl,rfl,rfl⟩
theorem CB{g n:Nat}{v:Value}{ws:List UInt32}{ring:List UInt8}{s:UInt32}:b6 Tryz.prog 310 [.pointer (some ⟨g,0,none⟩),v] [aE g 404 (fh 1 0 ws ring n s)] [] (fun v_ X_ S_=>v_=(.tuple #[])∧X_=[aE g 404 (fh 1 0 ws ring n s)]∧S_=[]):=by
 refine aI (N:=12) Tryz.func310 rfl rfl (by simp) fun b=> ?_
 refine ah<|aj<|hy (fun _=>aa rfl)<|hy (fun _=>aM rfl)<|hy (fun _=>aD rfl om (by decide))<| ?_
 refine hx (au rfl Tryz.call312 (ug) [0] rfl [] rfl ?_)
 rintro _ _ _ ⟨rfl,rfl,rfl⟩
 refine hy (fun _=>eE rfl)<|ai<|al (ρ' :=[(8,_),(0,_),(1,_)]) ⟨rfl,rfl,rfl,trivial⟩<|ak (X' :=[_]) (S' :=[]) (fun _ m=>m)<|ae<| ?_
 refine dj rfl (rfl) ?_
 refine aB<| ?_
 exact fa trivial rfl [0] rfl [] rfl ⟨rfl,rfl,rfl⟩
theorem GN{g n:Nat}{ws:List UInt32}{ring:List UInt8}{s:UInt32}{c:UInt8}(hw:ws.length=256):b6 Tryz.prog 309 [.pointer (some ⟨g,0,none⟩),B8 c] [aE g 404 (fh 0 0 ws ring n s)] [] (fun v_ X_ S_=>v_=(Wd (bm.getD c.toNat 0))∧X_=[aE g 404 (fh 1 0 bm ring n s)]∧S_=[]):=by
 have hc:=UInt8.toNat_lt c
 refine aI (N:=17) Tryz.func309 rfl rfl (by simp) fun b=> ?_
 refine ah<|aj<|hy (fun _=>ab rfl)<|ai<|ae<|ah<|aj<|hy (fun _=>aa rfl)<|hy (fun _=>aM rfl)<|hy (fun _=>aD rfl vJ (by decide))<|hy (fun _=>aa rfl)<|hy (fun _=>ff rfl rfl)<| ?_
 refine hx (au rfl Tryz.call310 (FV hw) [0] rfl [] rfl ?_)
 rintro _ _ _ ⟨rfl,rfl,rfl⟩
 refine ai<|al (ρ' :=[(4,_),(0,_),(1,_)]) ⟨rfl,rfl,rfl,trivial⟩<|ak (X' :=[_]) (S' :=[]) (fun _ m=>m)<|ae<|ah<|aj<|hy (fun _=>aa rfl)<|hy (fun _=>aa rfl)<|hy (fun _=>aM rfl)<|hy (fun _=>aD rfl qU (by decide))<|hy (fun _=>bR rfl rfl Tryz.underlying399 br rfl (by omega))<|hy (fun m=>aq rfl bG (mT (m.aQ 0 rfl) (Cf bl (by omega))))<|hy (fun _=>ab rfl)<|ai<|al (ρ' :=[(4,_),(0,_),(1,_)]) ⟨rfl,rfl,rfl,trivial⟩<|ae<|aS<| ?_
 exact a6 trivial rfl rfl [0] rfl [] rfl ⟨rfl,rfl,rfl⟩
theorem Cu{g n:Nat}{ring:List UInt8}{s:UInt32}{c:UInt8}:b6 Tryz.prog 309 [.pointer (some ⟨g,0,none⟩),B8 c] [aE g 404 (fh 1 0 bm ring n s)] [] (fun v_ X_ S_=>v_=(Wd (bm.getD c.toNat 0))∧X_=[aE g 404 (fh 1 0 bm ring n s)]∧S_=[]):=by
 have hc:=UInt8.toNat_lt c
 refine aI (N:=17) Tryz.func309 rfl rfl (by simp) fun b=> ?_
 refine ah<|aj<|hy (fun _=>ab rfl)<|ai<|ae<|ah<|aj<|hy (fun _=>aa rfl)<|hy (fun _=>aM rfl)<|hy (fun _=>aD rfl vJ (by decide))<|hy (fun _=>aa rfl)<|hy (fun _=>ff rfl rfl)<| ?_
 refine hx (au rfl Tryz.call310 (CB) [0] rfl [] rfl ?_)
 rintro _ _ _ ⟨rfl,rfl,rfl⟩
 refine ai<|al (ρ' :=[(4,_),(0,_),(1,_)]) ⟨rfl,rfl,rfl,trivial⟩<|ak (X' :=[_]) (S' :=[]) (fun _ m=>m)<|ae<|ah<|aj<|hy (fun _=>aa rfl)<|hy (fun _=>aa rfl)<|hy (fun _=>aM rfl)<|hy (fun _=>aD rfl qU (by decide))<|hy (fun _=>bR rfl rfl Tryz.underlying399 br rfl (by omega))<|hy (fun m=>aq rfl bG (mT (m.aQ 0 rfl) (Cf bl (by omega))))<|hy (fun _=>ab rfl)<|ai<|al (ρ' :=[(4,_),(0,_),(1,_)]) ⟨rfl,rfl,rfl,trivial⟩<|ae<|aS<| ?_
 exact a6 trivial rfl rfl [0] rfl [] rfl ⟨rfl,rfl,rfl⟩
end Go.Proofs.YtmibdabdlgmafaaGreatDoor
end
section
set_option maxRecDepth 20000
namespace Go.Proofs.YtmibdabdlgmafaaGreatDoor
open Go.Eng Go.Hx
def jU(ring l:List UInt8):Prop:=ring.length=16∧∀i,i<l.length→l.length≤i+16→ring.getD (i % 16) 0=l.getD i 0
theorem jU.snoc{ring l:List UInt8}(h:jU ring l)(c:UInt8):jU (ring.set (l.length % 16) c) (l++[c]):=by
 refine⟨by rw[List.length_set];exact h.1,fun i hi hi2=> ?_⟩
 rw[List.length_append,List.length_singleton]at hi hi2
 have h1:=h.1
 by_cases e:i=l.length
 ·subst e
  rw[List.getD,List.getElem?_set_self (by omega),List.getD,List.getElem?_append_right (Nat.le_refl _),Nat.sub_self]
  rfl
 ·have hne:l.length % 16≠i % 16:=by omega
  have h2:=h.2 i (by omega) (by omega)
  rw[List.getD]at h2
  rw[List.getD,List.getElem?_set_ne hne,h2,List.getD,List.getD,List.getElem?_append_left (by omega)]
theorem jU.nil{ring:List UInt8}(h:ring.length=16):jU ring []:=⟨h,fun i hi=>absurd hi (by simp)⟩
theorem jU.last{ring l:List UInt8}(h:jU ring l)(hl:16≤l.length):ring.getD (l.length % 16) 0=l.getD (l.length-16) 0:=by
 have:=h.2 (l.length-16) (by omega) (by omega)
 rwa [show(l.length-16) % 16=l.length % 16 by omega]at this
structure e8 where
 d:Int
 ws:List UInt32
 ring:List UInt8
structure e8.ok(s:e8)(l:List UInt8):Prop where
 ws:(s.d=0∧s.ws.length=256)∨(s.d=1∧s.ws=bm)
 ring:jU s.ring l
theorem e8.ok.wl{s:e8}{l:List UInt8}(h:s.ok l):s.ws.length=256:=by
 rcases h.ws with h|h
 ·exact h.2
 ·rw[h.2];exact bl
theorem e8.ok.clear{s:e8}{l:List UInt8}(h:s.ok l):s.ok []:=⟨h.ws,.nil h.ring.1⟩
abbrev j0(g:Nat)(s:e8)(l:List UInt8):bc:=aE g 404 (fh s.d 0 s.ws s.ring l.length (dX bm l))
def kc:e8:=⟨0,List.replicate 256 0,List.replicate 16 0⟩
theorem ui:kc.ok []:=⟨.inl ⟨rfl,List.length_replicate ..⟩,.nil (List.length_replicate ..)⟩
theorem Ff{g n:Nat}{d:Int}{ws:List UInt32}{ring:List UInt8}{s:UInt32}{c:UInt8}(hd:(d=0∧ws.length=256)∨(d=1∧ws=bm)):b6 Tryz.prog 309 [.pointer (some ⟨g,0,none⟩),B8 c] [aE g 404 (fh d 0 ws ring n s)] [] (fun v_ X_ S_=>v_=(Wd (bm.getD c.toNat 0))∧X_=[aE g 404 (fh 1 0 bm ring n s)]∧S_=[]):=by
 rcases hd with⟨rfl,h⟩|⟨rfl,rfl⟩
 ·exact GN h
 ·exact Cu
theorem wR:b6 Tryz.prog 303 [] [] [] (fun v_ X_ S_=>∃g,v_=(.pointer (some ⟨g,0,none⟩))∧X_=[j0 g kc []]∧S_=[]):=by
 refine aI (N:=3) Tryz.func303 rfl rfl (by simp) fun b=> ?_
 refine ah<|aj<|hy (fun _=>ab rfl)<|ai<|ae<|ah<|aj<|hy (fun _=>dK E6 rfl (by kernel_rfl))<| ?_
 refine hx (bu rfl (fun g2=> ?_))
 refine hy (fun _=>ab rfl)<|ai<|al (ρ' :=[(0,_)]) ⟨rfl,trivial⟩<|ak (X' :=[_]) (S' :=[]) (fun _ m=>m)<|ae<|aS<| ?_
 refine ak (fun w m=>m.bs 0 rfl (show _=aE g2 404 (fh kc.d 0 kc.ws kc.ring ([]:List UInt8).length (dX bm []))from congrArg (aE _ _) (aW _))) ?_
 exact a6 trivial rfl rfl [0] rfl [] rfl ⟨_,rfl,rfl,rfl⟩
theorem EB{g:Nat}{s:e8}{l:List UInt8}{c:UInt8}(hs:s.ok l)(hn:l.length≤1000000):b6 Tryz.prog 304 [.pointer (some ⟨g,0,none⟩),B8 c] [j0 g s l] [] (fun v_ X_ S_=>∃s1,v_=(Wd (dX bm (l++[c])))∧X_=[j0 g s1 (l++[c])]∧S_=[]∧(s1.ok (l++[c]))):=by
 have hw:=hs.wl
 have hr:=hs.ring.1
 have hsn:=ua bm l c
 refine aI (N:=66) Tryz.func304 rfl rfl (by simp) fun b=> ?_
 refine ah<|aj<|hy (fun _=>ab rfl)<|ai<|ae<|ah<|aj<|hy (fun _=>aa rfl)<|hy (fun _=>aM rfl)<|hy (fun _=>aD rfl AM (by decide))<|hy (fun _=>ff rfl rfl)<|hy (fun _=>ab rfl)<|ai<|al (ρ' :=[(5,_),(4,_),(0,_),(1,_)]) ⟨rfl,rfl,rfl,rfl,trivial⟩<|ae<|ah<|aj<|hy (fun _=>aa rfl)<|hy (fun _=>aM rfl)<|hy (fun _=>aD rfl jC (by decide))<|hy (fun m=>aq rfl dq ((m.aQ 0 rfl).cell (vM hw hr)))<|hy (fun _=>yV (gh rfl rfl (by omega) (by omega)) ((show Value.int .i64 ((l.length:Int) % 16)= .int .i64 ((l.length % 16:Nat):Int) by rw[Int.natCast_emod];rfl)))<|hy (fun _=>ab rfl)<|ai<|al (ρ' :=[(6,_),(5,_),(4,_),(0,_),(1,_)]) ⟨rfl,rfl,rfl,rfl,rfl,trivial⟩<|ae<|ah<|aj<|hy (fun _=>aa rfl)<|hy (fun _=>aa rfl)<|hy (fun _=>aM rfl)<|hy (fun _=>aD rfl jw (by decide))<|hy (fun m=>aq rfl bG ((m.aQ 0 rfl).cell (vo hw hr)))<| ?_
 refine hx (au rfl Tryz.call296 (B3 (by decide) (by decide) (n:=1) (x:=(dX bm l))) [] rfl [] rfl ?_)
 rintro _ _ _ ⟨rfl,rfl,rfl⟩
 refine hy (fun _=>aa rfl)<|hy (fun _=>aa rfl)<| ?_
 have e1:gE (32-1) (dX bm l)=jG (dX bm l):=qR (n:=1) (by decide)
 rw[e1]
 refine hx (ek rfl rfl Tryz.call309 (Ff hs.ws (c:=c)) [0] rfl [] rfl ?_)
 rintro _ _ _ ⟨rfl,rfl,rfl⟩
 refine hy (fun _=>cG rfl rfl)<|hy (fun _=>aM rfl)<|hy (fun _=>aD rfl jw (by decide))<| ?_
 refine cx (bU 0 rfl rfl rfl br rfl (by(rw[gZ bl hr];try dsimp only);omega) ?_)
 refine aG (fun w m=>m.bs 0 rfl (show _=aE g 404 (fh 1 0 bm s.ring l.length (jG (dX bm l) ^^^ bm.getD c.toNat 0))from congrArg (aE _ _) (oR bl hr))) ?_
 refine ai<|al (ρ' :=[(6,_),(5,_),(4,_),(0,_),(1,_)]) ⟨rfl,rfl,rfl,rfl,rfl,trivial⟩<|ak (X' :=[_]) (S' :=[]) (fun _ m=>m)<|ae<|ah<|ah<|aj<|hy (fun _=>aa rfl)<|hy (fun _=>aM rfl)<|hy (fun _=>aD rfl jC (by decide))<|hy (fun m=>aq rfl dq ((m.aQ 0 rfl).cell (vM bl hr)))<|hy (fun _=>ec rfl rfl)<|ai<|al (ρ' :=[(32,_),(6,_),(5,_),(4,_),(0,_),(1,_)]) ⟨rfl,rfl,rfl,rfl,rfl,rfl,trivial⟩<|ae<| ?_
 refine cj rfl (fun hge=> ?_) (fun hge=> ?_)
 ·have hl16:16≤l.length:=by omega
  rw[if_pos hl16]at hsn
  refine pg [0] [] rfl rfl [11,12,16] [(0,some 2),(1,some 2),(2,some 2),(3,some 2),(4,some 0),(5,some 2),(6,some 0),(7,some 2),(8,some 0),(9,some 0),(10,some 0),(11,none),(12,none),(13,some 2),(14,some 2),(15,some 2),(16,none)] (by kernel_rfl) (by kernel_rfl) rfl 2<|an (aa rfl)<|an (aM rfl)<|an (aD rfl jw (by decide))<|b5 (fun m=>aq rfl bG ((m.aQ 0 rfl).cell (vo bl hr)))<|an (aa rfl)<|an (aa rfl)<|an (aa rfl)<|an (aM rfl)<|an (aD rfl rb (by decide))<|an (bR rfl rfl Tryz.underlying402 dB rfl (by omega))<|b5 (fun m=>aq rfl iv (mT (m.aQ 0 rfl) (Fc bl hr (by omega))))<| ?_
  refine di (ek rfl rfl Tryz.call309 (Cu (c:=(s.ring.getD (l.length % 16) 0))) [0] rfl [] rfl ?_)
  rintro _ _ _ ⟨rfl,rfl,rfl⟩
  refine⟨(fun _=>wk [0] [] rfl rfl), ?_⟩
  refine di (au rfl Tryz.call296 (B3 (by decide) (by decide) (n:=16) (x:=(bm.getD (s.ring.getD (l.length % 16) 0).toNat 0))) [] rfl [] rfl ?_)
  rintro _ _ _ ⟨rfl,rfl,rfl⟩
  refine⟨(fun _=>wk [0] [] rfl rfl), ?_⟩
  have e2:gE (32-16) (bm.getD (s.ring.getD (l.length % 16) 0).toNat 0)=lf (bm.getD (l.getD (l.length-16) 0).toNat 0) 16:=by rw[qR (n:=16) (by decide),hs.ring.last hl16]
  rw[e2]
  refine an (cG rfl rfl)<|an (aM rfl)<|an (aD rfl jw (by decide))<| ?_
  refine fS (bU 0 rfl rfl rfl br rfl (by(rw[gZ bl hr];try dsimp only);omega) ⟨(fun h=>absurd h (by decide)), ?_⟩)
  refine dO (fun w m=>m.bs 0 rfl (show _=aE g 404 (fh 1 0 bm s.ring l.length (dX bm (l++[c])))from congrArg (aE _ _) (by rw[hsn];exact oR bl hr))) ?_
  refine bo<|al (ρ' :=[(32,_),(6,_),(5,_),(4,_),(0,_),(1,_)]) ⟨rfl,rfl,rfl,rfl,rfl,rfl,trivial⟩<|ak (X' :=[_]) (S' :=[]) (fun _ m=>m)<|ae<|ah<|aj<|hy (fun _=>aa rfl)<|hy (fun _=>aa rfl)<|hy (fun _=>aa rfl)<|hy (fun _=>aM rfl)<|hy (fun _=>aD rfl rb (by decide))<|hy (fun _=>bR rfl rfl Tryz.underlying402 dB rfl (by omega))<| ?_
  refine cx (bU 0 rfl rfl rfl dB rfl (by(rw[gZ bl hr];try dsimp only);omega) ?_)
  refine aG (fun w m=>m.bs 0 rfl (show _=aE g 404 (fh 1 0 bm (s.ring.set (l.length % 16) c) l.length (dX bm (l++[c])))from congrArg (aE _ _) (show(fh 1 0 bm s.ring l.length (dX bm (l++[c]))).set (259+l.length % 16) (B8 c)=_ from sk bl hr (by omega)))) ?_
  have hr2:(s.ring.set (l.length % 16) c).length=16:=by rw[List.length_set];exact hr
  refine ai<|al (ρ' :=[(32,_),(6,_),(5,_),(4,_),(0,_),(1,_)]) ⟨rfl,rfl,rfl,rfl,rfl,rfl,trivial⟩<|ak (X' :=[_]) (S' :=[]) (fun _ m=>m)<|ae<|ah<|aj<|hy (fun _=>aa rfl)<|hy (fun _=>aM rfl)<|hy (fun _=>aD rfl jC (by decide))<|hy (fun m=>aq rfl dq ((m.aQ 0 rfl).cell (vM bl hr2)))<|hy (fun _=>aL rfl rfl (bx (by omega) (by omega)))<|hy (fun _=>aM rfl)<|hy (fun _=>aD rfl jC (by decide))<| ?_
  refine cx (bU 0 rfl rfl rfl ta rfl (by(rw[gZ bl hr2];try dsimp only);omega) ?_)
  refine aG (fun w m=>m.bs 0 rfl (show _=aE g 404 (fh 1 0 bm (s.ring.set (l.length % 16) c) (l++[c]).length (dX bm (l++[c])))from congrArg (aE _ _) (by rw[List.length_append];exact oI (m:=l.length+1) bl hr2))) ?_
  refine ai<|al (ρ' :=[(32,_),(6,_),(5,_),(4,_),(0,_),(1,_)]) ⟨rfl,rfl,rfl,rfl,rfl,rfl,trivial⟩<|ak (X' :=[_]) (S' :=[]) (fun _ m=>m)<|ae<|ah<|aj<|hy (fun _=>aa rfl)<|hy (fun _=>aM rfl)<|hy (fun _=>aD rfl jw (by decide))<|hy (fun m=>aq rfl bG ((m.aQ 0 rfl).cell (vo bl hr2)))<|hy (fun _=>ab rfl)<|ai<|al (ρ' :=[(4,_),(32,_),(6,_),(5,_),(0,_),(1,_)]) ⟨rfl,rfl,rfl,rfl,rfl,rfl,trivial⟩<|ae<|aS<| ?_
  exact a6 trivial rfl rfl [0] rfl [] rfl ⟨(⟨1,bm,s.ring.set (l.length % 16) c⟩:e8),rfl,rfl,rfl,⟨.inr ⟨rfl,rfl⟩,hs.ring.snoc c⟩⟩
 ·have hl16:¬16≤l.length:=by omega
  rw[if_neg hl16]at hsn
  rw[←hsn]
  refine aB<|ae<|ah<|aj<|hy (fun _=>aa rfl)<|hy (fun _=>aa rfl)<|hy (fun _=>aa rfl)<|hy (fun _=>aM rfl)<|hy (fun _=>aD rfl rb (by decide))<|hy (fun _=>bR rfl rfl Tryz.underlying402 dB rfl (by omega))<| ?_
  refine cx (bU 0 rfl rfl rfl dB rfl (by(rw[gZ bl hr];try dsimp only);omega) ?_)
  refine aG (fun w m=>m.bs 0 rfl (show _=aE g 404 (fh 1 0 bm (s.ring.set (l.length % 16) c) l.length (dX bm (l++[c])))from congrArg (aE _ _) (show(fh 1 0 bm s.ring l.length (dX bm (l++[c]))).set (259+l.length % 16) (B8 c)=_ from sk bl hr (by omega)))) ?_
  have hr2:(s.ring.set (l.length % 16) c).length=16:=by rw[List.length_set];exact hr
  refine ai<|al (ρ' :=[(32,_),(6,_),(5,_),(4,_),(0,_),(1,_)]) ⟨rfl,rfl,rfl,rfl,rfl,rfl,trivial⟩<|ak (X' :=[_]) (S' :=[]) (fun _ m=>m)<|ae<|ah<|aj<|hy (fun _=>aa rfl)<|hy (fun _=>aM rfl)<|hy (fun _=>aD rfl jC (by decide))<|hy (fun m=>aq rfl dq ((m.aQ 0 rfl).cell (vM bl hr2)))<|hy (fun _=>aL rfl rfl (bx (by omega) (by omega)))<|hy (fun _=>aM rfl)<|hy (fun _=>aD rfl jC (by decide))<| ?_
  refine cx (bU 0 rfl rfl rfl ta rfl (by(rw[gZ bl hr2];try dsimp only);omega) ?_)
  refine aG (fun w m=>m.bs 0 rfl (show _=aE g 404 (fh 1 0 bm (s.ring.set (l.length % 16) c) (l++[c]).length (dX bm (l++[c])))from congrArg (aE _ _) (by rw[List.length_append];exact oI (m:=l.length+1) bl hr2))) ?_
  refine ai<|al (ρ' :=[(32,_),(6,_),(5,_),(4,_),(0,_),(1,_)]) ⟨rfl,rfl,rfl,rfl,rfl,rfl,trivial⟩<|ak (X' :=[_]) (S' :=[]) (fun _ m=>m)<|ae<|ah<|aj<|hy (fun _=>aa rfl)<|hy (fun _=>aM rfl)<|hy (fun _=>aD rfl jw (by decide))<|hy (fun m=>aq rfl bG ((m.aQ 0 rfl).cell (vo bl hr2)))<|hy (fun _=>ab rfl)<|ai<|al (ρ' :=[(4,_),(32,_),(6,_),(5,_),(0,_),(1,_)]) ⟨rfl,rfl,rfl,rfl,rfl,rfl,trivial⟩<|ae<|aS<| ?_
  exact a6 trivial rfl rfl [0] rfl [] rfl ⟨(⟨1,bm,s.ring.set (l.length % 16) c⟩:e8),rfl,rfl,rfl,⟨.inr ⟨rfl,rfl⟩,hs.ring.snoc c⟩⟩
theorem BZ{g:Nat}{s:e8}{l:List UInt8}(hs:s.ok l):b6 Tryz.prog 305 [.pointer (some ⟨g,0,none⟩)] [j0 g s l] [] (fun v_ X_ S_=>v_=(.tuple #[])∧X_=[j0 g s []]∧S_=[]):=by
 have hw:=hs.wl
 have hr:=hs.ring.1
 refine aI (N:=8) Tryz.func305 rfl rfl (by simp) fun b=> ?_
 refine bd (fun w m=>m.bs 0 rfl (show _=aE g 404 (fh s.d 0 s.ws s.ring l.length (dX bm l))from rfl)) ?_
 refine aj<|hy (fun _=>aa rfl)<|hy (fun _=>aa rfl)<|hy (fun _=>aM rfl)<|hy (fun _=>aD rfl jC (by decide))<| ?_
 refine cx (bU 0 rfl rfl rfl ta rfl (by(rw[gZ hw hr];try dsimp only);omega) ?_)
 refine aG (fun w m=>m.bs 0 rfl (show _=aE g 404 (fh s.d 0 s.ws s.ring 0 (dX bm l))from congrArg (aE _ _) (oI (m:=0) hw hr))) ?_
 refine hy (fun _=>aM rfl)<|hy (fun _=>aD rfl jw (by decide))<| ?_
 refine cx (bU 0 rfl rfl rfl br rfl (by(rw[gZ hw hr];try dsimp only);omega) ?_)
 refine aG (fun w m=>m.bs 0 rfl (show _=aE g 404 (fh s.d 0 s.ws s.ring ([]:List UInt8).length (dX bm []))from congrArg (aE _ _) (oR (x:=0) hw hr))) ?_
 refine ai<|al (ρ' :=[(0,_)]) ⟨rfl,trivial⟩<|ak (X' :=[_]) (S' :=[]) (fun _ m=>m)<| ?_
 exact fa trivial rfl [0] rfl [] rfl ⟨rfl,rfl,rfl⟩
end Go.Proofs.YtmibdabdlgmafaaGreatDoor
end
section
set_option maxRecDepth 20000
namespace Go.Proofs.YtmibdabdlgmafaaGreatDoor
open Go.Eng Go.Hx Go.Extern
theorem text(A:Option Addr)(n c:Nat)(l:List UInt8)(w:World)(hr:Rd w 1 A n (aP l))(hn:n≤70368744177664):
  Calls Tryz.prog 177 #[.slice A n c] w fun e w' =>e= .returned (.string (strOf (ct l)))∧Fr No w w' :=by
 have hl:l.length=n:=by have:=hr.1;rw[az]at this;omega
 refine enter (N:=28) Tryz.func177 rfl rfl (by simp) ?_
 refine bq<|bE<|nq (ab rfl)<|bF<|aY<|bq<|bE<|nq (ab rfl)<|bF<|aY<|bq<|bq<|bE<|nq (aa rfl)<|nq (aT rfl Tryz.underlying27)<|nq (aa rfl)<|bF<|cb (ag (t:=7) rfl<|ag (t:=6) rfl<|ag (t:=3) rfl<|ag (t:=2) rfl<|ag (t:=0) rfl<|aJ)<|aY<|dz<| ?_
 refine rp (fun k _=>n-k) (fun k v=>[(0,.slice A n c),(3,v),(6,.int .i64 n),(7,.int .i64 (k:Nat))]) (fun k v w' =>k≤n∧Go.Eng.Own w' w.heap.size 5 1 v (2*k) (aP (ct (l.take k)))∧Fr No w w') 0 (.slice none 0 0) (⟨Nat.zero_le _,Own.nil w w.heap.size _ 1,Fr.refl _ _⟩) (ag (t:=0) rfl<|ag (t:=3) rfl<|ag (t:=6) rfl<|ag (t:=7) rfl<|aJ) (fun k v w1 ⟨hk,ho,hf⟩=> ?_)
 refine bq<|bE<|nq (bC rfl rfl)<|bF<|aY<|bq<| ?_
 refine vY rfl (fun h=> ?_) (fun h=> ?_)
 ·have hkn:k<n:=by omega
  have hb:=(l.getD k 0).toNat_lt
  refine gF<|aY<|bq<|dz<|bq<|bE<|nq (aa rfl)<|nq (ab rfl)<|bF<|cb (ag (t:=4) rfl<|ag (t:=8) rfl<|ag (t:=0) rfl<|ag (t:=3) rfl<|ag (t:=6) rfl<|ag (t:=7) rfl<|aJ)<|aY<| ?_
  refine FZ [(0,false),(1,false),(2,false),(3,false),(4,false),(5,false),(6,false),(7,false),(8,false),(9,false),(10,false),(11,false),(12,false),(13,true),(14,true),(15,false)] (by kernel_rfl) (by kernel_rfl) rfl (fun w' =>Fr No w w') (hf.dM (Fr.drew _)) (fun w2 hf2 hS2=> ?_)
  refine sq (fun w_ hS_=>aa rfl)<|sq (fun w_ hS_=>aa rfl)<|sq (fun w_ hS_=>aa rfl)<|sq (fun w_ hS_=>aN rfl rfl Tryz.underlying27 dB hr.2.1 rfl (by omega))<|sq (fun w_ hS_=>aq rfl iv (((hr.um hS_).cell (bB (by omega)))))<|sq (fun w_ hS_=>lQ (p:=16) rfl rfl (by decide) (by decide) (by decide))<|sq (fun w_ hS_=>iQ rfl rfl Tryz.underlying9 rfl ((AK _)))<|sq (fun w_ hS_=>aa rfl)<|sq (fun w_ hS_=>aa rfl)<|sq (fun w_ hS_=>aN rfl rfl Tryz.underlying27 dB hr.2.1 rfl (by omega))<|sq (fun w_ hS_=>aq rfl iv (((hr.um hS_).cell (bB (by omega)))))<|sq (fun w_ hS_=>fU (by simp) rfl rfl ((E0 _)))<|sq (fun w_ hS_=>iQ rfl rfl Tryz.underlying9 rfl ((AP _)))<| ?_
  refine sx (oA Tryz.underlying27 eA rfl rfl rfl (by simp[Value.cells,B8]) (by decide) (by decide) fun g w3 hg hf3 hb3=> ?_)
  have hS3:Fr No w w3:=hS2.dM hf3
  refine⟨hS3, ?_⟩
  refine sx (lN rfl rfl Tryz.underlying27 Tryz.underlying27 (by exact .inl rfl) eA rfl (ho.um (hf2.dM hf3)) (Src.bW (Own.rd (Own.made hb3 (Nat.le_refl _) (Nat.le_refl _) (by decide) (by rfl))).2.2) (by simp[Value.cells];exact⟨rfl,rfl⟩) (by unfold maxLen;omega) (by omega) hS3.size fun v4 w4 ho4 hf4 hv4=> ?_)
  have hS4:Fr No w w4:=hS3.new hf4 (fun i hi=>(ho.from hi).1)
  refine⟨hS4, ?_⟩
  refine sq (fun w_ hS_=>ab rfl)<|send<|cb (ag (t:=3) rfl<|ag (t:=4) rfl<|ag (t:=8) rfl<|ag (t:=0) rfl<|ag (t:=6) rfl<|ag (t:=7) rfl<|aJ)<|gJ<|aY<|bE<|nq (aL rfl rfl (bx (by omega) (by omega)))<|nq (aa rfl)<|bF<|cb (ag (t:=7) rfl<|ag (t:=3) rfl<|ag (t:=4) rfl<|ag (t:=8) rfl<|ag (t:=0) rfl<|ag (t:=6) rfl<|aJ)<| ?_
  refine oU (k+1) v4 (ag (t:=0) rfl<|ag (t:=3) rfl<|ag (t:=6) rfl<|ag (t:=7) rfl<|aJ) (⟨by omega, ?_,hS4⟩) (by omega)
  have e1:2*k+2=2*(k+1):=by omega
  have e2:ct (l.take (k+1))=ct (l.take k)++ub (l.getD k 0):=p6 (by omega)
  rw[e1]at ho4
  rw[e2,bz]
  exact ho4
 ·obtain rfl:k=n:=by omega
  obtain⟨A',c',rfl,hc'⟩:=ho.slice
  have hro:=(Own.rd ho).2.2
  rw[List.take_of_length_le (by omega)]at hro
  refine kO<|cd<|cd<|dh<|aY<|bq<|bE<|nq (aa rfl)<|nq (mf rfl Tryz.underlying27 Tryz.underlying5 Tryz.underlying9 hro)<|nq (ab rfl)<|bF<|cb (ag (t:=2) rfl<|ag (t:=8) rfl<|ag (t:=0) rfl<|ag (t:=3) rfl<|ag (t:=6) rfl<|ag (t:=7) rfl<|aJ)<|aY<|gW<| ?_
  exact gV trivial rfl rfl ⟨rfl,hf⟩
theorem FW(A:Option Addr)(n c:Nat)(l:List UInt8)(w:World)(hr:Rd w 1 A n (aP l))(hn:n≤70368744177664):
  Calls Tryz.prog 182 #[.slice A n c] w fun e w' =>e= .returned (.string (strOf (ct l)))∧Fr No w w' :=by
 have hl:l.length=n:=by have:=hr.1;rw[az]at this;omega
 refine enter (N:=40) Tryz.func182 rfl rfl (by simp) ?_
 refine bq<|bE<|nq (ab rfl)<|bF<|aY<|bq<|bE<|nq (ab rfl)<|bF<|aY<|bq<|bE<|nq (ab rfl)<|bF<|aY<|bq<|bq<|bE<|nq (ab rfl)<|bF<|aY<|dz<| ?_
 refine mO (fun k=>n-k) (fun k=>[(0,.slice A n c),(3,.string ⟨#[48,49,50,51,52,53,54,55,56,57,97,98,99,100,101,102]⟩),(4,.string (strOf (ct (l.take k)))),(5,.int .i64 (k:Nat))]) (fun k w' =>k≤n∧Fr No w w') 0 (⟨Nat.zero_le _,Fr.refl _ _⟩) (ag (t:=0) rfl<|ag (t:=3) rfl<|ag (t:=4) rfl<|ag (t:=5) rfl<|aJ) (fun k w1 ⟨hk,hf⟩=> ?_)
 refine bq<|bq<|bE<|nq (aa rfl)<|nq (aa rfl)<|nq (aT rfl Tryz.underlying27)<|nq (bC rfl rfl)<|bF<|cb (ag (t:=11) rfl<|ag (t:=0) rfl<|ag (t:=3) rfl<|ag (t:=4) rfl<|ag (t:=5) rfl<|aJ)<|aY<| ?_
 refine vY rfl (fun h=> ?_) (fun h=> ?_)
 ·have hkn:k<n:=by omega
  have hb:=(l.getD k 0).toNat_lt
  have hr1:=hr.um hf
  refine gF<|aY<|bq<|dz<|bq<|bE<|nq (aa rfl)<|nq (aa rfl)<|nq (aN rfl rfl Tryz.underlying27 dB hr.2.1 rfl (by omega))<|nq (aq rfl iv (hr1.cell (bB (by omega))))<|nq (bS rfl Tryz.underlying5 Tryz.underlying3 ((zX _)))<|nq (jR rfl rfl (by omega) (by omega) (bx (by omega) (by omega)))<|nq (ab rfl)<|bF<|cb (ag (t:=6) rfl<|ag (t:=11) rfl<|ag (t:=0) rfl<|ag (t:=3) rfl<|ag (t:=4) rfl<|ag (t:=5) rfl<|aJ)<|aY<|bq<|bE<|nq (aa rfl)<|nq (aa rfl)<|nq (aN rfl rfl Tryz.underlying27 dB hr.2.1 rfl (by omega))<|nq (aq rfl iv (hr1.cell (bB (by omega))))<|nq (bS rfl Tryz.underlying5 Tryz.underlying3 ((zX _)))<|nq (gh rfl rfl (by omega) (by omega))<|nq (ab rfl)<|bF<|cb (ag (t:=7) rfl<|ag (t:=6) rfl<|ag (t:=11) rfl<|ag (t:=0) rfl<|ag (t:=3) rfl<|ag (t:=4) rfl<|ag (t:=5) rfl<|aJ)<|aY<| ?_
  have hll:=dR (l.take k)
  have htl:(l.take k).length≤k:=List.length_take_le _ _
  refine FZ [(0,false),(1,false),(2,false),(3,false),(4,false),(5,false),(6,false),(7,false),(8,false),(9,false),(10,false),(11,false),(12,false),(13,false)] (by kernel_rfl) (by kernel_rfl) rfl (fun w' =>Fr No w w') (hf.dM (Fr.drew _)) (fun w2 hf2 hS2=> ?_)
  refine sq (fun w_ hS_=>aa rfl)<|sq (fun w_ hS_=>aa rfl)<|sq (fun w_ hS_=>aa rfl)<|sq (fun w_ hS_=>aa rfl)<|sq (fun w_ hS_=>aL rfl rfl (bx (by omega) (by omega)))<|sq (fun w_ hS_=>p8 rfl rfl rfl Tryz.underlying9 (show(((l.getD k 0).toNat/16:Nat):Int)=_ by omega) (show(((l.getD k 0).toNat/16+1:Nat):Int)=_ by omega) ((by omega)) ((by show _≤16;omega)))<|sq (fun w_ hS_=>iu rfl rfl ((by simp[dU];omega)))<|sq (fun w_ hS_=>aa rfl)<|sq (fun w_ hS_=>aa rfl)<|sq (fun w_ hS_=>aa rfl)<|sq (fun w_ hS_=>aL rfl rfl (bx (by omega) (by omega)))<|sq (fun w_ hS_=>p8 rfl rfl rfl Tryz.underlying9 (show(((l.getD k 0).toNat % 16:Nat):Int)=_ by omega) (show(((l.getD k 0).toNat % 16+1:Nat):Int)=_ by omega) ((by omega)) ((by show _≤16;omega)))<|sq (fun w_ hS_=>yV (iu rfl rfl ((by simp[dU,ByteArray.size_append];omega))) (congrArg Value.string (w6 (by omega))))<|sq (fun w_ hS_=>ab rfl)<|send<|cb (ag (t:=4) rfl<|ag (t:=7) rfl<|ag (t:=6) rfl<|ag (t:=11) rfl<|ag (t:=0) rfl<|ag (t:=3) rfl<|ag (t:=5) rfl<|aJ)<|gJ<|aY<|bE<|nq (aa rfl)<|nq (aL rfl rfl (bx (by omega) (by omega)))<|nq (ab rfl)<|bF<|cb (ag (t:=5) rfl<|ag (t:=4) rfl<|ag (t:=7) rfl<|ag (t:=6) rfl<|ag (t:=11) rfl<|ag (t:=0) rfl<|ag (t:=3) rfl<|aJ)<| ?_
  refine mi (k+1) (ag (t:=0) rfl<|ag (t:=3) rfl<|ag (t:=4) rfl<|ag (t:=5) rfl<|aJ) (⟨by omega,hS2⟩) (by omega)
 ·obtain rfl:k=n:=by omega
  refine kO<|cd<|cd<|dh<|aY<|bq<|bE<|nq (aa rfl)<|nq (ab rfl)<|bF<|cb (ag (t:=2) rfl<|ag (t:=11) rfl<|ag (t:=0) rfl<|ag (t:=3) rfl<|ag (t:=4) rfl<|ag (t:=5) rfl<|aJ)<|aY<|gW<| ?_
  refine gV trivial rfl rfl ⟨?_,hf⟩
  rw[List.take_of_length_le (by omega)]
theorem name(a:List UInt8)(w:World)(ha:a.length=32):
  Calls Tryz.prog 104 #[.agg (aP a).toArray] w fun e w' =>e= .returned (.string (strOf (ct a)))∧Fr No w w' :=by
 refine enter (N:=5) Tryz.func104 rfl rfl (by simp) ?_
 refine bq<|bE<| ?_
 refine nx (s7 rfl fun g1 w1 hg1 hf1 hb1=> ?_)
 rw[aW]at hb1
 refine nq (ab rfl)<|bF<|aY<|bq<|bE<|nq (Bu rfl Tryz.underlying53 dB)<| ?_
 refine nx (jl rfl Tryz.call177 (text _ _ _ a _ (Rd.jx hb1 (by rw[az];omega)) (by omega)) ?_)
 rintro e_ w2 ⟨rfl,hf2⟩
 refine⟨_,rfl, ?_⟩
 refine nq (ab rfl)<|bF<|cb (ag (t:=2) rfl<|ag (t:=1) rfl<|ag (t:=0) rfl<|aJ)<|aY<|gW<| ?_
 exact gV trivial rfl rfl ⟨rfl,hf1.dM hf2⟩
theorem zy(v:Value)(w:World):(Extern.ReflectliteType.typeOf #[.iface 47 v]).run Tryz.prog w= .ok (.iface 312 (.agg #[.pointer (some ⟨2,47,none⟩)])) w:=by kernel_rfl
theorem rW (w : World) : ((Extern.ReflectliteType.method fun t => do Rtype.noPackHeld "Comparable" t; pure (.bool (← typeInfo t).comparable)) #[.agg #[.pointer (some ⟨2, 47, none⟩)]]).run Tryz.prog w = .ok (.bool true) w := by kernel_rfl
theorem kT (v : Value) (w : World) : (Go.method (Tryz.prog.types.size + Made.depth) 312 v "Comparable").run Tryz.prog w = .ok (341, v) w := by kernel_rfl
theorem GU(v:Value)(xT:TypeId)(w:World):(Instr.typeAssert (.iface 47 v) xT 314 true).run Tryz.prog w= .ok (.tuple #[.nilIface,.bool false]) w:=run_typeAssert_lacksB Tryz.underlying314 (by kernel_rfl) (by kernel_rfl) v xT w
theorem yX(v:Value)(xT:TypeId)(w:World):(Instr.typeAssert (.iface 47 v) xT 317 true).run Tryz.prog w= .ok (.tuple #[.nilIface,.bool false]) w:=run_typeAssert_lacksB Tryz.underlying317 (by kernel_rfl) (by kernel_rfl) v xT w
theorem wm(v:Value)(xT:TypeId)(w:World):(Instr.typeAssert (.iface 47 v) xT 319 true).run Tryz.prog w= .ok (.tuple #[.nilIface,.bool false]) w:=run_typeAssert_lacksB Tryz.underlying319 (by kernel_rfl) (by kernel_rfl) v xT w
theorem F8(k m:Int)(w:World):
  Calls Tryz.prog 176 #[.iface 47 (.int .i64 k),.iface 47 (.int .i64 m),.bool true] w fun e w' =>e= .returned (.bool (decide (k=m)))∧w=w' :=by
 refine enter (N:=54) Tryz.func176 rfl rfl (by simp) ?_
 refine bq<|bE<|nq (ab rfl)<|bF<|aY<|dz<| ?_
 refine mO (fun _=>0) (fun _=>[(0,.iface 47 (.int .i64 k)),(1,.iface 47 (.int .i64 m)),(2,.bool true)]) (fun _ w' =>w=w') 0 (rfl) (ag (t:=0) rfl<|ag (t:=1) rfl<|ag (t:=2) rfl<|aJ) (fun i w1 hw=> ?_)
 obtain rfl:=hw
 refine dz<|bq<|bq<|bE<|nq (aa rfl)<|nq (aa rfl)<|ng rfl rfl rfl (aa rfl)<|ng rfl rfl rfl (aa rfl)<|ng rfl rfl rfl (((Ek rfl rfl Tryz.underlying247 (by kernel_rfl) Tryz.underlying47)))<|nq (bM rfl rfl)<|bF<|cb (ag (t:=19) rfl<|ag (t:=0) rfl<|ag (t:=1) rfl<|ag (t:=2) rfl<|aJ)<|aY<| ?_
 refine vY rfl (fun h=> ?_) (fun h=> ?_)
 ·refine bq<|bE<|nq (ab rfl)<|bF<|aY<|gW<|kn<|gK<|kn<|gK<| ?_
  refine gV trivial rfl rfl ⟨?_,rfl⟩
  rw[decide_eq_true h]
 ·refine gF<|aY<|bq<|bq<|bE<|nq (aa rfl)<|nq (qu rfl ((GU _ _ _)))<|nq (aa rfl)<|nq (aH rfl rfl)<|nq (aH rfl rfl)<|nq (ab rfl)<|nq (ab rfl)<|bF<|cb (ag (t:=8) rfl<|ag (t:=7) rfl<|ag (t:=19) rfl<|ag (t:=0) rfl<|ag (t:=1) rfl<|ag (t:=2) rfl<|aJ)<|aY<|bq<|bE<|nq (aa rfl)<|nq (aa rfl)<|vT rfl rfl rfl (by decide)<|vT rfl rfl rfl (by decide)<|vT rfl rfl rfl (by decide)<|nq (bn rfl rfl)<|bF<|cb (ag (t:=30) rfl<|ag (t:=8) rfl<|ag (t:=7) rfl<|ag (t:=19) rfl<|ag (t:=0) rfl<|ag (t:=1) rfl<|ag (t:=2) rfl<|aJ)<|aY<| ?_
  refine wP rfl (rfl) ?_
  refine gF<|aY<|bq<|bE<|nq (aa rfl)<|bF<|aY<|dz<|bq<|bE<|nq (qu rfl ((yX _ _ _)))<|nq (aH rfl rfl)<|nq (aH rfl rfl)<|bF<|cb (ag (t:=34) rfl<|ag (t:=33) rfl<|ag (t:=31) rfl<|ag (t:=30) rfl<|ag (t:=8) rfl<|ag (t:=7) rfl<|ag (t:=19) rfl<|ag (t:=0) rfl<|ag (t:=1) rfl<|ag (t:=2) rfl<|aJ)<|aY<| ?_
  refine wP rfl (rfl) ?_
  refine bq<|bE<|nq (qu rfl ((wm _ _ _)))<|nq (aH rfl rfl)<|nq (aH rfl rfl)<|bF<|cb (ag (t:=41) rfl<|ag (t:=40) rfl<|ag (t:=34) rfl<|ag (t:=33) rfl<|ag (t:=31) rfl<|ag (t:=30) rfl<|ag (t:=8) rfl<|ag (t:=7) rfl<|ag (t:=19) rfl<|ag (t:=0) rfl<|ag (t:=1) rfl<|ag (t:=2) rfl<|aJ)<|aY<| ?_
  refine wP rfl (rfl) ?_
  refine bq<|bE<|nq (ab rfl)<|bF<|cb (ag (t:=41) rfl<|ag (t:=40) rfl<|ag (t:=34) rfl<|ag (t:=33) rfl<|ag (t:=31) rfl<|ag (t:=30) rfl<|ag (t:=8) rfl<|ag (t:=7) rfl<|ag (t:=19) rfl<|ag (t:=0) rfl<|ag (t:=1) rfl<|ag (t:=2) rfl<|aJ)<|aY<|bq<|bE<|nq (ab rfl)<|bF<|aY<|gW<|gK<|gK<|kn<|gK<| ?_
  refine gV trivial rfl rfl ⟨?_,rfl⟩
  rw[decide_eq_false h]
theorem y8(k m:Int)(w:World):
    Calls Tryz.prog 103 #[.iface 47 (.int .i64 k),.iface 47 (.int .i64 m)] w fun e w' =>e= .returned (.bool (decide (k=m)))∧w=w' :=by
  refine enter (N:=22) Tryz.func103 rfl rfl (by simp) ?_
  refine bq<|bE<|nq (ab rfl)<|bF<|aY<|bq<|bq<|bE<|nq (aa rfl)<|nq (((yQ rfl rfl (by kernel_rfl))))<|nq (aa rfl)<|ng rfl rfl rfl (aa rfl)<|ng rfl rfl rfl (((yQ rfl rfl (by kernel_rfl))))<|nq (bn rfl rfl)<|bF<|cb (ag (t:=11) rfl<|ag (t:=4) rfl<|ag (t:=0) rfl<|ag (t:=1) rfl<|aJ)<|aY<| ?_
  refine wP rfl (rfl) ?_
  refine gF<|aY<|bq<|bE<|nq (aa rfl)<| ?_
  refine nq (B2 rfl Tryz.func175 (by kernel_rfl) (by kernel_rfl) (by kernel_rfl) (show _=some Extern.ReflectliteType.typeOf by kernel_rfl) (zy _ _)) ?_
  refine nq (CU rfl rfl (kT _ _) Tryz.func341 (by kernel_rfl) (by kernel_rfl) (by kernel_rfl) (g := Extern.ReflectliteType.method fun t => do Rtype.noPackHeld "Comparable" t; pure (.bool (← typeInfo t).comparable)) (by kernel_rfl) (rW _)) ?_
  refine nq (ab rfl)<|bF<|cb (ag (t:=5) rfl<|ag (t:=11) rfl<|ag (t:=4) rfl<|ag (t:=0) rfl<|ag (t:=1) rfl<|aJ)<|aY<|bq<|bE<|nq (aa rfl)<|nq (aa rfl)<|nq (aa rfl)<| ?_
  refine nx (jl rfl Tryz.call176 (F8 k m w) ?_)
  rintro e_ w1 ⟨rfl,rfl⟩
  refine⟨_,rfl, ?_⟩
  refine nq (ab rfl)<|bF<|cb (ag (t:=4) rfl<|ag (t:=5) rfl<|ag (t:=11) rfl<|ag (t:=0) rfl<|ag (t:=1) rfl<|aJ)<|aY<|gW<| ?_
  exact gV trivial rfl rfl ⟨rfl,rfl⟩
def fill(l:List UInt8)(n:Nat):List UInt8:=(List.range n).map fun i=>l.getD (i % l.length) 0
theorem qA(l:List UInt8)(n:Nat):fill l (n+1)=fill l n++[l.getD (n % l.length) 0]:=by simp[fill,List.range_succ]
theorem El(A:Option Addr)(n c:Nat)(l:List UInt8)(m:Nat)(w:World)(hr:Rd w 1 A n (aP l))(hn:n≤140737488351232)(hm:m≤1000000):
  Calls Tryz.prog 101 #[.slice A n c,.int .i64 (m:Int)] w fun e w' =>∃v,e= .returned v∧Go.Eng.Own w' w.heap.size 5 1 v m (aP (fill l m))∧Fr No w w' :=by
 have hl:l.length=n:=by have:=hr.1;rw[az]at this;omega
 refine enter (N:=29) Tryz.func101 rfl rfl (by simp) ?_
 refine bq<|bE<|nq (ab rfl)<|bF<|aY<|bq<|bE<|nq (ab rfl)<|bF<|aY<|bq<|bq<|bE<|nq (ab rfl)<|bF<|aY<|dz<| ?_
 refine rp (fun k _=>m-k) (fun k v=>[(0,.slice A n c),(1,.int .i64 (m:Int)),(5,v),(6,.int .i64 (k:Nat))]) (fun k v w' =>k≤m∧Go.Eng.Own w' w.heap.size 5 1 v k (aP (fill l k))∧Fr No w w') 0 (.slice none 0 0) (⟨Nat.zero_le _,Own.nil w w.heap.size _ 1,Fr.refl _ _⟩) (ag (t:=0) rfl<|ag (t:=1) rfl<|ag (t:=5) rfl<|ag (t:=6) rfl<|aJ) (fun k v w2 ⟨hk,ho,hf⟩=> ?_)
 refine bq<|bq<|bE<|nq (aa rfl)<|nq (aa rfl)<|nq (bC rfl rfl)<|bF<|cb (ag (t:=9) rfl<|ag (t:=0) rfl<|ag (t:=1) rfl<|ag (t:=5) rfl<|ag (t:=6) rfl<|aJ)<|aY<| ?_
 refine vY rfl (fun h=> ?_) (fun h=> ?_)
 ·refine gF<|aY<|bq<|dz<|bq<|bE<|nq (aa rfl)<|nq (aT rfl Tryz.underlying27)<|nq (cy rfl rfl)<|bF<|cb (ag (t:=14) rfl<|ag (t:=9) rfl<|ag (t:=0) rfl<|ag (t:=1) rfl<|ag (t:=5) rfl<|ag (t:=6) rfl<|aJ)<|aY<| ?_
  refine vY rfl (fun h2=> ?_) (fun h2=> ?_)
  ·have hkn:k % n<n:=Nat.mod_lt _ (by omega)
   have ga:=bB (l:=l) (i:=k % n) (by omega)
   have r2:=hr.um hf
   refine bE<|nq (aa rfl)<|nq (aa rfl)<|nq (aa rfl)<|nq (aa rfl)<|nq (aT rfl Tryz.underlying27)<|nq (gh rfl rfl (by omega) (by omega))<|nq (aN rfl rfl Tryz.underlying27 dB r2.2.1 (show((k % n:Nat):Int)=_ by omega) (by omega))<|nq (aq rfl iv (r2.cell ga))<| ?_
   refine nx (oA Tryz.underlying27 eA rfl rfl rfl (by simp[Value.cells,B8]) (by decide) (by decide) fun g w3 hg hf3 hb3=> ?_)
   refine nx (lN rfl rfl Tryz.underlying27 Tryz.underlying27 (by exact .inl rfl) eA rfl (ho.um hf3) (Src.jx hb3 rfl) (bg (l:=[_])) (by unfold maxLen;omega) (by omega) (hf.dM hf3).size fun v4 w4 ho4 hf4 hv4=> ?_)
   refine nq (ab rfl)<|bF<|cb (ag (t:=5) rfl<|ag (t:=14) rfl<|ag (t:=9) rfl<|ag (t:=0) rfl<|ag (t:=1) rfl<|ag (t:=6) rfl<|aJ)<|gJ<|aY<|bE<|nq (aa rfl)<|nq (aL rfl rfl (bx (by omega) (by omega)))<|nq (ab rfl)<|bF<|cb (ag (t:=6) rfl<|ag (t:=5) rfl<|ag (t:=14) rfl<|ag (t:=9) rfl<|ag (t:=0) rfl<|ag (t:=1) rfl<|aJ)<| ?_
   refine oU (k+1) v4 (ag (t:=0) rfl<|ag (t:=1) rfl<|ag (t:=5) rfl<|ag (t:=6) rfl<|aJ) (⟨by omega,by rw[qA,bz,hl];exact ho4,(hf.dM hf3).new hf4 (fun i hi=>(ho.from hi).1)⟩) (by omega)
  ·have h0:l=[]:=List.eq_nil_of_length_eq_zero (by omega)
   refine bE<|nq (aa rfl)<| ?_
   refine nx (oA Tryz.underlying27 eA rfl rfl rfl (by simp[Value.cells,B8]) (by decide) (by decide) fun g w3 hg hf3 hb3=> ?_)
   refine nx (lN rfl rfl Tryz.underlying27 Tryz.underlying27 (by exact .inl rfl) eA rfl (ho.um hf3) (Src.jx hb3 rfl) (bg (l:=[0])) (by unfold maxLen;omega) (by omega) (hf.dM hf3).size fun v4 w4 ho4 hf4 hv4=> ?_)
   refine nq (ab rfl)<|bF<|cb (ag (t:=5) rfl<|ag (t:=14) rfl<|ag (t:=9) rfl<|ag (t:=0) rfl<|ag (t:=1) rfl<|ag (t:=6) rfl<|aJ)<|gJ<|aY<|bE<|nq (aa rfl)<|nq (aL rfl rfl (bx (by omega) (by omega)))<|nq (ab rfl)<|bF<|cb (ag (t:=6) rfl<|ag (t:=5) rfl<|ag (t:=14) rfl<|ag (t:=9) rfl<|ag (t:=0) rfl<|ag (t:=1) rfl<|aJ)<| ?_
   refine oU (k+1) v4 (ag (t:=0) rfl<|ag (t:=1) rfl<|ag (t:=5) rfl<|ag (t:=6) rfl<|aJ) (⟨by omega,by rw[qA,bz,h0];rw[h0]at ho4;exact ho4,(hf.dM hf3).new hf4 (fun i hi=>(ho.from hi).1)⟩) (by omega)
 ·obtain rfl:k=m:=by omega
  refine kO<|cd<|cd<|dh<|aY<|bq<|bE<|nq (aa rfl)<|nq (ab rfl)<|bF<|cb (ag (t:=4) rfl<|ag (t:=9) rfl<|ag (t:=0) rfl<|ag (t:=1) rfl<|ag (t:=5) rfl<|ag (t:=6) rfl<|aJ)<|aY<|gW<| ?_
  exact gV trivial rfl rfl ⟨v,rfl,ho,hf⟩
theorem F0(a:List UInt8)(w:World)(ha:a.length=32):
  Calls Tryz.prog 111 #[.agg (aP a).toArray] w fun e w' =>e= .returned (.string (strOf (ct a)))∧Fr No w w' :=by
 refine enter (N:=6) Tryz.func111 rfl rfl (by simp) ?_
 refine bq<|bE<| ?_
 refine nx (s7 rfl fun g1 w1 hg1 hf1 hb1=> ?_)
 rw[aW]at hb1
 refine nq (ab rfl)<|bF<|aY<|bq<|bE<|nq (aX rfl cr bZ ((by rw[az];exact ha)) hb1.aw)<| ?_
 refine nx (jl rfl Tryz.call183 (bytes a _ ha) ?_)
 rintro e_ w2 ⟨v,rfl,hv,hf2⟩
 refine⟨_,rfl, ?_⟩
 obtain⟨Av,cv,rfl,hcv⟩:=hv.slice
 refine nx (jl rfl Tryz.call182 (FW Av _ cv a _ ((Own.rd hv).2.2) (by omega)) ?_)
 rintro e_ w3 ⟨rfl,hf3⟩
 refine⟨_,rfl, ?_⟩
 refine nq (ab rfl)<|bF<|cb (ag (t:=2) rfl<|ag (t:=1) rfl<|ag (t:=0) rfl<|aJ)<|aY<|gW<| ?_
 exact gV trivial rfl rfl ⟨rfl,(hf1.dM hf2).dM hf3⟩
end Go.Proofs.YtmibdabdlgmafaaGreatDoor
end
section
set_option maxRecDepth 20000
namespace Go.Proofs.YtmibdabdlgmafaaGreatDoor
open Go.Eng Go.Hx
theorem xC{a:List UInt8}(ha:a.length=32):b6 Tryz.prog 104 [.agg (aP a).toArray] [] [] (fun v_ X_ S_=>v_=(.string (strOf (ct a)))∧X_=[]∧S_=[]):=by
 exact iR fun m=>Calls.mono (name a _ ha) (fun e w' ⟨h,hf⟩=>⟨_,h,⟨rfl,rfl,rfl⟩,hf⟩)
theorem vm{a:List UInt8}(ha:a.length=32):b6 Tryz.prog 111 [.agg (aP a).toArray] [] [] (fun v_ X_ S_=>v_=(.string (strOf (ct a)))∧X_=[]∧S_=[]):=by
 exact iR fun m=>Calls.mono (F0 a _ ha) (fun e w' ⟨h,hf⟩=>⟨_,h,⟨rfl,rfl,rfl⟩,hf⟩)
theorem CJ{k q:Int}:b6 Tryz.prog 103 [.iface 47 (.int .i64 k),.iface 47 (.int .i64 q)] [] [] (fun v_ X_ S_=>v_=(.bool (decide (k=q)))∧X_=[]∧S_=[]):=by
 exact iR fun m=>Calls.mono (y8 k q _) (fun e w' ⟨h,hw⟩=>⟨_,h,⟨rfl,rfl,rfl⟩,hw▸Fr.refl _ _⟩)
theorem EE{A:Option Addr}{n c:Nat}{l:List UInt8}{k:Nat}(hn:n≤140737488351232)(hk:k≤1000000):b6 Tryz.prog 101 [.slice A n c,.int .i64 (k:Nat)] [] [cn 1 A n (aP l)] (fun v_ X_ S_=>∃v,v_=v∧X_=[aF 5 1 v k (aP (fill l k))]∧S_=[]):=by
 exact jQ fun m=>Calls.mono (El A n c l k _ (m.rd 0 rfl) hn hk) (fun e w' ⟨v,h,ho,hf⟩=>⟨v,v,_,_,_,_,h,⟨v,rfl,rfl,rfl⟩,ho,hf⟩)
end Go.Proofs.YtmibdabdlgmafaaGreatDoor
end
