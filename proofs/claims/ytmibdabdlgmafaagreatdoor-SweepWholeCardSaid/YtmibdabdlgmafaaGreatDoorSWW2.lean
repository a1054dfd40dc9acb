/- Part. -/
import Derived.Test.YtmibdabdlgmafaaGreatDoorSWW1
import Derived.Test.YtmibdabdlgmafaaGreatDoorProg
import Derived.KernelRfl
import Derived.Lib.Bytealg
import Derived.Test.YtmibdabdlgmafaaGreatDoorRows
import Derived.ProofKit
import Derived.LaidMore
import Derived.OpenShut
import Derived.MakeChecks
import Derived.LaidHandle
import Derived.LaidLaws
import Derived.Lib.BytesEntry
import Derived.Sort.Grow
import Derived.Shelf.SlSortCmp.NoneTotal
import Derived.Ground.SlsfProg
import Derived.Recover
import Derived.WideKeyEntry
import Derived.Lib.IndexAny
set_option linter.all false
section
namespace Go.Hx
open Go.Eng
def kq(n:Nat)(x:UInt32):UInt32:=.ofNat (x.toNat/2 ^ n+x.toNat % 2 ^ n*2 ^ (32-n))
theorem mA{n:Nat}(hn:n≤32)(x:UInt32):(kq n x).toNat=x.toNat/2 ^ n+x.toNat % 2 ^ n*2 ^ (32-n):=by
 rw[kq,UInt32.toNat_ofNat',Nat.mod_eq_of_lt]
 have h1:=x.toNat_lt
 have h2:2 ^ n*2 ^ (32-n)=2 ^ 32:=by rw[←Nat.pow_add];congr 1;omega
 have h3:x.toNat % 2 ^ n<2 ^ n:=Nat.mod_lt _ (Nat.two_pow_pos n)
 have h4:x.toNat/2 ^ n<2 ^ (32-n):=Nat.div_lt_of_lt_mul (by omega)
 have h5:x.toNat % 2 ^ n*2 ^ (32-n)≤(2 ^ n-1)*2 ^ (32-n):=Nat.mul_le_mul_right _ (by omega)
 have h6:(2 ^ n-1)*2 ^ (32-n)+2 ^ (32-n)=2 ^ 32:=by
  rw[←h2,Nat.sub_mul,Nat.one_mul]
  have:=Nat.le_mul_of_pos_left (2 ^ (32-n)) (Nat.two_pow_pos n)
  omega
 omega
def tg(x:UInt32):UInt32:=x/2+x % 2*2147483648
theorem xl(x:UInt32):(tg x).toNat=x.toNat/2+x.toNat % 2*2147483648:=by
 have h1:=x.toNat_lt
 rw[tg,UInt32.toNat_add,UInt32.toNat_mul,UInt32.toNat_div,UInt32.toNat_mod]
 show(x.toNat/2+x.toNat % 2*2147483648 % 4294967296) % 4294967296=_
 have:x.toNat % 2<2:=Nat.mod_lt _ (by decide)
 omega
theorem xa(x:UInt32):kq 0 x=x:=by
 apply UInt32.toNat_inj.1
 rw[mA (by decide)]
 simp[Nat.mod_one]
theorem wP{n:Nat}(hn:n<32)(x:UInt32):kq (n+1) x=tg (kq n x):=by
 apply UInt32.toNat_inj.1
 rw[xl,mA (by omega),mA (by omega)]
 obtain⟨k,hk⟩:∃k,32-n=k+1:=⟨31-n,by omega⟩
 have hk2:32-(n+1)=k:=by omega
 rw[hk,hk2,Nat.pow_succ 2 k,Nat.pow_succ 2 n]
 have hq:x.toNat/(2 ^ n*2)=x.toNat/2 ^ n/2:=(Nat.div_div_eq_div_mul ..).symm
 have hm:x.toNat % (2 ^ n*2)=x.toNat % 2 ^ n+2 ^ n*(x.toNat/2 ^ n % 2):=Nat.mod_mul ..
 rw[hq,hm]
 generalize x.toNat/2 ^ n=q
 generalize x.toNat % 2 ^ n=m
 have h31:2 ^ n*2 ^ k=2147483648:=by rw[←Nat.pow_add,show n+k=31 by omega]
 have e1:(q+m*(2 ^ k*2))/2=q/2+m*2 ^ k:=by
  rw[show m*(2 ^ k*2)=(m*2 ^ k)*2 by rw[Nat.mul_assoc]];omega
 have e2:(q+m*(2 ^ k*2)) % 2=q % 2:=by
  rw[show m*(2 ^ k*2)=(m*2 ^ k)*2 by rw[Nat.mul_assoc]];omega
 rw[e1,e2,Nat.add_mul,Nat.mul_right_comm (2 ^ n),h31]
 omega
theorem Cc{n:Nat}(h0:0<n)(hn:n<32)(x:UInt32):UInt32.ofNat (x.toNat*2 ^ (32-n)) ||| UInt32.ofNat (x.toNat/2 ^ n)=kq n x:=by
 apply UInt32.toNat_inj.1
 have h1:=x.toNat_lt
 rw[mA (by omega),UInt32.toNat_or,UInt32.toNat_ofNat',UInt32.toNat_ofNat']
 have h2:2 ^ n*2 ^ (32-n)=2 ^ 32:=by rw[←Nat.pow_add];congr 1;omega
 have h4:x.toNat/2 ^ n<2 ^ (32-n):=Nat.div_lt_of_lt_mul (by omega)
 have h5:x.toNat/2 ^ n≤x.toNat:=Nat.div_le_self ..
 rw[Nat.mod_eq_of_lt (a:=x.toNat/2 ^ n) (by omega)]
 have h6:x.toNat*2 ^ (32-n) % 2 ^ 32=2 ^ (32-n)*(x.toNat % 2 ^ n):=by
  rw[←h2,Nat.mul_mod_mul_right,Nat.mul_comm]
 rw[h6,←Nat.two_pow_add_eq_or_of_lt h4,Nat.mul_comm,Nat.add_comm]
def fy:List UInt32:=[1116352408,1899447441,3049323471,3921009573,961987163,1508970993,2453635748,2870763221,3624381080,310598401,607225278,1426881987,1925078388,2162078206,2614888103,3248222580,3835390401,4022224774,264347078,604807628,770255983,1249150122,1555081692,1996064986,2554220882,2821834349,2952996808,3210313671,3336571891,3584528711,113926993,338241895,666307205,773529912,1294757372,1396182291,1695183700,1986661051,2177026350,2456956037,2730485921,2820302411,3259730800,3345764771,3516065817,3600352804,4094571909,275423344,430227734,506948616,659060556,883997877,958139571,1322822218,1537002063,1747873779,1955562222,2024104815,2227730452,2361852424,2428436474,2756734187,3204031479,3329325298]
def lT:List UInt32:=[1779033703,3144134277,1013904242,2773480762,1359893119,2600822924,528734635,1541459225]
def turns(a b c:Nat)(x:UInt32):UInt32:=kq a x ^^^ kq b x ^^^ kq c x
def at8(b:List UInt8)(i:Nat):Nat:=(b.getD i 0).toNat
def kj(b:List UInt8)(i:Nat):UInt32:=.ofNat (at8 b i*16777216+at8 b (i+1)*65536+at8 b (i+2)*256+at8 b (i+3))
def wp(b:List UInt8)(i:Nat):Nat→Nat
 |0=>0
 |j+1=>wp b i j*256+at8 b (i+j)
theorem m7(b:List UInt8)(i:Nat):at8 b i<256:=(b.getD i 0).toNat_lt
theorem CL(b:List UInt8)(i:Nat):∀j,wp b i j<256 ^ j
 |0=>Nat.one_pos
 |j+1=>by
  have h1:=CL b i j
  have h2:=m7 b (i+j)
  rw[wp,Nat.pow_succ]
  omega
theorem AG{b:List UInt8}{i j:Nat}(hj:j<4):(UInt32.ofNat (wp b i j)*256) ||| (b.getD (i+j) 0).toUInt32=UInt32.ofNat (wp b i (j+1)):=by
 apply UInt32.toNat_inj.1
 have h1:=CL b i j
 have h0:256 ^ j≤256 ^ 3:=Nat.pow_le_pow_right (by decide) (by omega)
 have h2:=m7 b (i+j)
 have h3:wp b i j<16777216:=Nat.lt_of_lt_of_le h1 h0
 rw[UInt32.toNat_or,UInt32.toNat_mul,UInt32.toNat_ofNat',UInt8.toNat_toUInt32,UInt32.toNat_ofNat',wp]
 show(wp b i j % 4294967296*256 % 4294967296 ||| at8 b (i+j))=_
 rw[Nat.mod_eq_of_lt (a:=wp b i j) (by omega),Nat.mod_eq_of_lt (a:=wp b i j*256) (by omega),Nat.mod_eq_of_lt (a:=wp b i j*256+_) (by omega),show wp b i j*256=2 ^ 8*wp b i j by omega,Nat.two_pow_add_eq_or_of_lt (i:=8) h2]
theorem Ek(b:List UInt8)(i:Nat):wp b i 4=at8 b i*16777216+at8 b (i+1)*65536+at8 b (i+2)*256+at8 b (i+3):=by
 have e1:wp b i 1=wp b i 0*256+at8 b (i+0):=rfl
 have e2:wp b i 2=wp b i 1*256+at8 b (i+1):=rfl
 have e3:wp b i 3=wp b i 2*256+at8 b (i+2):=rfl
 have e4:wp b i 4=wp b i 3*256+at8 b (i+3):=rfl
 have e0:wp b i 0=0:=rfl
 rw[Nat.add_zero]at e1
 rw[e4,e3,e2,e1,e0]
 generalize at8 b i=p
 generalize at8 b (i+1)=q
 generalize at8 b (i+2)=r
 generalize at8 b (i+3)=s
 omega
theorem AY(b:List UInt8)(i:Nat):UInt32.ofNat (wp b i 4)=kj b i:=congrArg UInt32.ofNat (Ek b i)
theorem xG(b:List UInt8)(i:Nat):(b.getD i 0).toUInt32*16777216+(b.getD (i+1) 0).toUInt32*65536+(b.getD (i+2) 0).toUInt32*256+(b.getD (i+3) 0).toUInt32=kj b i:=by
 apply UInt32.toNat_inj.1
 have h0:(b.getD i 0).toNat<256:=m7 b i
 have h1:(b.getD (i+1) 0).toNat<256:=m7 b (i+1)
 have h2:(b.getD (i+2) 0).toNat<256:=m7 b (i+2)
 have h3:(b.getD (i+3) 0).toNat<256:=m7 b (i+3)
 have k1:(16777216:UInt32).toNat=16777216:=rfl
 have k2:(65536:UInt32).toNat=65536:=rfl
 have k3:(256:UInt32).toNat=256:=rfl
 simp only[kj,at8,UInt32.toNat_add,UInt32.toNat_mul,UInt8.toNat_toUInt32,UInt32.toNat_ofNat',k1,k2,k3]
 generalize(b.getD i 0).toNat=p at*
 generalize(b.getD (i+1) 0).toNat=q at*
 generalize(b.getD (i+2) 0).toNat=r at*
 generalize(b.getD (i+3) 0).toNat=s at*
 omega
def F1(x:UInt32):UInt32:=kq 7 x ^^^ kq 18 x ^^^ (x/8)
def EZ(x:UInt32):UInt32:=kq 17 x ^^^ kq 19 x ^^^ (x/1024)
def ml(w:List UInt32)(i:Nat):UInt32:=w.getD (i-16) 0+F1 (w.getD (i-15) 0)+w.getD (i-7) 0+EZ (w.getD (i-2) 0)
def wl(b:List UInt8):Nat→List UInt32
 |0=>[]
 |i+1=>wl b i++[if i<16 then kj b (4*i)else ml (wl b i) i]
theorem fh(b:List UInt8):∀i,(wl b i).length=i
 |0=>rfl
 |i+1=>by rw[wl,List.length_append,fh b i];rfl
def v_(v:List UInt32)(i:Nat):UInt32:=v.getD i 0
def rt(v:List UInt32)(k w:UInt32):UInt32:=v_ v 7+turns 6 11 25 (v_ v 4)+((v_ v 4 &&& v_ v 5) ^^^ (~~~(v_ v 4) &&& v_ v 6))+k+w
def ru(v:List UInt32):UInt32:=turns 2 13 22 (v_ v 0)+((v_ v 0 &&& v_ v 1) ^^^ (v_ v 0 &&& v_ v 2) ^^^ (v_ v 1 &&& v_ v 2))
def Gt(v:List UInt32)(k w:UInt32):List UInt32:=[rt v k w+ru v,v_ v 0,v_ v 1,v_ v 2,v_ v 3+rt v k w,v_ v 4,v_ v 5,v_ v 6]
def kB(w v:List UInt32):Nat→List UInt32
 |0=>v
 |i+1=>Gt (kB w v i) (fy.getD i 0) (w.getD i 0)
theorem ki{w v:List UInt32}(h:v.length=8):∀i,(kB w v i).length=8
 |0=>h
 |i+1=>rfl
def fA(v h:List UInt32)(i:Nat):List UInt32:=(List.range v.length).map fun j=>if j<i then v_ v j+v_ h j else v_ v j
def eg(h:List UInt32)(b:List UInt8):List UInt32:=fA (kB (wl b 64) h 64) h 8
theorem iC{h:List UInt32}(hl:h.length=8)(b:List UInt8):(eg h b).length=8:=by simp[eg,fA,ki hl]
theorem qy{v h:List UInt32}:fA v h 0=v:=by
 apply List.ext_getElem?
 intro i
 simp only[fA,Nat.not_lt_zero,if_false,List.getElem?_map]
 by_cases hi:i<v.length
 ·simp[hi,v_,List.getD]
 ·rw[List.getElem?_eq_none (by simpa using hi),List.getElem?_eq_none (by omega)];rfl
theorem p8{v h:List UInt32}{i:Nat}(hi:i<v.length):fA v h (i+1)=(fA v h i).set i (v_ (fA v h i) i+v_ h i):=by
 apply List.ext_getElem?
 intro j
 have e:v_ (fA v h i) i=v_ v i:=by simp[fA,v_,List.getD,hi]
 rw[e]
 by_cases hj:j<v.length
 ·by_cases hij:i=j
  ·subst hij
   simp[fA,hi]
  ·rw[List.getElem?_set_ne hij]
   simp only[fA,List.getElem?_map,List.getElem?_range hj,Option.map_some]
   congr 1
   by_cases h1:j<i
   ·rw[if_pos h1,if_pos (by omega)]
   ·rw[if_neg h1,if_neg (by omega)]
 ·rw[List.getElem?_eq_none (by simp[fA];omega),List.getElem?_eq_none (by simp[fA];omega)]
def nD:Nat→List UInt32→List UInt8→List UInt32
 |0,h,_=>h
 |n+1,h,l=>nD n (eg h (l.take 64)) (l.drop 64)
def fa(h:List UInt32)(l:List UInt8):List UInt32:=nD (l.length/64) h l
theorem oI:∀(n:Nat) (h:List UInt32) (l b:List UInt8),l.length=64*n→b.length=64→nD (n+1) h (l++b)=eg (nD n h l) b
 |0,h,l,b,hl,hb=>by
  obtain rfl:=List.eq_nil_of_length_eq_zero hl
  simp only[nD,List.nil_append]
  rw[List.take_of_length_le (by omega)]
 |n+1,h,l,b,hl,hb=>by
  have h1:(l++b).take 64=l.take 64:=by rw[List.take_append_of_le_length (by omega)]
  have h2:(l++b).drop 64=l.drop 64++b:=by rw[List.drop_append_of_le_length (by omega)]
  rw[nD,h1,h2,oI n _ (l.drop 64) b (by rw[List.length_drop];omega) hb]
  rfl
theorem pA{h:List UInt32}{l b:List UInt8}(hl:l.length % 64=0)(hb:b.length=64):fa h (l++b)=eg (fa h l) b:=by
 unfold fa
 rw[List.length_append,hb,show(l.length+64)/64=l.length/64+1 by omega]
 exact oI _ h l b (by omega) hb
theorem mi:∀(n:Nat) (h:List UInt32) (l:List UInt8),h.length=8→(nD n h l).length=8
 |0,h,l,hl=>hl
 |n+1,h,l,hl=>mi n _ _ (iC hl _)
theorem mw{h:List UInt32}(l:List UInt8)(hl:h.length=8):(fa h l).length=8:=mi _ _ _ hl
def Aw(x:UInt32):List UInt8:=[.ofNat (x/16777216).toNat,.ofNat (x/65536).toNat,.ofNat (x/256).toNat,.ofNat x.toNat]
def eF(h:List UInt32):List UInt8:=h.flatMap Aw
def se(n:Nat):List UInt8:=(List.range 8).map fun i=>.ofNat (n/256 ^ (7-i))
def gR(n:Nat):Nat:=(119-n % 64) % 64
def iJ(b:List UInt8):List UInt8:=b++(128::List.replicate (gR b.length) 0)++se (8*b.length)
theorem nz(b:List UInt8):(iJ b).length % 64=0:=by
 simp only[iJ,List.length_append,List.length_cons,List.length_replicate,se,List.length_map,List.length_range,gR]
 omega
def ba(b:List UInt8):List UInt8:=eF (fa lT (iJ b))
theorem mK{h:List UInt32}(hl:h.length=8):(eF h).length=32:=by
 match h,hl with
 | [a,b,c,d,e,f,g,i],_=>rfl
theorem bj(b:List UInt8):(ba b).length=32:=mK (mw _ rfl)
end Go.Hx
end
section
namespace Go.Proofs.YtmibdabdlgmafaaGreatDoor
open Go.Eng
theorem fE:dj Tryz.prog 3=some false:=by kernel_rfl
theorem tW:fo Tryz.prog 3=some 1:=by kernel_rfl
theorem Dy:TI Tryz.prog 3 (.int .i64 0) 1 8:=by unfold TI;kernel_rfl
theorem jt:dj Tryz.prog 5=some false:=by kernel_rfl
theorem dZ:fo Tryz.prog 5=some 1:=by kernel_rfl
theorem eP:TI Tryz.prog 5 (.int .u8 0) 1 1:=by unfold TI;kernel_rfl
theorem lL:dj Tryz.prog 9=some false:=by kernel_rfl
theorem GN:fo Tryz.prog 9=some 1:=by kernel_rfl
theorem Gr:TI Tryz.prog 9 (.string ⟨#[]⟩) 1 16:=by unfold TI;kernel_rfl
theorem dX:dj Tryz.prog 27=some false:=by kernel_rfl
theorem pI:fo Tryz.prog 27=some 1:=by kernel_rfl
theorem sk:TI Tryz.prog 27 (.slice none 0 0) 1 24:=by unfold TI;kernel_rfl
theorem l7:dj Tryz.prog 35=some false:=by kernel_rfl
theorem ta:dj Tryz.prog 36=some false:=by kernel_rfl
theorem EV:fo Tryz.prog 36=some 1:=by kernel_rfl
theorem GD:dj Tryz.prog 37=some false:=by kernel_rfl
theorem E8:fo Tryz.prog 37=some 1:=by kernel_rfl
theorem cE:dj Tryz.prog 39=some true:=by kernel_rfl
theorem bu:fo Tryz.prog 39=some 5:=by kernel_rfl
theorem iM:TI Tryz.prog 39 (.agg (([.int .i64 0])++([.slice none 0 0])++([.slice none 0 0])++([.slice none 0 0])++([.int .i64 0]):List Value).toArray) 5 88:=by unfold TI;kernel_rfl
theorem yj:jo Tryz.prog 39 0=some (0,1,3):=by kernel_rfl
theorem jJ:jo Tryz.prog 39 1=some (1,1,36):=by kernel_rfl
theorem D0:jo Tryz.prog 39 2=some (2,1,36):=by kernel_rfl
theorem uS:jo Tryz.prog 39 3=some (3,1,37):=by kernel_rfl
theorem jO:jo Tryz.prog 39 4=some (4,1,3):=by kernel_rfl
theorem Dr:TI Tryz.prog 44 (.slice none 0 0) 1 24:=by unfold TI;kernel_rfl
theorem k8:dj Tryz.prog 47=some false:=by kernel_rfl
theorem xg:fo Tryz.prog 47=some 1:=by kernel_rfl
theorem F5:TI Tryz.prog 47 (.int .i64 0) 1 8:=by unfold TI;kernel_rfl
theorem cr:dj Tryz.prog 53=some true:=by kernel_rfl
theorem bp:fo Tryz.prog 53=some 32:=by kernel_rfl
theorem dL:TI Tryz.prog 53 (.agg (aQ (List.replicate 32 0):List Value).toArray) 32 32:=by unfold TI;kernel_rfl
theorem vu{l:List UInt8}(h:l.length=32):Tryz.prog.keyLits 2 53 (aQ l)=some (l.map fun b=>Lit.int .u8 (b.toNat:Int)):=eX (D:=0) Tryz.underlying53 Tryz.underlying5 (by kernel_rfl) (by kernel_rfl) h
theorem AQ{N:Nat}{D:List Deferred}{ρ:Env}{w:World}{ty t' :TypeId}{x y:Operand}{l m:List UInt8}(hx:ev ρ x=some (.agg (aQ l).toArray))(hy:ev ρ y=some (.agg (aQ m).toArray))(hl:l.length=32)(hm:m.length=32):Yl Tryz.prog N D ρ w (.binOp .eql 53 x y t') ty (.bool (decide (l=m))):=
 EK (m:=5) hx hy (by decide) (by kernel_rfl) (by kernel_rfl) cr (by rw[az,hl];kernel_rfl) (by rw[az,hm];kernel_rfl) (vu hl) (vu hm) iA
theorem rP{N:Nat}{D:List Deferred}{ρ:Env}{w:World}{ty t' :TypeId}{x y:Operand}{l m:List UInt8}(hx:ev ρ x=some (.agg (aQ l).toArray))(hy:ev ρ y=some (.agg (aQ m).toArray))(hl:l.length=32)(hm:m.length=32):Yl Tryz.prog N D ρ w (.binOp .neq 53 x y t') ty (.bool (decide (¬l=m))):=
 FU (m:=5) hx hy (by decide) (by kernel_rfl) (by kernel_rfl) cr (by rw[az,hl];kernel_rfl) (by rw[az,hm];kernel_rfl) (vu hl) (vu hm) iA
theorem F4:dj Tryz.prog 75=some true:=by kernel_rfl
theorem Gd:fo Tryz.prog 75=some 3:=by kernel_rfl
theorem Gb:TI Tryz.prog 75 (.agg (([.int .i64 0])++([.int .i64 0])++([.int .i64 0]):List Value).toArray) 3 24:=by unfold TI;kernel_rfl
theorem zP:dj Tryz.prog 80=some false:=by kernel_rfl
theorem GH:fo Tryz.prog 80=some 1:=by kernel_rfl
theorem tN:dj Tryz.prog 82=some true:=by kernel_rfl
theorem nX:fo Tryz.prog 82=some 36:=by kernel_rfl
theorem AM:TI Tryz.prog 82 (.agg ((([.int .i64 0])++([.int .i64 0])++([.int .i64 0]))++(aQ (List.replicate 32 0))++([.slice none 0 0]):List Value).toArray) 36 80:=by unfold TI;kernel_rfl
theorem EE:jo Tryz.prog 82 0=some (0,3,75):=by kernel_rfl
theorem DR:ow Tryz.prog 82 0=some (0,3):=by kernel_rfl
theorem DF:jo Tryz.prog 82 1=some (3,32,53):=by kernel_rfl
theorem pD:jo Tryz.prog 82 2=some (35,1,80):=by kernel_rfl
theorem C8:dj Tryz.prog 88=some true:=by kernel_rfl
theorem wT:fo Tryz.prog 88=some 36:=by kernel_rfl
theorem wO:TI Tryz.prog 88 (.agg ((([.int .i64 0])++([.int .i64 0])++([.int .i64 0]))++(aQ (List.replicate 32 0))++([.slice none 0 0]):List Value).toArray) 36 80:=by unfold TI;kernel_rfl
theorem C9:ow Tryz.prog 88 0=some (0,3):=by kernel_rfl
theorem DD:ow Tryz.prog 88 1=some (3,32):=by kernel_rfl
theorem Er:jo Tryz.prog 88 2=some (35,1,80):=by kernel_rfl
theorem D9:ow Tryz.prog 88 2=some (35,1):=by kernel_rfl
theorem ET:dj Tryz.prog 100=some true:=by kernel_rfl
theorem vW:fo Tryz.prog 100=some 33:=by kernel_rfl
theorem wq:TI Tryz.prog 100 (.agg ((aQ (List.replicate 32 0))++([.int .i64 0]):List Value).toArray) 33 40:=by unfold TI;kernel_rfl
theorem vM:jo Tryz.prog 100 0=some (0,32,53):=by kernel_rfl
theorem Cm:ow Tryz.prog 100 0=some (0,32):=by kernel_rfl
theorem BK:ow Tryz.prog 100 1=some (32,1):=by kernel_rfl
theorem Fc:TI Tryz.prog 121 (.agg (([.pointer none])++(([.int .i64 0])++([.slice none 0 0])++([.slice none 0 0])++([.slice none 0 0])++([.int .i64 0])):List Value).toArray) 6 96:=by unfold TI;kernel_rfl
theorem gK:jo Tryz.prog 121 0=some (0,1,35):=by kernel_rfl
theorem B5:ow Tryz.prog 121 0=some (0,1):=by kernel_rfl
theorem ju:jo Tryz.prog 121 1=some (1,5,39):=by kernel_rfl
theorem Ck:ow Tryz.prog 121 1=some (1,5):=by kernel_rfl
theorem qR:dj Tryz.prog 156=some true:=by kernel_rfl
theorem eS:fo Tryz.prog 156=some 2:=by kernel_rfl
theorem ir:TI Tryz.prog 156 (.agg (([.string ⟨#[]⟩])++([.string ⟨#[]⟩]):List Value).toArray) 2 32:=by unfold TI;kernel_rfl
theorem eU:jo Tryz.prog 156 0=some (0,1,9):=by kernel_rfl
theorem oc:jo Tryz.prog 156 1=some (1,1,9):=by kernel_rfl
theorem bM:dj Tryz.prog 166=some false:=by kernel_rfl
theorem bF:fo Tryz.prog 166=some 1:=by kernel_rfl
theorem nG:TI Tryz.prog 166 (.int .u32 0) 1 4:=by unfold TI;kernel_rfl
theorem mf:dj Tryz.prog 174=some false:=by kernel_rfl
theorem FD:fo Tryz.prog 174=some 1:=by kernel_rfl
theorem y8:dj Tryz.prog 175=some false:=by kernel_rfl
theorem vh:fo Tryz.prog 175=some 1:=by kernel_rfl
theorem EU:TI Tryz.prog 177 (.agg (([.int .i64 0])++([.map none])++([.map none])++([.slice none 0 0])++([.int .i64 0]):List Value).toArray) 5 56:=by unfold TI;kernel_rfl
theorem Bx:jo Tryz.prog 177 0=some (0,1,3):=by kernel_rfl
theorem gH:jo Tryz.prog 177 1=some (1,1,174):=by kernel_rfl
theorem AH:jo Tryz.prog 177 2=some (2,1,174):=by kernel_rfl
theorem jI:jo Tryz.prog 177 3=some (3,1,175):=by kernel_rfl
theorem ob:jo Tryz.prog 177 4=some (4,1,3):=by kernel_rfl
theorem CI:dj Tryz.prog 186=some true:=by kernel_rfl
theorem Cu:fo Tryz.prog 186=some 4:=by kernel_rfl
theorem qO:TI Tryz.prog 186 (.agg (([.int .i64 0])++([.string ⟨#[]⟩])++([.string ⟨#[]⟩])++([.string ⟨#[]⟩]):List Value).toArray) 4 56:=by unfold TI;kernel_rfl
theorem vQ:jo Tryz.prog 186 0=some (0,1,3):=by kernel_rfl
theorem n9:jo Tryz.prog 186 1=some (1,1,9):=by kernel_rfl
theorem Cj:jo Tryz.prog 186 2=some (2,1,9):=by kernel_rfl
theorem Cp:jo Tryz.prog 186 3=some (3,1,9):=by kernel_rfl
theorem ER:TI Tryz.prog 189 (.agg (([.string ⟨#[]⟩])++([.slice none 0 0]):List Value).toArray) 2 40:=by unfold TI;kernel_rfl
theorem BT:jo Tryz.prog 189 0=some (0,1,9):=by kernel_rfl
theorem B4:jo Tryz.prog 189 1=some (1,1,27):=by kernel_rfl
theorem qN:TI Tryz.prog 232 (.nilIface) 1 16:=by unfold TI;kernel_rfl
theorem E9:TI Tryz.prog 237 (.agg (([.string ⟨#[]⟩]):List Value).toArray) 1 16:=by unfold TI;kernel_rfl
theorem Cd:jo Tryz.prog 237 0=some (0,1,9):=by kernel_rfl
theorem FO:TI Tryz.prog 257 (.agg (([.string ⟨#[]⟩])++([.string ⟨#[]⟩]):List Value).toArray) 2 32:=by unfold TI;kernel_rfl
theorem rq:jo Tryz.prog 257 0=some (0,1,9):=by kernel_rfl
theorem Bl:jo Tryz.prog 257 1=some (1,1,9):=by kernel_rfl
theorem CF:fo Tryz.prog 288=some 1:=by kernel_rfl
theorem wm:TI Tryz.prog 288 (.agg (([.int .i64 0]):List Value).toArray) 1 8:=by unfold TI;kernel_rfl
theorem By:jo Tryz.prog 288 0=some (0,1,47):=by kernel_rfl
theorem qo:dj Tryz.prog 295=some true:=by kernel_rfl
theorem je:fo Tryz.prog 295=some 3:=by kernel_rfl
theorem nw:TI Tryz.prog 295 (.agg (([.slice none 0 0])++([.int .i64 0])++([.int .i64 0]):List Value).toArray) 3 40:=by unfold TI;kernel_rfl
theorem AE:jo Tryz.prog 295 0=some (0,1,27):=by kernel_rfl
theorem AL:jo Tryz.prog 295 2=some (2,1,47):=by kernel_rfl
theorem vU:dj Tryz.prog 298=some true:=by kernel_rfl
theorem ll:fo Tryz.prog 298=some 2:=by kernel_rfl
theorem qe:TI Tryz.prog 298 (.agg (([.int .i64 0])++([.int .i64 0]):List Value).toArray) 2 16:=by unfold TI;kernel_rfl
theorem k4:jo Tryz.prog 298 0=some (0,1,3):=by kernel_rfl
theorem vf:jo Tryz.prog 298 1=some (1,1,3):=by kernel_rfl
theorem qI:dj Tryz.prog 306=some true:=by kernel_rfl
theorem lf:fo Tryz.prog 306=some 8:=by kernel_rfl
theorem wF:TI Tryz.prog 306 (.agg ((List.replicate 8 ([.int .u32 0])).flatten:List Value).toArray) 8 32:=by unfold TI;kernel_rfl
theorem Cx:TI Tryz.prog 308 (.agg (((List.replicate 8 ([.int .u32 0])).flatten)++([.int .i64 0])++([.slice none 0 0]):List Value).toArray) 10 64:=by unfold TI;kernel_rfl
theorem n8:jo Tryz.prog 308 0=some (0,8,306):=by kernel_rfl
theorem mM:jo Tryz.prog 308 1=some (8,1,3):=by kernel_rfl
theorem jD:jo Tryz.prog 308 2=some (9,1,27):=by kernel_rfl
theorem nT:dj Tryz.prog 322=some false:=by kernel_rfl
theorem CC:dj Tryz.prog 354=some true:=by kernel_rfl
theorem u7:fo Tryz.prog 354=some 64:=by kernel_rfl
theorem y1:TI Tryz.prog 354 (.agg ((List.replicate 64 ([.int .u32 0])).flatten:List Value).toArray) 64 256:=by unfold TI;kernel_rfl
theorem y5:dj Tryz.prog 357=some false:=by kernel_rfl
theorem EN:TI Tryz.prog 359 (.agg (([.slice none 0 0])++([.map none])++([.int .i64 0]):List Value).toArray) 3 40:=by unfold TI;kernel_rfl
theorem jA:jo Tryz.prog 359 0=some (0,1,27):=by kernel_rfl
theorem sa:jo Tryz.prog 359 1=some (1,1,357):=by kernel_rfl
theorem gJ:jo Tryz.prog 359 2=some (2,1,3):=by kernel_rfl
theorem vr:dj Tryz.prog 364=some true:=by kernel_rfl
theorem sT:fo Tryz.prog 364=some 4:=by kernel_rfl
theorem FC:TI Tryz.prog 364 (.agg (aQ (List.replicate 4 0):List Value).toArray) 4 4:=by unfold TI;kernel_rfl
end Go.Proofs.YtmibdabdlgmafaaGreatDoor
end
section
namespace Go.Hx
open Go.Eng
def mF(x:Nat):Nat:=if x % 2=1 then(x/2) ^^^ 2197175160 else x/2
theorem zH{x:Nat}(h:x<4294967296):mF x<4294967296:=by
 unfold mF
 split
 ·exact Nat.xor_lt_two_pow (n:=32) (by omega) (by decide)
 ·omega
def fO:Nat→Nat→Nat
 |0,x=>x
 |n+1,x=>mF (fO n x)
theorem kW{x:Nat}(h:x<4294967296):∀n,fO n x<4294967296
 |0=>h
 |n+1=>zH (kW h n)
def jW(n:Nat)(l:List UInt8):Nat:=l.foldl (fun n b=>fO 8 (n ^^^ b.toNat)) n
theorem mI{n:Nat}(h:n<4294967296):∀l:List UInt8,jW n l<4294967296:=by
 intro l
 induction l generalizing n with
 |nil=>exact h
 |cons a r ih=>exact ih (kW (Nat.xor_lt_two_pow (n:=32) h (by have:=a.toNat_lt;omega)) 8)
theorem pj(n:Nat)(l:List UInt8)(b:UInt8):jW n (l++[b])=fO 8 (jW n l ^^^ b.toNat):=by simp[jW]
theorem sQ{m:Nat}(h:m<4294967296):4294967295 ^^^ m=4294967295-m:=by
 have h1:(BitVec.allOnes 32 ^^^ BitVec.ofNat 32 m)= ~~~ BitVec.ofNat 32 m:=BitVec.allOnes_xor
 have h2:=congrArg BitVec.toNat h1
 rw[BitVec.toNat_xor,BitVec.toNat_not,BitVec.toNat_allOnes,BitVec.toNat_ofNat,Nat.mod_eq_of_lt h]at h2
 exact h2
def cJ(l:List UInt8):Nat:=4294967295-jW 4294967295 l
theorem jl(l:List UInt8):cJ l<4294967296:=by unfold cJ;omega
def fZ(n:Nat):List UInt8:=[UInt8.ofNat n,UInt8.ofNat (n/256),UInt8.ofNat (n/65536),UInt8.ofNat (n/16777216)]
def rb:Nat→Nat→Nat
 |0,n=>n
 |k+1,n=>rb k n/256
def DW(k n:Nat):List UInt8:=(List.range k).map fun i=>UInt8.ofNat (rb i n)
theorem yA(k n:Nat):DW (k+1) n=DW k n++[UInt8.ofNat (rb k n)]:=by simp[DW,List.range_succ]
theorem xY(n:Nat):DW 4 n=fZ n:=by
 simp only[DW,List.range_succ,List.range_zero,List.nil_append,List.cons_append,List.map_cons,List.map_nil,rb,fZ,Nat.div_div_eq_div_mul]
theorem wx{n b:Nat}(h:n<b):∀k,rb k n<b
 |0=>h
 |k+1=>by have:=wx h k;simp only[rb];omega
theorem eY(n:Nat):(fZ n).length=4:=rfl
def yb(l:List UInt8):List UInt8:=l++fZ (cJ l)
theorem xC(x:Nat)(h:x<4294967296):(x/2) ^^^ (2197175160*(x % 2))=mF x:=by
 unfold mF
 split
 ·rename_i h1;rw[h1]
 ·rename_i h1
  have:x % 2=0:=by omega
  rw[this];simp
theorem gA(n:Nat):IntKind.u8.wrap (n:Int)=((UInt8.ofNat n).toNat:Int):=by
 simp[IntKind.wrap,IntKind.signed,IntKind.bits]
theorem Gg(x:Nat)(h:x<4294967296):bits .and .u32 (x:Int) 1=((x % 2:Nat):Int):=by
 have:=u32_and_nat x 1 h (by decide)
 rw[Nat.and_one_is_mod]at this
 exact this
theorem ze(x:Nat)(h:x<4294967296):bits .xor .u32 ((x:Int)/2) (2197175160*((x % 2:Nat):Int))=((mF x:Nat):Int):=by
 have h2:x % 2=0∨x % 2=1:=by omega
 have h3:2197175160*(x % 2)<4294967296:=by rcases h2 with h2|h2 <;> rw[h2] <;> decide
 have:=u32_xor_nat (x/2) (2197175160*(x % 2)) (by omega) h3
 rw[xC x h]at this
 rw[←this]
 congr 1
theorem tL(x:Nat)(h:x<4294967296)(b:UInt8):bits .xor .u32 (x:Int) (b.toNat:Int)=((x ^^^ b.toNat:Nat):Int):=u32_xor_nat x b.toNat h (by have:=b.toNat_lt;omega)
theorem yJ(x:Nat)(h:x<4294967296):bits .xor .u32 ((x:Int)/2) 2197175160=(((x/2) ^^^ 2197175160:Nat):Int):=u32_xor_nat (x/2) 2197175160 (by omega) (by decide)
theorem nM{x:Nat}(h:x<4294967296)(b:UInt8):x ^^^ b.toNat<4294967296:=Nat.xor_lt_two_pow (n:=32) h (by have:=b.toNat_lt;omega)
end Go.Hx
end
section
namespace Go.Hx
open Go.Eng
def jT:List UInt8:=[48,49,50,51,52,53,54,55,56,57,97,98,99,100,101,102]
def o1(b:UInt8):List UInt8:=[jT.getD (b.toNat/16) 0,jT.getD (b.toNat % 16) 0]
def bW(l:List UInt8):List UInt8:=l.flatMap o1
theorem dA(l:List UInt8):(bW l).length=2*l.length:=by
 induction l with
 |nil=>rfl
 |cons a r ih=>simp only[bW,List.flatMap_cons,List.length_append,List.length_cons]at ih ⊢;rw[ih];simp[o1];omega
theorem tT(l m:List UInt8):bW (l++m)=bW l++bW m:=by simp[bW]
theorem eI{l:List UInt8}{k:Nat}(h:k<l.length):l.take (k+1)=l.take k++[l.getD k 0]:=by
 rw[List.take_succ_eq_append_getElem h];simp[List.getD,List.getElem?_eq_getElem h]
theorem qS{l:List UInt8}{k:Nat}(h:k<l.length):bW (l.take (k+1))=bW (l.take k)++o1 (l.getD k 0):=by
 rw[eI h,tT];simp[bW]
theorem tJ(j:Nat)(h:j<16):((bytesOf ⟨#[48,49,50,51,52,53,54,55,56,57,97,98,99,100,101,102]⟩).take (j+1)).drop j=[jT.getD j 0]:=by
 revert j;decide
theorem wH{l:List UInt8}{k:Nat}(h:k<l.length):strOf (bW (l.take k))++strOf (((bytesOf ⟨#[48,49,50,51,52,53,54,55,56,57,97,98,99,100,101,102]⟩).take ((l.getD k 0).toNat/16+1)).drop ((l.getD k 0).toNat/16))++
  strOf (((bytesOf ⟨#[48,49,50,51,52,53,54,55,56,57,97,98,99,100,101,102]⟩).take ((l.getD k 0).toNat % 16+1)).drop ((l.getD k 0).toNat % 16))=strOf (bW (l.take (k+1))):=by
 have hb:=(l.getD k 0).toNat_lt
 rw[tJ _ (by omega),tJ _ (by omega),c7,c7,qS h]
 simp[o1]
theorem vi(i:Int)(h0:0≤i)(h:i<16):(#[48,49,50,51,52,53,54,55,56,57,97,98,99,100,101,102]:Array UInt8)[i.toNat]? =some (jT.getD i.toNat 0):=by
 have:i.toNat<16:=by omega
 generalize i.toNat=j at this
 revert j
 decide
theorem Ch(x:UInt8):(#[48,49,50,51,52,53,54,55,56,57,97,98,99,100,101,102]:Array UInt8)[((x.toNat:Int)/16).toNat]? =some (jT.getD (x.toNat/16) 0):=by
 have h:=x.toNat_lt
 rw[vi _ (by omega) (by omega)]
 rfl
theorem AA(x:UInt8):(#[48,49,50,51,52,53,54,55,56,57,97,98,99,100,101,102]:Array UInt8)[((x.toNat % 16:Nat):Int).toNat]? =some (jT.getD (x.toNat % 16) 0):=by
 rw[vi _ (by omega) (by omega)]
 rfl
theorem Fw(x:UInt8):bits .and .u8 (x.toNat:Int) 15=((x.toNat % 16:Nat):Int):=by
 have:=u8_and_nat x.toNat 15 (by have:=x.toNat_lt;omega) (by decide)
 rw[show((15:Nat):Int)=15 from rfl]at this
 rw[this]
 congr 1
 exact Nat.and_two_pow_sub_one_eq_mod x.toNat 4
end Go.Hx
end
section
namespace Go.Hx
open Go.Eng
def k7(c:UInt8):Int:=if 48≤c.toNat∧c.toNat≤57 then(c.toNat:Int)-48 else if 97≤c.toNat∧c.toNat≤102 then(c.toNat:Int)-87 else-1
theorem kQ(c:UInt8):-1≤k7 c∧k7 c≤15:=by unfold k7;split <;> (try split) <;> omega
def unhex:List UInt8→Option (List UInt8)
 | []=>some []
 | [_]=>none
 |a::b::r=>if k7 a<0∨k7 b<0 then none else(unhex r).map (UInt8.ofNat (16*(k7 a).toNat+(k7 b).toNat)::·)
theorem ph:∀(l:List UInt8) (n:Nat) (a b:UInt8) (x:List UInt8),l.length=2*n→unhex l=some x→unhex (l++[a,b])=if k7 a<0∨k7 b<0 then none else some (x++[UInt8.ofNat (16*(k7 a).toNat+(k7 b).toNat)])
 | [],n,a,b,x,_,h=>by
  simp only[unhex,Option.some.injEq]at h
  subst h
  simp[unhex]
 | [c],n,a,b,x,hl,h=>by simp at hl;omega
 |c::d::r,n,a,b,x,hl,h=>by
  simp only[unhex]at h
  simp only[List.cons_append,unhex]
  split at h
  ·cases h
  ·rename_i hcd
   rw[if_neg hcd]
   simp only[Option.map_eq_some_iff]at h
   obtain⟨y,hy,rfl⟩:=h
   rw[ph r (n-1) a b y (by simp at hl;omega) hy]
   split <;> simp
theorem iw:∀(l m:List UInt8) (n:Nat),l.length=2*n→unhex l=none→unhex (l++m)=none
 | [],m,n,_,h=>by simp[unhex]at h
 | [c],m,n,hl,h=>by simp at hl;omega
 |c::d::r,m,n,hl,h=>by
  simp only[unhex]at h
  simp only[List.cons_append,unhex]
  split at h
  ·rename_i hcd;rw[if_pos hcd]
  ·rename_i hcd
   rw[if_neg hcd]
   simp only[Option.map_eq_none_iff]at h
   rw[iw r m (n-1) (by simp at hl;omega) h]
   rfl
theorem qL:∀(l:List UInt8),l.length % 2=1→unhex l=none
 | [],h=>by simp at h
 | [_],_=>rfl
 |a::b::r,h=>by
  simp only[unhex]
  split
  ·rfl
  ·rw[qL r (by simp at h;omega)];rfl
theorem jw:∀(l x:List UInt8),unhex l=some x→l.length=2*x.length
 | [],x,h=>by simp[unhex]at h;subst h;rfl
 | [_],x,h=>by simp[unhex]at h
 |a::b::r,x,h=>by
  simp only[unhex]at h
  split at h
  ·cases h
  ·simp only[Option.map_eq_some_iff]at h
   obtain⟨y,hy,rfl⟩:=h
   have:=jw r y hy
   simp;omega
theorem sC(k:Nat)(h:k<16):k7 (jT.getD k 0)=k:=by
 revert k;decide
theorem jM:∀(l:List UInt8),unhex (bW l)=some l
 | []=>rfl
 |a::r=>by
  have ih:=jM r
  have ha:=a.toNat_lt
  have h1:=sC (a.toNat/16) (by omega)
  have h2:=sC (a.toNat % 16) (by omega)
  have e:bW (a::r)=jT.getD (a.toNat/16) 0::jT.getD (a.toNat % 16) 0::bW r:=by simp[bW,o1]
  rw[e,unhex,h1,h2,if_neg (by omega),ih]
  simp only[Option.map_some,Int.toNat_natCast]
  congr 2
  have e2:16*(a.toNat/16)+a.toNat % 16=a.toNat:=by omega
  rw[e2]
  simp
theorem Es(a b:UInt8)(ha:0≤k7 a)(hb:0≤k7 b):16*k7 a+k7 b=((UInt8.ofNat (16*(k7 a).toNat+(k7 b).toNat)).toNat:Int):=by
 have h1:=kQ a
 have h2:=kQ b
 rw[UInt8.toNat_ofNat',Nat.mod_eq_of_lt (by omega)]
 omega
theorem Aq{l:List UInt8}{k:Nat}(h:2*k+1<l.length):l.take (2*(k+1))=l.take (2*k)++[l.getD (2*k) 0,l.getD (2*k+1) 0]:=by
 have e:2*(k+1)=2*k+1+1:=by omega
 rw[e,eI h,eI (by omega)]
 simp
theorem z6{l m:List UInt8}(h:bW l=bW m):l=m:=by
 have:=jM l
 rw[h,jM m]at this
 simpa using this.symm
theorem o7(c:UInt8):Lib.indexByte jT c=k7 c:=by
 have h:∀n,n<256→Lib.indexByte jT (UInt8.ofNat n)=k7 (UInt8.ofNat n):=by decide+kernel
 have:=h c.toNat c.toNat_lt
 rwa [UInt8.ofNat_toNat]at this
theorem CR(a b:Int)(ha:0≤a)(ha' :a<16)(hb:0≤b)(hb' :b<16):bits .or .i64 (a*16) b=16*a+b:=by
 have h:∀n,n<16→∀m,m<16→bits .or .i64 (((n:Nat):Int)*16) ((m:Nat):Int)=16*((n:Nat):Int)+((m:Nat):Int):=by decide+kernel
 have:=h a.toNat (by omega) b.toNat (by omega)
 rwa [Int.toNat_of_nonneg ha,Int.toNat_of_nonneg hb]at this
end Go.Hx
end
section
set_option maxRecDepth 20000
namespace Go.Proofs.YtmibdabdlgmafaaGreatDoor
open Go.Eng Go.Hx
theorem BB(g:Nat)(bt:TypeId)(x:Nat)(hx:x<4294967296)(w:World)(hb:fb w g bt [.int .u32 (x:Int)]):
  Calls Tryz.prog 298 #[.pointer (some ⟨g,0,none⟩)] w fun e w' =>e= .returned (.tuple #[])∧Fr (fun i=>i=g) w w' ∧fb w' g bt [.int .u32 (mF x:Nat)]:=by
 have hc:w.cell? ⟨g,0,none⟩=some (.int .u32 (x:Int)):=hb.cell rfl
 have h3:(0:Int)≤2197175160*((x % 2:Nat):Int)∧2197175160*((x % 2:Nat):Int)<4294967296:=by omega
 refine enter (N:=9) Tryz.func298 rfl rfl (by simp) ?_
 refine a8<|bm<|nq (aw rfl bM hc)<|nq (gx (by simp) rfl rfl (Gg x hx))<|nq (ab rfl)<|bk<|bS (ae (t:=1) rfl<|ae (t:=0) rfl<|aE)<|aH<|bm<|nq (aw rfl bM hc)<|nq (nr (p:=2) rfl rfl (by decide) (by decide) (by decide))<|nq (aa rfl)<|nq (fp rfl rfl (wj h3.1 h3.2))<|nq (gx (by simp) rfl rfl (ze x hx))<| ?_
 refine E0 (x7 rfl rfl bF rfl hb (by simp) fun w1 hf1 hb1 hs1=> ?_)
 refine bk<|bS (ae (t:=1) rfl<|ae (t:=0) rfl<|aE)<| ?_
 exact EH trivial rfl ⟨rfl,hf1,hb1⟩
theorem yQ(x n:Nat)(hx:x<4294967296)(hn:n≤1000000)(w:World):
  Calls Tryz.prog 273 #[.int .u32 (x:Int),.int .i64 (n:Int)] w fun e w' =>e= .returned (.int .u32 (fO n x:Nat))∧Fr No w w' :=by
 refine enter (N:=14) Tryz.func273 rfl rfl (by simp) ?_
 refine a8<|bm<| ?_
 refine nx (sG rfl fun g w1 hg hf1 hb1=> ?_)
 refine nq (ab rfl)<|bk<|aH<|a8<|bm<|nq (j3 rfl rfl)<|nq (ab rfl)<|bk<|bS (ae (t:=5) rfl<|ae (t:=4) rfl<|ae (t:=2) rfl<|ae (t:=0) rfl<|ae (t:=1) rfl<|aE)<|aH<|a8<|a8<|bm<|nq (aa rfl)<|nq (aa rfl)<|bk<|aH<|db<| ?_
 refine m8 (fun k=>n-k) (fun k=>[(2,.pointer (some ⟨g,0,none⟩)),(5,.func (.func 298) #[] #[.pointer (some ⟨g,0,none⟩)]),(7,.int .i64 (n:Int)),(8,.int .i64 (k:Nat))]) (fun k w' =>k≤n∧Fr No w w' ∧fb w' g 166 [.int .u32 (fO k x:Nat)]) 0 (⟨Nat.zero_le _,hf1,hb1⟩) (ae (t:=2) rfl<|ae (t:=5) rfl<|ae (t:=7) rfl<|ae (t:=8) rfl<|aE) (fun k w2 ⟨hk,hf2,hb2⟩=> ?_)
 refine a8<|bm<|nq (bw rfl rfl)<|bk<|aH<|a8<| ?_
 refine sd rfl (fun h=> ?_) (fun h=> ?_)
 ·refine fk<|aH<|a8<|db<|bm<|nq (aa rfl)<| ?_
  refine nx (wo rfl rfl Tryz.call298 (first:=[]) (cap:=[_]) (BB g _ _ (kW hx k) _ hb2) ?_)
  rintro e_ w3 ⟨rfl,hf3,hb3⟩
  refine⟨_,rfl, ?_⟩
  refine bk<|bS (ae (t:=9) rfl<|ae (t:=2) rfl<|ae (t:=5) rfl<|ae (t:=7) rfl<|ae (t:=8) rfl<|aE)<|fI<|aH<|bm<|nq (aM rfl rfl (bD (by omega) (by omega)))<|nq (aa rfl)<|bk<|bS (ae (t:=8) rfl<|ae (t:=9) rfl<|ae (t:=2) rfl<|ae (t:=5) rfl<|ae (t:=7) rfl<|aE)<| ?_
  refine nk (k+1) (ae (t:=2) rfl<|ae (t:=5) rfl<|ae (t:=7) rfl<|ae (t:=8) rfl<|aE) (⟨by omega,hf2.new hf3 (fun i hi=>by omega),hb3⟩) (by omega)
 ·obtain rfl:k=n:=by omega
  refine j9<|b5<|b5<|da<|aH<|a8<|bm<|nq (aw rfl bM ((hb2.cell rfl)))<|nq (ab rfl)<|bk<|bS (ae (t:=4) rfl<|ae (t:=9) rfl<|ae (t:=2) rfl<|ae (t:=5) rfl<|ae (t:=7) rfl<|ae (t:=8) rfl<|aE)<|aH<|eM<| ?_
  exact gh trivial rfl rfl ⟨rfl,hf2⟩
theorem Br(A:Option Addr)(n c:Nat)(l:List UInt8)(s:Nat)(hs:s<4294967296)(w:World)(hr:Rd w 1 A n (aQ l))(hn:n≤140737488351232):
  Calls Tryz.prog 232 #[.int .u32 (s:Int),.slice A n c] w fun e w' =>e= .returned (.int .u32 (4294967295-jW (4294967295-s) l:Nat))∧Fr No w w' :=by
 have hl:l.length=n:=by have:=hr.1;rw[az]at this;omega
 refine enter (N:=25) Tryz.func232 rfl rfl (by simp) ?_
 refine a8<|bm<|nq (ab rfl)<|bk<|aH<|a8<|bm<|nq (aa rfl)<|nq (yV (rz rfl hs) (congrArg (fun n:Nat=>Value.int .u32 (n:Int)) (sQ hs)))<|nq (ab rfl)<|bk<|bS (ae (t:=5) rfl<|ae (t:=4) rfl<|ae (t:=0) rfl<|ae (t:=1) rfl<|aE)<|aH<|a8<|a8<|bm<|nq (aa rfl)<|nq (aX rfl Tryz.underlying27)<|nq (aa rfl)<|bk<|bS (ae (t:=11) rfl<|ae (t:=10) rfl<|ae (t:=5) rfl<|ae (t:=4) rfl<|ae (t:=0) rfl<|ae (t:=1) rfl<|aE)<|aH<|db<| ?_
 refine m8 (fun k=>n-k) (fun k=>[(1,.slice A n c),(5,.int .u32 (jW (4294967295-s) (l.take k):Nat)),(10,.int .i64 (n:Int)),(11,.int .i64 (k:Nat))]) (fun k w' =>k≤n∧Fr No w w') 0 (⟨Nat.zero_le _,Fr.refl _ _⟩) (ae (t:=1) rfl<|ae (t:=5) rfl<|ae (t:=10) rfl<|ae (t:=11) rfl<|aE) (fun k w2 ⟨hk,hf2⟩=> ?_)
 refine a8<|bm<|nq (bw rfl rfl)<|bk<|aH<|a8<| ?_
 refine sd rfl (fun h=> ?_) (fun h=> ?_)
 ·have hkn:k<l.length:=by omega
  have hm:=mI (n:=4294967295-s) (by omega) (l.take k)
  have hbt:=(l.getD k 0).toNat_lt
  have r2:=hr.pU hf2
  refine fk<|aH<|a8<|db<|a8<|bm<|nq (aa rfl)<|nq (ab rfl)<|bk<|bS (ae (t:=6) rfl<|ae (t:=12) rfl<|ae (t:=1) rfl<|ae (t:=5) rfl<|ae (t:=10) rfl<|ae (t:=11) rfl<|aE)<|aH<|bm<|nq (aa rfl)<|nq (aa rfl)<|nq (aa rfl)<|nq (aO rfl rfl Tryz.underlying27 dZ r2.2.1 rfl (by omega))<|nq (aw rfl jt (r2.cell (bI hkn)))<|nq (bT rfl Tryz.underlying5 Tryz.underlying166 ((wj (by omega) (by omega))))<|nq (gx (by simp) rfl rfl (tL _ hm _))<| ?_
  refine nx (eN rfl Tryz.call273 (yQ _ 8 (nM hm _) (by decide) _) ?_)
  rintro e_ w3 ⟨rfl,hf3⟩
  refine⟨_,rfl, ?_⟩
  rw[←pj,←Go.Hx.eI hkn]
  refine nq (ab rfl)<|bk<|bS (ae (t:=5) rfl<|ae (t:=6) rfl<|ae (t:=12) rfl<|ae (t:=1) rfl<|ae (t:=10) rfl<|ae (t:=11) rfl<|aE)<|fI<|aH<|bm<|nq (aM rfl rfl (bD (by omega) (by omega)))<|nq (aa rfl)<|bk<|bS (ae (t:=11) rfl<|ae (t:=5) rfl<|ae (t:=6) rfl<|ae (t:=12) rfl<|ae (t:=1) rfl<|ae (t:=10) rfl<|aE)<| ?_
  refine nk (k+1) (ae (t:=1) rfl<|ae (t:=5) rfl<|ae (t:=10) rfl<|ae (t:=11) rfl<|aE) (⟨by omega,hf2.dr hf3⟩) (by omega)
 ·obtain rfl:k=n:=by omega
  have hm:=mI (n:=4294967295-s) (by omega) (l.take k)
  refine j9<|b5<|b5<|da<|aH<|a8<|bm<|nq (aa rfl)<|nq (rz rfl hm)<|nq (ab rfl)<|bk<|bS (ae (t:=4) rfl<|ae (t:=12) rfl<|ae (t:=1) rfl<|ae (t:=5) rfl<|ae (t:=10) rfl<|ae (t:=11) rfl<|aE)<|aH<|eM<| ?_
  rw[List.take_of_length_le (by omega)]at hm ⊢
  rw[sQ hm]
  exact gh trivial rfl rfl ⟨rfl,hf2⟩
theorem yk(A:Option Addr)(n c:Nat)(l:List UInt8)(w:World)(hr:Rd w 1 A n (aQ l))(hn:n≤140737488351232):
  Calls Tryz.prog 180 #[.slice A n c] w fun e w' =>e= .returned (.int .u32 (cJ l:Nat))∧Fr No w w' :=by
 refine enter (N:=5) Tryz.func180 rfl rfl (by simp) ?_
 refine a8<|bm<|nq (ab rfl)<|bk<|aH<|a8<|bm<|nq (aa rfl)<| ?_
 refine nx (eN rfl Tryz.call232 (Br A n c l 0 (by decide) w hr hn) ?_)
 rintro e_ w1 ⟨rfl,hf1⟩
 refine⟨_,rfl, ?_⟩
 refine nq (ab rfl)<|bk<|bS (ae (t:=2) rfl<|ae (t:=0) rfl<|aE)<|aH<|eM<| ?_
 exact gh trivial rfl rfl ⟨rfl,hf1⟩
theorem clone(A:Option Addr)(n c:Nat)(l:List UInt8)(w:World)(hr:Rd w 1 A n (aQ l))(hn:n≤140737488351232):
  Calls Tryz.prog 117 #[.slice A n c] w fun e w' =>∃v,e= .returned v∧Go.Eng.Own w' w.heap.size 5 1 v n (aQ l)∧Fr No w w' :=by
 have hl:l.length=n:=by have:=hr.1;rw[az]at this;omega
 refine enter (N:=8) Tryz.func117 rfl rfl (by simp) ?_
 refine a8<|bm<|nq (ab rfl)<|bk<|aH<|a8<|a8<|bm<|nq (aa rfl)<|nq (Df rfl rfl Tryz.underlying27)<|bk<|bS (ae (t:=4) rfl<|ae (t:=2) rfl<|ae (t:=0) rfl<|aE)<|aH<| ?_
 cases A with
 |none=>
  have h0:n=0:=by
   rcases Nat.eq_zero_or_pos n with h|h
   ·exact h
   ·exact absurd rfl (hr.2.1 h)
  subst h0
  obtain rfl:l=[]:=List.eq_nil_of_length_eq_zero hl
  refine AP rfl (rfl) ?_
  refine a8<|bm<|nq (ab rfl)<|bk<|aH<|eM<|cX<| ?_
  exact gh trivial rfl rfl ⟨_,rfl,Own.nil _ _ _ _,Fr.refl _ _⟩
 |some a=>
  refine uC rfl (rfl) ?_
  refine fk<|aH<|a8<|bm<| ?_
  refine nx (Dq Tryz.underlying27 eP fun g w1 hg hf1 hb1=> ?_)
  refine nq (aa rfl)<| ?_
  refine nx (lr rfl rfl Tryz.underlying27 Tryz.underlying27 (by exact .inl rfl) eP rfl (Own.FN hb1 hg) (Src.bY (hr.pU hf1)) gk (by unfold maxLen;omega) (by omega) hf1.size fun v w2 ho hf2 hv=> ?_)
  refine nq (ab rfl)<|bk<|bS (ae (t:=2) rfl<|ae (t:=4) rfl<|ae (t:=0) rfl<|aE)<|aH<|eM<| ?_
  refine gh trivial rfl rfl ⟨v,rfl, ?_,hf1.new hf2 (fun i hi=>by have:i=g:=hi;omega)⟩
  simpa using ho
theorem zy(A:Option Addr)(n c:Nat)(l:List UInt8)(s:Nat)(hs:s<4294967296)(w:World)(hr:Rd w 1 A n (aQ l))(hn:n≤140737488351232):
  Calls Tryz.prog 243 #[.int .u32 (s:Int),.slice A n c] w fun e w' =>e= .returned (.int .u32 (4294967295-jW (4294967295-s) l:Nat))∧w=w' :=by
 have hl:l.length=n:=by have:=hr.1;rw[az]at this;omega
 refine enter (N:=37) Tryz.func243 rfl rfl (by simp) ?_
 refine a8<|bm<|nq (ab rfl)<|bk<|aH<|a8<|bm<|nq (aa rfl)<|nq (ck rfl rfl ((show IntKind.u32.wrap (4294967295-(s:Int))=((4294967295-s:Nat):Int) by rw[wj (by omega) (by omega)];omega)))<|nq (ab rfl)<|bk<|bS (ae (t:=5) rfl<|ae (t:=4) rfl<|ae (t:=0) rfl<|ae (t:=1) rfl<|aE)<|aH<|a8<|a8<|bm<|nq (ab rfl)<|bk<|aH<|db<| ?_
 refine m8 (fun k=>n-k) (fun k=>[(1,.slice A n c),(5,.int .u32 (jW (4294967295-s) (l.take k):Nat)),(6,.int .i64 (k:Nat))]) (fun k w' =>k≤n∧w=w') 0 (⟨Nat.zero_le _,rfl⟩) (ae (t:=1) rfl<|ae (t:=5) rfl<|ae (t:=6) rfl<|aE) (fun k w2 ⟨hk,hw⟩=> ?_)
 obtain rfl:=hw
 refine a8<|a8<|bm<|nq (aa rfl)<|nq (aa rfl)<|nq (aX rfl Tryz.underlying27)<|nq (bw rfl rfl)<|bk<|bS (ae (t:=13) rfl<|ae (t:=1) rfl<|ae (t:=5) rfl<|ae (t:=6) rfl<|aE)<|aH<| ?_
 refine sd rfl (fun h=> ?_) (fun h=> ?_)
 ·have hkn:k<l.length:=by omega
  have hm:=mI (n:=4294967295-s) (by omega) (l.take k)
  have hbt:=(l.getD k 0).toNat_lt
  have hx:=nM hm (l.getD k 0)
  refine fk<|aH<|a8<|db<|a8<|bm<|nq (aa rfl)<|nq (aa rfl)<|nq (aa rfl)<|nq (aO rfl rfl Tryz.underlying27 dZ hr.2.1 rfl (by omega))<|nq (aw rfl jt (hr.cell (bI hkn)))<|nq (bT rfl Tryz.underlying5 Tryz.underlying166 ((wj (by omega) (by omega))))<|nq (gx (by simp) rfl rfl (tL _ hm _))<|nq (ab rfl)<|bk<|bS (ae (t:=5) rfl<|ae (t:=13) rfl<|ae (t:=1) rfl<|ae (t:=6) rfl<|aE)<|aH<|a8<|bm<|nq (ab rfl)<|bk<|aH<|db<| ?_
  generalize hX:jW (4294967295-s) (l.take k) ^^^ (l.getD k 0).toNat=X at hx
  refine m8 (fun q=>8-q) (fun q=>[(1,.slice A n c),(5,.int .u32 (fO q X:Nat)),(6,.int .i64 (k:Nat)),(7,.int .i64 (q:Nat))]) (fun q w' =>q≤8∧w=w') 0 (⟨Nat.zero_le _,rfl⟩) (ae (t:=1) rfl<|ae (t:=5) rfl<|ae (t:=6) rfl<|ae (t:=7) rfl<|aE) (fun q w3 ⟨hq,hw⟩=> ?_)
  obtain rfl:=hw
  have hc:=kW hx q
  refine a8<|a8<|bm<|nq (aa rfl)<|nq (bw rfl rfl)<|bk<|bS (ae (t:=24) rfl<|ae (t:=1) rfl<|ae (t:=5) rfl<|ae (t:=6) rfl<|ae (t:=7) rfl<|aE)<|aH<| ?_
  refine sd rfl (fun h2=> ?_) (fun h2=> ?_)
  ·refine fk<|aH<|a8<|db<|a8<|bm<|nq (aa rfl)<|nq (gC rfl rfl (by omega) (by omega))<|nq (cH rfl rfl)<|bk<|bS (ae (t:=29) rfl<|ae (t:=24) rfl<|ae (t:=1) rfl<|ae (t:=5) rfl<|ae (t:=6) rfl<|ae (t:=7) rfl<|aE)<|aH<| ?_
   refine sd rfl (fun h3=> ?_) (fun h3=> ?_)
   ·refine bm<|nq (aa rfl)<|nq (j1 rfl rfl (by omega) (by omega) (wj (by omega) (by omega)))<|nq (gx (by simp) rfl rfl (yJ _ hc))<|nq (ab rfl)<|bk<|bS (ae (t:=5) rfl<|ae (t:=29) rfl<|ae (t:=24) rfl<|ae (t:=1) rfl<|ae (t:=6) rfl<|ae (t:=7) rfl<|aE)<|fI<|aH<|bm<|nq (aa rfl)<|nq (aM rfl rfl (bD (by omega) (by omega)))<|nq (ab rfl)<|bk<|bS (ae (t:=7) rfl<|ae (t:=5) rfl<|ae (t:=29) rfl<|ae (t:=24) rfl<|ae (t:=1) rfl<|ae (t:=6) rfl<|aE)<| ?_
    rw[show fO q X/2 ^^^ 2197175160=fO (q+1) X by rw[fO,mF,if_pos (by omega)]]
    refine nk (q+1) (ae (t:=1) rfl<|ae (t:=5) rfl<|ae (t:=6) rfl<|ae (t:=7) rfl<|aE) (⟨by omega,rfl⟩) (by omega)
   ·refine bm<|nq (aa rfl)<|nq (j1 rfl rfl (by omega) (by omega) (wj (by omega) (by omega)))<|nq (ab rfl)<|bk<|bS (ae (t:=5) rfl<|ae (t:=29) rfl<|ae (t:=24) rfl<|ae (t:=1) rfl<|ae (t:=6) rfl<|ae (t:=7) rfl<|aE)<|fI<|aH<|bm<|nq (aa rfl)<|nq (aM rfl rfl (bD (by omega) (by omega)))<|nq (ab rfl)<|bk<|bS (ae (t:=7) rfl<|ae (t:=5) rfl<|ae (t:=29) rfl<|ae (t:=24) rfl<|ae (t:=1) rfl<|ae (t:=6) rfl<|aE)<| ?_
    rw[show(fO q X:Int)/2=((fO (q+1) X:Nat):Int) by rw[fO,mF,if_neg (by omega)];omega]
    refine nk (q+1) (ae (t:=1) rfl<|ae (t:=5) rfl<|ae (t:=6) rfl<|ae (t:=7) rfl<|aE) (⟨by omega,rfl⟩) (by omega)
  ·obtain rfl:q=8:=by omega
   refine j9<|b5<|b5<|da<|fI<|aH<|bm<|nq (aa rfl)<|nq (aM rfl rfl (bD (by omega) (by omega)))<|nq (ab rfl)<|bk<|bS (ae (t:=6) rfl<|ae (t:=24) rfl<|ae (t:=1) rfl<|ae (t:=5) rfl<|ae (t:=7) rfl<|aE)<| ?_
   rw[←hX,←pj,←Go.Hx.eI hkn]
   refine nk (k+1) (ae (t:=1) rfl<|ae (t:=5) rfl<|ae (t:=6) rfl<|aE) (⟨by omega,rfl⟩) (by omega)
 ·obtain rfl:k=n:=by omega
  have hm:=mI (n:=4294967295-s) (by omega) (l.take k)
  refine j9<|b5<|b5<|da<|aH<|a8<|bm<|nq (aa rfl)<|nq (ck rfl rfl ((show IntKind.u32.wrap (4294967295-((jW (4294967295-s) (l.take k):Nat):Int))=((4294967295-jW (4294967295-s) (l.take k):Nat):Int) by rw[wj (by omega) (by omega)];omega)))<|nq (ab rfl)<|bk<|bS (ae (t:=4) rfl<|ae (t:=13) rfl<|ae (t:=1) rfl<|ae (t:=5) rfl<|ae (t:=6) rfl<|aE)<|aH<|eM<| ?_
  rw[List.take_of_length_le (by omega)]
  exact gh trivial rfl rfl ⟨rfl,rfl⟩
theorem Bg(A:Option Addr)(n c:Nat)(l:List UInt8)(w:World)(hr:Rd w 1 A n (aQ l))(hn:n≤70368744177664):
  Calls Tryz.prog 189 #[.slice A n c] w fun e w' =>∃v,e= .returned v∧Go.Eng.Own w' w.heap.size 5 1 v (n+4) (aQ (yb l))∧Fr No w w' :=by
 have hl:l.length=n:=by have:=hr.1;rw[az]at this;omega
 refine enter (N:=24) Tryz.func189 rfl rfl (by simp) ?_
 refine a8<|bm<|nq (ab rfl)<|bk<|aH<|a8<|bm<|nq (aa rfl)<| ?_
 refine nx (eN rfl Tryz.call243 (zy A n c l 0 (by decide) w hr (by omega)) ?_)
 rintro e_ w1 ⟨rfl,rfl⟩
 refine⟨_,rfl, ?_⟩
 refine nq (ab rfl)<|bk<|bS (ae (t:=3) rfl<|ae (t:=2) rfl<|ae (t:=0) rfl<|aE)<|aH<|a8<|bm<|nq (ab rfl)<|bk<|aH<|a8<|bm<|nq (aa rfl)<|nq (aa rfl)<| ?_
 refine nx (lr rfl rfl Tryz.underlying27 Tryz.underlying27 (by exact .inl rfl) eP rfl (Own.nil w w.heap.size _ 1) (Src.bY hr) gk (by unfold maxLen;omega) (by omega) (Nat.le_refl _) fun v w2 hv hf2 hvv=> ?_)
 have hlt:=jl l
 have f2:Fr No w w2:=hf2.mono (fun _ _ e=>e.elim)
 refine nq (ab rfl)<|bk<|bS (ae (t:=4) rfl<|ae (t:=3) rfl<|ae (t:=2) rfl<|ae (t:=0) rfl<|aE)<|aH<|a8<|a8<|bm<|nq (ab rfl)<|bk<|aH<|db<| ?_
 refine q6 (fun k _=>4-k) (fun k v=>[(3,.int .u32 (rb k (cJ l):Nat)),(4,v),(5,.int .i64 (k:Nat))]) (fun k v w' =>k≤4∧Go.Eng.Own w' w.heap.size 5 1 v (n+k) (aQ (l++DW k (cJ l)))∧Fr No w w') 0 v (⟨Nat.zero_le _,by simpa[DW]using hv,f2⟩) (ae (t:=3) rfl<|ae (t:=4) rfl<|ae (t:=5) rfl<|aE) (fun k v w3 ⟨hk,ho,hf⟩=> ?_)
 refine a8<|a8<|bm<|nq (aa rfl)<|nq (bw rfl rfl)<|bk<|bS (ae (t:=12) rfl<|ae (t:=3) rfl<|ae (t:=4) rfl<|ae (t:=5) rfl<|aE)<|aH<| ?_
 refine sd rfl (fun h=> ?_) (fun h=> ?_)
 ·have hs8:=wx hlt k
  refine fk<|aH<|a8<|db<|a8<|bm<|nq (aa rfl)<|nq (aa rfl)<|nq (gC rfl rfl (by omega) (by omega))<|nq (bT rfl Tryz.underlying166 Tryz.underlying5 ((show IntKind.u8.wrap (((rb k (cJ l):Nat):Int) % 256)=((UInt8.ofNat (rb k (cJ l))).toNat:Int) by simp[IntKind.wrap,IntKind.signed,IntKind.bits])))<| ?_
  refine nx (ny Tryz.underlying27 eP rfl rfl rfl (by simp[Value.cells,B8]) (by decide) (by decide) fun g w4 hg hf4 hb4=> ?_)
  refine nx (lr rfl rfl Tryz.underlying27 Tryz.underlying27 (by exact .inl rfl) eP rfl (ho.pU hf4) (Src.gv hb4 rfl) (aS (l:=[_])) (by unfold maxLen;omega) (by omega) (hf.dr hf4).size fun v5 w5 ho5 hf5 hv5=> ?_)
  refine nq (ab rfl)<|bk<|bS (ae (t:=4) rfl<|ae (t:=12) rfl<|ae (t:=3) rfl<|ae (t:=5) rfl<|aE)<|aH<|bm<|nq (aa rfl)<|nq (j1 rfl rfl (by omega) (by omega) (wj (by omega) (by omega)))<|nq (ab rfl)<|bk<|bS (ae (t:=3) rfl<|ae (t:=4) rfl<|ae (t:=12) rfl<|ae (t:=5) rfl<|aE)<|fI<|aH<|bm<|nq (aa rfl)<|nq (aM rfl rfl (bD (by omega) (by omega)))<|nq (ab rfl)<|bk<|bS (ae (t:=5) rfl<|ae (t:=3) rfl<|ae (t:=4) rfl<|ae (t:=12) rfl<|aE)<| ?_
  refine oP (k+1) v5 (ae (t:=3) rfl<|ae (t:=4) rfl<|ae (t:=5) rfl<|aE) (⟨by omega,by rw[yA,←List.append_assoc,bs];exact ho5,(hf.dr hf4).new hf5 (fun i hi=>(ho.from hi).1)⟩) (by omega)
 ·obtain rfl:k=4:=by omega
  refine j9<|b5<|b5<|da<|aH<|a8<|bm<|nq (aa rfl)<|nq (ab rfl)<|bk<|bS (ae (t:=2) rfl<|ae (t:=12) rfl<|ae (t:=3) rfl<|ae (t:=4) rfl<|ae (t:=5) rfl<|aE)<|aH<|eM<| ?_
  rw[xY]at ho
  exact gh trivial rfl rfl ⟨v,rfl,ho,hf⟩
end Go.Proofs.YtmibdabdlgmafaaGreatDoor
end
section
set_option maxRecDepth 20000
namespace Go.Proofs.YtmibdabdlgmafaaGreatDoor
open Go.Eng Go.Hx
theorem u5(A:Option Addr)(n c:Nat)(l:List UInt8)(A' :Option Addr)(n' c' :Nat)(l' :List UInt8)(w:World)(hr:Rd w 1 A n (aQ l))(hr' :Rd w 1 A' n' (aQ l')):
  Calls Tryz.prog 215 #[.slice A n c,.slice A' n' c'] w fun e w' =>e= .returned (.bool (decide (l=l')))∧w=w' :=by
 refine enter (N:=10) Tryz.func215 rfl rfl (by simp) ?_
 refine a8<|bm<|nq (ab rfl)<|bk<|aH<|a8<|bm<|nq (aa rfl)<|nq (jX rfl Tryz.underlying27 Tryz.underlying5 Tryz.underlying9 hr)<|nq (aa rfl)<|nq (jX rfl Tryz.underlying27 Tryz.underlying5 Tryz.underlying9 hr')<|nq (sv rfl rfl)<|nq (ab rfl)<|bk<|bS (ae (t:=4) rfl<|ae (t:=0) rfl<|ae (t:=1) rfl<|aE)<|aH<|eM<| ?_
 refine gh trivial rfl rfl ⟨?_,rfl⟩
 simp only[cA]
end Go.Proofs.YtmibdabdlgmafaaGreatDoor
end
section
set_option maxRecDepth 20000
namespace Go.Proofs.YtmibdabdlgmafaaGreatDoor
open Go.Eng Go.Hx
theorem nE{A A1:Option Addr}{n c n1 c1:Nat}{l l1:List UInt8}:cf Tryz.prog 215 [.slice A n c,.slice A1 n1 c1] [] [c6 1 A n (aQ l),c6 1 A1 n1 (aQ l1)] (fun v_ X_ S_=>v_=(.bool (decide (l=l1)))∧X_=[]∧S_=[]):=by
 exact gT fun m=>Calls.mono (u5 A n c l A1 n1 c1 l1 _ (m.rd 0 rfl) (m.rd 1 rfl)) (fun e w' ⟨h,hw⟩=>⟨_,h,⟨rfl,rfl,rfl⟩,hw▸Fr.refl _ _⟩)
theorem r5{A:Option Addr}{n c:Nat}{l:List UInt8}(hn:n≤140737488351232):cf Tryz.prog 117 [.slice A n c] [] [c6 1 A n (aQ l)] (fun v_ X_ S_=>∃v,v_=v∧X_=[aG 5 1 v n (aQ l)]∧S_=[]):=by
 exact ko fun m=>Calls.mono (clone A n c l _ (m.rd 0 rfl) hn) (fun e w' ⟨v,h,ho,hf⟩=>⟨v,v,_,_,_,_,h,⟨v,rfl,rfl,rfl⟩,ho,hf⟩)
end Go.Proofs.YtmibdabdlgmafaaGreatDoor
end
section
set_option maxRecDepth 20000
namespace Go.Proofs.YtmibdabdlgmafaaGreatDoor
open Go.Eng Go.Hx
def ef:bg:=c6 1 (some ⟨1,0,none⟩) 64 (dV fy)
theorem DI{n:Nat}(h0:0<n)(hn:n<32):IntKind.u64.wrap (-(n:Int))=((18446744073709551616-n:Nat):Int):=by
 simp[IntKind.wrap,IntKind.signed,IntKind.bits]
 omega
theorem zf{n:Nat}(h0:0<n)(hn:n<32):bits .and .u64 ((18446744073709551616-n:Nat):Int) 31=((32-n:Nat):Int):=by
 have h:=u64_and_nat (18446744073709551616-n) 31 (by omega) (by decide)
 rw[show((31:Nat):Int)=31 from rfl]at h
 rw[h,show(31:Nat)=2 ^ 5-1 from rfl,Nat.and_two_pow_sub_one_eq_mod]
 congr 1
 show(18446744073709551616-n) % 32=32-n
 omega
theorem uB{x:UInt32}{n:Nat}(h0:0<n)(hn:n<32):cf Tryz.prog 296 [Wd x,.int .i64 (-(n:Int))] [] [] (fun v_ X_ S_=>v_=(Wd (kq n x))∧X_=[]∧S_=[]):=by
 refine aP (N:=17) Tryz.func296 rfl rfl (by simp) fun b=> ?_
 have hs:IntKind.u64.wrap (32-((32-n:Nat):Int))=(n:Int):=by
  rw[show(32:Int)-((32-n:Nat):Int)=(n:Int) by omega]
  simp[IntKind.wrap,IntKind.signed,IntKind.bits]
  omega
 refine ah<|aj<|hy (fun _=>ab rfl)<|ai<|ag<|ah<|aj<|hy (fun _=>aa rfl)<|hy (fun _=>bT rfl Tryz.underlying3 Tryz.underlying263 (DI h0 hn))<|hy (fun _=>gx (by simp) rfl rfl (zf h0 hn))<|hy (fun _=>ab rfl)<|ai<|al (ρ' :=[(5,_),(4,_),(0,_),(1,_)]) ⟨rfl,rfl,rfl,rfl,trivial⟩<|ag<|ah<|aj<|hy (fun _=>aa rfl)<|hy (fun _=>aa rfl)<|hy (fun _=>(An (k:=32-n) (by omega) rfl rfl))<|hy (fun _=>aa rfl)<|hy (fun _=>aa rfl)<|hy (fun _=>ck rfl rfl hs)<|hy (fun _=>(zY (k:=n) hn rfl rfl))<|hy (fun _=>yV (CN rfl rfl) ((show Wd (UInt32.ofNat (x.toNat*2 ^ (32-n)) ||| UInt32.ofNat (x.toNat/2 ^ n))=Wd (kq n x) by rw[Cc h0 hn])))<|hy (fun _=>ab rfl)<|ai<|al (ρ' :=[(4,_),(5,_),(0,_),(1,_)]) ⟨rfl,rfl,rfl,rfl,trivial⟩<|ag<|aU<| ?_
 exact bc trivial rfl rfl [] rfl [] rfl ⟨rfl,rfl,rfl⟩
theorem vv{x:UInt32}{n1 n2 n3:Nat}(h1:0<n1∧n1<32)(h2:0<n2∧n2<32)(h3:0<n3∧n3<32):cf Tryz.prog 269 [Wd x,.int .i64 (n1:Int),.int .i64 (n2:Int),.int .i64 (n3:Int)] [] [] (fun v_ X_ S_=>v_=(Wd (turns n1 n2 n3 x))∧X_=[]∧S_=[]):=by
 refine aP (N:=23) Tryz.func269 rfl rfl (by simp) fun b=> ?_
 refine ah<|aj<|hy (fun _=>ab rfl)<|ai<|ag<|ah<|aj<|hy (fun _=>aa rfl)<|hy (fun _=>aa rfl)<|hy (fun _=>vc rfl (bD (by omega) (by omega)))<| ?_
 refine hx (aq rfl Tryz.call296 (uB h1.1 h1.2 (n:=n1)) [] rfl [] rfl ?_)
 rintro _ _ _ ⟨rfl,rfl,rfl⟩
 refine hy (fun _=>aa rfl)<|hy (fun _=>aa rfl)<|hy (fun _=>vc rfl (bD (by omega) (by omega)))<| ?_
 refine hx (aq rfl Tryz.call296 (uB h2.1 h2.2 (n:=n2)) [] rfl [] rfl ?_)
 rintro _ _ _ ⟨rfl,rfl,rfl⟩
 refine hy (fun _=>dW rfl rfl)<|hy (fun _=>aa rfl)<|hy (fun _=>aa rfl)<|hy (fun _=>vc rfl (bD (by omega) (by omega)))<| ?_
 refine hx (aq rfl Tryz.call296 (uB h3.1 h3.2 (n:=n3)) [] rfl [] rfl ?_)
 rintro _ _ _ ⟨rfl,rfl,rfl⟩
 refine hy (fun _=>dW rfl rfl)<|hy (fun _=>ab rfl)<|ai<|al (ρ' :=[(8,_),(0,_),(1,_),(2,_),(3,_)]) ⟨rfl,rfl,rfl,rfl,rfl,trivial⟩<|ak (X' :=[]) (S' :=[]) (fun _ m=>m)<|ag<|aU<| ?_
 exact bc trivial rfl rfl [] rfl [] rfl ⟨rfl,rfl,rfl⟩
theorem mj{a:List UInt32}{i k n:Nat}(ha:a.length=i)(hk:k<i):(dV (a++List.replicate n 0))[k]? =some (Wd (a.getD k 0)):=by
 rw[bf (by simp;omega)]
 simp[List.getD,List.getElem?_append_left (show k<a.length by omega)]
theorem A8{a r:List UInt32}{i:Nat}{x:UInt32}(ha:a.length=i):(dV (a++x::r))[i]? =some (Wd x):=by
 subst ha
 simp[dV]
theorem vH{a r:List UInt32}{i:Nat}{x y:UInt32}(ha:a.length=i):(dV (a++x::r)).set i (Wd y)=dV (a++y::r):=by
 subst ha
 simp[dV,List.set_append]
theorem u9{a r:List UInt32}{y:UInt32}:a++y::r=(a++[y])++r:=by simp
theorem Et{A:Option Addr}{c:Nat}{l:List UInt8}(hc:64≤c):cf Tryz.prog 268 [.slice A 64 c] [] [c6 1 A 64 (aQ l)] (fun v_ X_ S_=>v_=(.agg (dV (wl l 64)).toArray)∧X_=[]∧S_=[]):=by
 refine aP (N:=75) Tryz.func268 rfl rfl (by simp) fun b=> ?_
 refine aZ (fun m=>gz (m.rd 0 rfl)) ?_
 rintro⟨hl_r,hA_r⟩
 have hl:l.length=64:=hl_r
 refine ah<|aj<| ?_
 refine hx (aN y1 (fun g2=> ?_))
 refine ai<|ak (X' :=[_]) (S' :=[_]) (fun _ m=>m)<|ag<|ah<|aj<| ?_
 refine hx (aN y1 (fun g3=> ?_))
 refine aR (fun w m=>m.bO 0 rfl (show _=aI g3 354 (dV (wl l 0++List.replicate (64-0) 0))from rfl)) ?_
 refine ai<|ak (X' :=[_,_]) (S' :=[_]) (fun _ m=>m)<|ag<|ah<|ah<|aj<|hy (fun _=>aa rfl)<|ai<|ag<|aK<| ?_
 refine dz (fun i=>64-i) (fun i=>[(9,.int .i64 (i:Nat))]) (fun i=>[aI g3 354 (dV (wl l i++List.replicate (64-i) 0))]) (fun i=>[]) (fun i=>i≤64) 0 [(3,_),(2,_),(0,_)] ⟨rfl,rfl,rfl,trivial⟩ [0] rfl [] rfl (Nat.zero_le _) ⟨rfl,trivial⟩ (fun i hI=> ?_)
 have hwl:=fh l i
 refine ah<|aj<|hy (fun _=>bw rfl rfl)<|ai<|ag<|ah<| ?_
 refine cD rfl (fun h=> ?_) (fun h=> ?_)
 ·have hr64:(List.replicate (64-i) (0:UInt32))=0::List.replicate (63-i) 0:=by rw[show 64-i=(63-i)+1 by omega,List.replicate_succ]
  have hr63:(64-(i+1))=63-i:=by omega
  refine aD<|ag<|ah<|aK<|ah<|aj<|hy (fun _=>aa rfl)<|hy (fun _=>ab rfl)<|ai<|al (ρ' :=[(4,_),(10,_),(9,_),(3,_),(2,_),(0,_)]) ⟨rfl,rfl,rfl,rfl,rfl,rfl,trivial⟩<|ag<|ah<|ah<|aj<|hy (fun _=>aa rfl)<|hy (fun _=>bw rfl rfl)<|ai<|al (ρ' :=[(13,_),(4,_),(10,_),(9,_),(3,_),(2,_),(0,_)]) ⟨rfl,rfl,rfl,rfl,rfl,rfl,rfl,trivial⟩<|ag<| ?_
  refine cD rfl (fun h16=> ?_) (fun h16=> ?_)
  ·have hws:wl l (i+1)=wl l i++[kj l (4*i)]:=by rw[wl,if_pos (by omega)]
   refine bB (fun w m=>m.j6 0 rfl (View.sub (k:=4*i) (m:=4) hc (by omega))) ?_
   refine aZ (fun m=>gz (m.rd 0 rfl)) ?_
   rintro⟨hl_r4,hA_r4⟩
   refine ah<|ah<|aj<|hy (fun _=>aa rfl)<|hy (fun _=>aa rfl)<|hy (fun _=>fp rfl rfl (bD (by omega) (by omega)))<|hy (fun _=>aa rfl)<|hy (fun _=>fp rfl rfl (bD (by omega) (by omega)))<|hy (fun _=>aM rfl rfl (bD (by omega) (by omega)))<|hy (fun _=>yV (ey rfl rfl rfl Tryz.underlying27 dZ (show((4*i:Nat):Int)=_ by omega) (show((4*i+4:Nat):Int)=_ by omega) (by omega) (by omega)) ((show Value.slice (if c=4*i then A else A.map (·.add (4*i*1))) (4*i+4-4*i) (c-4*i)= .slice (if c=4*i then A else A.map (·.add (4*i*1))) 4 (c-4*i) by rw[Nat.add_sub_cancel_left])))<|hy (fun _=>aX rfl Tryz.underlying27)<|hy (fun _=>aa rfl)<|ai<|al (ρ' :=[(22,_),(21,_),(20,_),(13,_),(4,_),(10,_),(9,_),(3,_),(2,_),(0,_)]) ⟨rfl,rfl,rfl,rfl,rfl,rfl,rfl,rfl,rfl,rfl,trivial⟩<|ag<|aK<| ?_
   refine bB (fun w m=>m.bO 0 rfl (show _=aI g3 354 (dV (wl l i++UInt32.ofNat (wp l (4*i) 0)::List.replicate (63-i) 0))from by rw[hr64];rfl)) ?_
   refine dz (fun j=>4-j) (fun j=>[(22,.int .i64 (j:Nat))]) (fun j=>[aI g3 354 (dV (wl l i++UInt32.ofNat (wp l (4*i) j)::List.replicate (63-i) 0))]) (fun j=>[]) (fun j=>j≤4) 0 [(21,_),(20,_),(13,_),(4,_),(10,_),(9,_),(3,_),(2,_),(0,_)] ⟨rfl,rfl,rfl,rfl,rfl,rfl,rfl,rfl,rfl,trivial⟩ [0] rfl [] rfl (Nat.zero_le _) ⟨rfl,trivial⟩ (fun j hj4=> ?_)
   refine ah<|aj<|hy (fun _=>bw rfl rfl)<|ai<|ag<|ah<| ?_
   refine cD rfl (fun hj=> ?_) (fun hj=> ?_)
   ·have hgl:((l.drop (4*i)).take 4).getD j 0=l.getD (4*i+j) 0:=by
     simp[List.getD,List.getElem?_take,List.getElem?_drop,show j<4 by omega]
    refine aD<|ag<|ah<|aK<|ah<|aj<|hy (fun _=>aO rfl rfl Tryz.underlying27 dZ hA_r4 rfl (by omega))<|hy (fun m=>aw rfl jt ((m.rd 0 rfl).cell (bI (by omega))))<|hy (fun _=>ab rfl)<|ai<|al (ρ' :=[(6,_),(23,_),(22,_),(21,_),(20,_),(13,_),(4,_),(10,_),(9,_),(3,_),(2,_),(0,_)]) ⟨rfl,rfl,rfl,rfl,rfl,rfl,rfl,rfl,rfl,rfl,rfl,rfl,trivial⟩<|ag<|aj<|hy (fun _=>aa rfl)<|hy (fun _=>aa rfl)<|hy (fun _=>bZ rfl rfl Tryz.underlying354 bF rfl (by omega))<|hy (fun m=>aw rfl bM ((m.aY 0 rfl).ay i _ (A8 hwl)))<|hy (fun _=>Ce (k:=8) (b:=256) (by decide) rfl rfl rfl)<|hy (fun _=>aa rfl)<|hy (fun _=>yX rfl Tryz.underlying5 Tryz.underlying166)<|hy (fun _=>yV (CN rfl rfl) ((show Wd ((UInt32.ofNat (wp l (4*i) j)*256) ||| (((l.drop (4*i)).take 4).getD j 0).toUInt32)=Wd (UInt32.ofNat (wp l (4*i) (j+1))) by rw[hgl,AG (by omega)])))<|hy (fun _=>bZ rfl rfl Tryz.underlying354 bF rfl (by omega))<| ?_
    refine cI (cz 0 rfl rfl rfl bF rfl (by rw[bo];simp only[List.length_append,List.length_cons,List.length_replicate,hwl];omega) ?_)
    refine ai<|al (ρ' :=[(6,_),(23,_),(22,_),(21,_),(20,_),(13,_),(4,_),(10,_),(9,_),(3,_),(2,_),(0,_)]) ⟨rfl,rfl,rfl,rfl,rfl,rfl,rfl,rfl,rfl,rfl,rfl,rfl,trivial⟩<|ak (X' :=[_,_]) (S' :=[_,_]) (fun _ m=>m)<|aT<|ag<|aj<|hy (fun _=>aM rfl rfl (bD (by omega) (by omega)))<|hy (fun _=>aa rfl)<|ai<|al (ρ' :=[(22,_),(6,_),(23,_),(21,_),(20,_),(13,_),(4,_),(10,_),(9,_),(3,_),(2,_),(0,_)]) ⟨rfl,rfl,rfl,rfl,rfl,rfl,rfl,rfl,rfl,rfl,rfl,rfl,trivial⟩<| ?_
    refine ak (fun w m=>m.bO 0 rfl (show _=aI g3 354 (dV (wl l i++UInt32.ofNat (wp l (4*i) (j+1))::List.replicate (63-i) 0))from by rw[Nat.zero_add,vH hwl])) ?_
    refine cM (j+1) ⟨rfl,rfl,rfl,rfl,rfl,rfl,rfl,rfl,rfl,rfl,trivial⟩ [0,0] rfl [0,1] rfl (by omega) (by omega)
   ·obtain rfl:j=4:=by omega
    refine bK<|ao<|ao<|aC<|ag<|bK<|ao<|aC<|ag<|aj<|hy (fun _=>aM rfl rfl (bD (by omega) (by omega)))<|hy (fun _=>aa rfl)<|ai<|al (ρ' :=[(9,_),(23,_),(22,_),(21,_),(20,_),(13,_),(4,_),(10,_),(3,_),(2,_),(0,_)]) ⟨rfl,rfl,rfl,rfl,rfl,rfl,rfl,rfl,rfl,rfl,rfl,trivial⟩<| ?_
    refine ak (fun w m=>m.bO 0 rfl (show _=aI g3 354 (dV (wl l (i+1)++List.replicate (64-(i+1)) 0))from by rw[AY,u9,hws,hr63])) ?_
    refine cM (i+1) ⟨rfl,rfl,rfl,rfl,trivial⟩ [0,0] rfl [1] rfl (by omega) (by omega)
  ·have hws:wl l (i+1)=wl l i++[ml (wl l i) i]:=by rw[wl,if_neg (by omega)]
   refine aD<|ag<|ah<|cN [] [(0,some 0),(1,some 0),(2,some 0),(3,some 0),(4,some 0),(5,some 0),(6,some 0),(7,some 0),(8,some 0),(9,some 0)] (by kernel_rfl) (by kernel_rfl) rfl 99<|an (aa rfl)<|an (ck rfl rfl (bD (by omega) (by omega)))<|an (bZ rfl rfl Tryz.underlying354 bF (show((i-15:Nat):Int)=_ by omega) (by omega))<|b6 (fun m=>aw rfl bM ((m.aY 0 rfl).ay (i-15) _ (mj hwl (by omega))))<|an (aa rfl)<|an (ck rfl rfl (bD (by omega) (by omega)))<|an (bZ rfl rfl Tryz.underlying354 bF (show((i-2:Nat):Int)=_ by omega) (by omega))<|b6 (fun m=>aw rfl bM ((m.aY 0 rfl).ay (i-2) _ (mj hwl (by omega))))<|an (ab rfl)<|an (ab rfl)<|bz<|al (ρ' :=[(8,_),(7,_),(13,_),(4,_),(10,_),(9,_),(3,_),(2,_),(0,_)]) ⟨rfl,rfl,rfl,rfl,rfl,rfl,rfl,rfl,rfl,trivial⟩<|ag<|cN [6,8,20,22,29] [(0,some 4),(1,some 4),(2,some 4),(3,some 4),(4,some 4),(5,some 0),(7,some 1),(10,some 4),(11,some 4),(14,some 4),(15,some 4),(16,some 4),(17,some 4),(19,some 2),(21,some 3),(24,some 4),(25,some 4),(6,none),(8,none),(9,some 4),(12,some 4),(13,some 4),(18,some 4),(20,none),(22,none),(23,some 4),(26,some 4),(27,some 4),(28,some 4),(29,none)] (by kernel_rfl) (by kernel_rfl) rfl 4<|an (aa rfl)<|an (aa rfl)<|an (ck rfl rfl (bD (by omega) (by omega)))<|an (bZ rfl rfl Tryz.underlying354 bF (show((i-16:Nat):Int)=_ by omega) (by omega))<|b6 (fun m=>aw rfl bM ((m.aY 0 rfl).ay (i-16) _ (mj hwl (by omega))))<|an (aa rfl)<|an (aa rfl)<|an (aa rfl)<|an (l5 (k:=3) (b:=8) (by decide) rfl rfl rfl)<|an (aa rfl)<|an (ck rfl rfl (bD (by omega) (by omega)))<|an (bZ rfl rfl Tryz.underlying354 bF (show((i-7:Nat):Int)=_ by omega) (by omega))<|b6 (fun m=>aw rfl bM ((m.aY 0 rfl).ay (i-7) _ (mj hwl (by omega))))<|an (aa rfl)<|an (aa rfl)<|an (aa rfl)<|an (l5 (k:=10) (b:=1024) (by decide) rfl rfl rfl)<| ?_
   refine dT (aq rfl Tryz.call296 (uB (by decide) (by decide) (n:=7)) [] rfl [] rfl ?_)
   rintro _ _ _ ⟨rfl,rfl,rfl⟩
   refine⟨(fun _=>wk [0,0] [0] rfl rfl), ?_⟩
   refine dT (aq rfl Tryz.call296 (uB (by decide) (by decide) (n:=18)) [] rfl [] rfl ?_)
   rintro _ _ _ ⟨rfl,rfl,rfl⟩
   refine⟨(fun _=>wk [0,0] [0] rfl rfl), ?_⟩
   refine an (dW rfl rfl)<|an (dW rfl rfl)<|an (c9 rfl rfl)<|an (c9 rfl rfl)<| ?_
   refine dT (aq rfl Tryz.call296 (uB (by decide) (by decide) (n:=17)) [] rfl [] rfl ?_)
   rintro _ _ _ ⟨rfl,rfl,rfl⟩
   refine⟨(fun _=>wk [0,0] [0] rfl rfl), ?_⟩
   refine dT (aq rfl Tryz.call296 (uB (by decide) (by decide) (n:=19)) [] rfl [] rfl ?_)
   rintro _ _ _ ⟨rfl,rfl,rfl⟩
   refine⟨(fun _=>wk [0,0] [0] rfl rfl), ?_⟩
   refine an (dW rfl rfl)<|an (dW rfl rfl)<|an (yV (c9 rfl rfl) ((rfl:_=Wd (ml (wl l i) i))))<|an (bZ rfl rfl Tryz.underlying354 bF rfl (by omega))<| ?_
   refine j5 (cz 0 rfl rfl rfl bF rfl (by rw[bo];simp only[List.length_append,List.length_replicate,hwl];omega) ⟨(fun h=>absurd h (by decide)), ?_⟩)
   refine bz<|al (ρ' :=[(8,_),(7,_),(13,_),(4,_),(10,_),(9,_),(3,_),(2,_),(0,_)]) ⟨rfl,rfl,rfl,rfl,rfl,rfl,rfl,rfl,rfl,trivial⟩<|ak (X' :=[_,_]) (S' :=[_]) (fun _ m=>m)<|aT<|ag<|aj<|hy (fun _=>aM rfl rfl (bD (by omega) (by omega)))<|hy (fun _=>aa rfl)<|ai<|al (ρ' :=[(9,_),(8,_),(7,_),(13,_),(4,_),(10,_),(3,_),(2,_),(0,_)]) ⟨rfl,rfl,rfl,rfl,rfl,rfl,rfl,rfl,rfl,trivial⟩<| ?_
   refine ak (fun w m=>m.bO 0 rfl (show _=aI g3 354 (dV (wl l (i+1)++List.replicate (64-(i+1)) 0))from by rw[Nat.zero_add,hr64,vH hwl,u9,hws,hr63])) ?_
   refine cM (i+1) ⟨rfl,rfl,rfl,rfl,trivial⟩ [0,0] rfl [0] rfl (by omega) (by omega)
 ·obtain rfl:i=64:=by omega
  refine bB (fun w m=>m.bO 0 rfl (show _=aI g3 354 (dV (wl l 64))from by rw[Nat.sub_self];simp)) ?_
  refine bK<|ao<|ao<|aC<|ag<|ah<|aj<|hy (fun m=>yV (a6 rfl CC u7 (by rw[bo,fh]) ((m.aY 0 rfl).ay)) ((rfl:_=Value.agg (dV (wl l 64)).toArray)))<| ?_
  refine cI (aJ 1 rfl rfl rfl u7 (by rw[bo,fh]) gF rfl ?_)
  refine ai<|al (ρ' :=[(10,_),(9,_),(3,_),(2,_),(0,_)]) ⟨rfl,rfl,rfl,rfl,rfl,trivial⟩<|ak (X' :=[_,_]) (S' :=[_]) (fun _ m=>m)<|ag<|aU<| ?_
  exact fe trivial rfl rfl CC u7 (by rw[bo,fh]) (fun m=>(m.aY 0 rfl).ay) [] rfl [] rfl ⟨rfl,rfl,rfl⟩
theorem sR(v h:List UInt32)(i:Nat):(fA v h i).length=v.length:=by simp[fA]
theorem GI{A:Option Addr}{c:Nat}{l:List UInt8}{h:List UInt32}(hc:64≤c)(hh:h.length=8):cf Tryz.prog 227 [.agg (dV h).toArray,.slice A 64 c] [] [c6 1 A 64 (aQ l),ef] (fun v_ X_ S_=>v_=(.agg (dV (eg h l)).toArray)∧X_=[]∧S_=[]):=by
 refine aP (N:=99) Tryz.func227 rfl rfl (by simp) fun b=> ?_
 refine aZ (fun m=>gz (m.rd 0 rfl)) ?_
 rintro⟨hl_r,hA_r⟩
 refine ah<|aj<| ?_
 refine hx (cy rfl (fun g2=> ?_))
 refine aR (fun w m=>m.bO 0 rfl (show _=aI g2 306 (dV h)from congrArg (aI _ _) (bq _))) ?_
 refine hx (aN wF (fun g4=> ?_))
 refine ai<|ak (X' :=[_,_]) (S' :=[_,_]) (fun _ m=>m)<|ag<|ah<|aj<|hy (fun _=>aa rfl)<| ?_
 refine hx (aq rfl Tryz.call268 (Et (by omega)) [] rfl [0] rfl ?_)
 rintro _ _ _ ⟨rfl,rfl,rfl⟩
 obtain⟨W,hW⟩:∃W,wl l 64=W:=⟨_,rfl⟩
 have hw64:W.length=64:=by rw[←hW];exact fh l 64
 rw[hW]
 refine hx (aN y1 (fun g5=> ?_))
 refine cI (aJ 0 rfl rfl rfl u7 (by rw[bo,hw64]) gF rfl ?_)
 refine ai<|al (ρ' :=[(5,_),(4,_),(2,_),(0,_),(1,_)]) ⟨rfl,rfl,rfl,rfl,rfl,trivial⟩<|ak (X' :=[_,_,_]) (S' :=[_,_]) (fun _ m=>m)<|ag<|ah<|aj<|hy (fun m=>yV (a6 rfl qI lf (by rw[bo,hh]) ((m.aY 2 rfl).ay)) ((rfl:_=Value.agg (dV h).toArray)))<| ?_
 refine hx (aN wF (fun g6=> ?_))
 refine cI (aJ 0 rfl rfl rfl lf (by rw[bo,hh]) gF rfl ?_)
 refine ai<|al (ρ' :=[(6,_),(5,_),(4,_),(2,_),(0,_),(1,_)]) ⟨rfl,rfl,rfl,rfl,rfl,rfl,trivial⟩<|ak (X' :=[_,_,_,_]) (S' :=[_,_]) (fun _ m=>m)<|ag<|ah<|ah<|aj<|hy (fun _=>aa rfl)<|ai<|ag<|aK<| ?_
 refine dz (fun i=>64-i) (fun i=>[(16,.int .i64 (i:Nat))]) (fun i=>[aI g6 306 (dV (kB W h i))]) (fun i=>[]) (fun i=>i≤64) 0 [(6,_),(5,_),(4,_),(2,_),(0,_),(1,_)] ⟨rfl,rfl,rfl,rfl,rfl,rfl,trivial⟩ [0] rfl [] rfl (Nat.zero_le _) ⟨rfl,trivial⟩ (fun i hI=> ?_)
 have hv:=ki (w:=W) hh i
 have hro:fy.length=64:=rfl
 refine ah<|aj<|hy (fun _=>bw rfl rfl)<|ai<|ag<|ah<| ?_
 refine cD rfl (fun hlt=> ?_) (fun hlt=> ?_)
 ·generalize hvd:kB W h i=v at hv ⊢
  refine aD<|ag<|ah<|aK<|ah<|aj<|hy (fun _=>aa rfl)<|hy (fun _=>ab rfl)<|ai<|al (ρ' :=[(7,_),(17,_),(16,_),(6,_),(5,_),(4,_),(2,_),(0,_),(1,_)]) ⟨rfl,rfl,rfl,rfl,rfl,rfl,rfl,rfl,rfl,trivial⟩<|ag<|ah<|cN [] [(0,some 0),(1,some 0),(2,some 0),(3,some 0),(4,some 0),(5,some 0)] (by kernel_rfl) (by kernel_rfl) rfl 99<|an (bZ rfl rfl Tryz.underlying306 bF (show((4:Nat):Int)=4 from rfl) (by omega))<|b6 (fun m=>aw rfl bM ((m.aY 0 rfl).ay 4 _ (bf (by omega))))<|an (bZ rfl rfl Tryz.underlying306 bF (show((0:Nat):Int)=0 from rfl) (by omega))<|b6 (fun m=>aw rfl bM ((m.aY 0 rfl).ay 0 _ (bf (by omega))))<|an (ab rfl)<|an (ab rfl)<|bz<|al (ρ' :=[(9,_),(8,_),(7,_),(17,_),(16,_),(6,_),(5,_),(4,_),(2,_),(0,_),(1,_)]) ⟨rfl,rfl,rfl,rfl,rfl,rfl,rfl,rfl,rfl,rfl,rfl,trivial⟩<|ag<|ah<|cN [3] [(0,some 1),(1,some 1),(2,some 0),(5,some 1),(6,some 1),(7,some 1),(8,some 1),(9,some 1),(10,some 1),(11,some 1),(12,some 1),(13,some 1),(14,some 1),(16,some 1),(17,some 1),(18,some 1),(20,some 1),(21,some 1),(22,some 1),(3,none),(4,some 1),(15,some 1),(19,some 1),(23,some 1),(24,some 1)] (by kernel_rfl) (by kernel_rfl) rfl 99<|an (bZ rfl rfl Tryz.underlying306 bF (show((7:Nat):Int)=7 from rfl) (by omega))<|b6 (fun m=>aw rfl bM ((m.aY 0 rfl).ay 7 _ (bf (by omega))))<|an (aa rfl)<|an (aa rfl)<|an (bZ rfl rfl Tryz.underlying306 bF (show((5:Nat):Int)=5 from rfl) (by omega))<|b6 (fun m=>aw rfl bM ((m.aY 0 rfl).ay 5 _ (bf (by omega))))<|an (iK rfl rfl)<|an (aa rfl)<|an (CP rfl)<|an (bZ rfl rfl Tryz.underlying306 bF (show((6:Nat):Int)=6 from rfl) (by omega))<|b6 (fun m=>aw rfl bM ((m.aY 0 rfl).ay 6 _ (bf (by omega))))<|an (iK rfl rfl)<|an (dW rfl rfl)<|an (aa rfl)<|an (bZ rfl rfl Tryz.underlying354 bF rfl (by omega))<|b6 (fun m=>aw rfl bM ((show Rd _ 1 _ 64 (dV fy)from m.Gn 1 rfl).cell (j:=i) (bf (by omega))))<|an (aa rfl)<|an (bZ rfl rfl Tryz.underlying354 bF rfl (by omega))<|b6 (fun m=>aw rfl bM ((m.aY 1 rfl).ay i _ (bf (by omega))))<| ?_
  refine dT (aq rfl Tryz.call269 (vv (by decide) (by decide) (by decide) (n1:=6) (n2:=11) (n3:=25)) [] rfl [] rfl ?_)
  rintro _ _ _ ⟨rfl,rfl,rfl⟩
  refine⟨(fun _=>wk [0,0,0,0] [0,1] rfl rfl), ?_⟩
  refine an (c9 rfl rfl)<|an (c9 rfl rfl)<|an (c9 rfl rfl)<| ?_
  generalize hk:fy.getD i 0=k
  refine an (yV (c9 rfl rfl) ((rfl:_=Wd (rt v k (W.getD i 0)))))<|an (ab rfl)<|bz<|al (ρ' :=[(10,_),(9,_),(8,_),(7,_),(17,_),(16,_),(6,_),(5,_),(4,_),(2,_),(0,_),(1,_)]) ⟨rfl,rfl,rfl,rfl,rfl,rfl,rfl,rfl,rfl,rfl,rfl,rfl,trivial⟩<|ak (X' :=[_,_,_,_]) (S' :=[_,_]) (fun _ m=>m)<|ag<|ah<|cN [1] [(0,some 0),(2,some 1),(3,some 1),(4,some 1),(5,some 1),(6,some 1),(7,some 1),(8,some 1),(9,some 1),(10,some 1),(11,some 1),(12,some 1),(13,some 1),(14,some 1),(15,some 1),(16,some 1),(1,none),(17,some 1),(18,some 1)] (by kernel_rfl) (by kernel_rfl) rfl 99<|an (aa rfl)<|an (aa rfl)<|an (bZ rfl rfl Tryz.underlying306 bF (show((1:Nat):Int)=1 from rfl) (by omega))<|b6 (fun m=>aw rfl bM ((m.aY 0 rfl).ay 1 _ (bf (by omega))))<|an (iK rfl rfl)<|an (aa rfl)<|an (bZ rfl rfl Tryz.underlying306 bF (show((2:Nat):Int)=2 from rfl) (by omega))<|b6 (fun m=>aw rfl bM ((m.aY 0 rfl).ay 2 _ (bf (by omega))))<|an (iK rfl rfl)<|an (dW rfl rfl)<|an (bZ rfl rfl Tryz.underlying306 bF (show((1:Nat):Int)=1 from rfl) (by omega))<|b6 (fun m=>aw rfl bM ((m.aY 0 rfl).ay 1 _ (bf (by omega))))<|an (bZ rfl rfl Tryz.underlying306 bF (show((2:Nat):Int)=2 from rfl) (by omega))<|b6 (fun m=>aw rfl bM ((m.aY 0 rfl).ay 2 _ (bf (by omega))))<|an (iK rfl rfl)<|an (dW rfl rfl)<| ?_
  refine dT (aq rfl Tryz.call269 (vv (by decide) (by decide) (by decide) (n1:=2) (n2:=13) (n3:=22)) [] rfl [] rfl ?_)
  rintro _ _ _ ⟨rfl,rfl,rfl⟩
  refine⟨(fun _=>wk [0,0,0,0] [0,1] rfl rfl), ?_⟩
  refine an (yV (c9 rfl rfl) ((rfl:_=Wd (ru v))))<|an (ab rfl)<|bz<|al (ρ' :=[(11,_),(10,_),(9,_),(8,_),(7,_),(17,_),(16,_),(6,_),(5,_),(4,_),(2,_),(0,_),(1,_)]) ⟨rfl,rfl,rfl,rfl,rfl,rfl,rfl,rfl,rfl,rfl,rfl,rfl,rfl,trivial⟩<|ak (X' :=[_,_,_,_]) (S' :=[_,_]) (fun _ m=>m)<|ag<|aj<|hy (fun _=>aa rfl)<|hy (fun _=>aa rfl)<|hy (fun _=>c9 rfl rfl)<|hy (fun _=>bZ rfl rfl Tryz.underlying306 bF (show((0:Nat):Int)=0 from rfl) (by omega))<|hy (fun m=>aw rfl bM ((m.aY 0 rfl).ay 0 _ (bf (by omega))))<|hy (fun _=>bZ rfl rfl Tryz.underlying306 bF (show((1:Nat):Int)=1 from rfl) (by omega))<|hy (fun m=>aw rfl bM ((m.aY 0 rfl).ay 1 _ (bf (by omega))))<|hy (fun _=>bZ rfl rfl Tryz.underlying306 bF (show((2:Nat):Int)=2 from rfl) (by omega))<|hy (fun m=>aw rfl bM ((m.aY 0 rfl).ay 2 _ (bf (by omega))))<|hy (fun _=>bZ rfl rfl Tryz.underlying306 bF (show((3:Nat):Int)=3 from rfl) (by omega))<|hy (fun m=>aw rfl bM ((m.aY 0 rfl).ay 3 _ (bf (by omega))))<|hy (fun _=>aa rfl)<|hy (fun _=>c9 rfl rfl)<|hy (fun _=>bZ rfl rfl Tryz.underlying306 bF (show((4:Nat):Int)=4 from rfl) (by omega))<|hy (fun m=>aw rfl bM ((m.aY 0 rfl).ay 4 _ (bf (by omega))))<|hy (fun _=>bZ rfl rfl Tryz.underlying306 bF (show((5:Nat):Int)=5 from rfl) (by omega))<|hy (fun m=>aw rfl bM ((m.aY 0 rfl).ay 5 _ (bf (by omega))))<|hy (fun _=>bZ rfl rfl Tryz.underlying306 bF (show((6:Nat):Int)=6 from rfl) (by omega))<|hy (fun m=>aw rfl bM ((m.aY 0 rfl).ay 6 _ (bf (by omega))))<|hy (fun _=>yV (tQ (n:=8) wF (by kernel_rfl) rfl (by kernel_rfl) rfl (by kernel_rfl) (by kernel_rfl) (qs (l:=[_,_,_,_,_,_,_,_]))) ((rfl:_=Value.agg (dV (Gt v k (W.getD i 0))).toArray)))<| ?_
  refine cI (aJ 0 rfl rfl rfl lf rfl gF (by rw[bo,hv]) ?_)
  refine ai<|al (ρ' :=[(11,_),(10,_),(9,_),(8,_),(7,_),(17,_),(16,_),(6,_),(5,_),(4,_),(2,_),(0,_),(1,_)]) ⟨rfl,rfl,rfl,rfl,rfl,rfl,rfl,rfl,rfl,rfl,rfl,rfl,rfl,trivial⟩<|ak (X' :=[_,_,_,_]) (S' :=[_,_]) (fun _ m=>m)<|aT<|ag<|aj<|hy (fun _=>aM rfl rfl (bD (by omega) (by omega)))<|hy (fun _=>aa rfl)<|ai<|al (ρ' :=[(16,_),(11,_),(10,_),(9,_),(8,_),(7,_),(17,_),(6,_),(5,_),(4,_),(2,_),(0,_),(1,_)]) ⟨rfl,rfl,rfl,rfl,rfl,rfl,rfl,rfl,rfl,rfl,rfl,rfl,rfl,trivial⟩<| ?_
  refine ak (fun w m=>m.bO 0 rfl (show _=aI g6 306 (dV (kB W h (i+1)))from by rw[←hvd,←hk];rfl)) ?_
  refine cM (i+1) ⟨rfl,rfl,rfl,rfl,rfl,rfl,rfl,trivial⟩ [0,0,0,0] rfl [0,1] rfl (by omega) (by omega)
 ·obtain rfl:i=64:=by omega
  generalize hvv:kB W h 64=v at hv ⊢
  refine bB (fun w m=>m.bO 0 rfl (show _=aI g6 306 (dV (fA v h 0))from by rw[qy])) ?_
  refine bK<|ao<|ao<|aC<|ag<|ah<|ah<|aj<|hy (fun _=>aa rfl)<|ai<|ag<|aK<| ?_
  refine dz (fun j=>8-j) (fun j=>[(86,.int .i64 (j:Nat))]) (fun j=>[aI g6 306 (dV (fA v h j))]) (fun j=>[]) (fun j=>j≤8) 0 [(17,_),(16,_),(6,_),(5,_),(4,_),(2,_),(0,_),(1,_)] ⟨rfl,rfl,rfl,rfl,rfl,rfl,rfl,rfl,trivial⟩ [0] rfl [] rfl (Nat.zero_le _) ⟨rfl,trivial⟩ (fun j hj8=> ?_)
  have hsl:=sR v h j
  refine ah<|aj<|hy (fun _=>bw rfl rfl)<|ai<|ag<|ah<| ?_
  refine cD rfl (fun hj=> ?_) (fun hj=> ?_)
  ·refine aD<|ag<|ah<|aK<|ah<|aj<|hy (fun _=>aa rfl)<|hy (fun _=>ab rfl)<|ai<|al (ρ' :=[(12,_),(87,_),(86,_),(17,_),(16,_),(6,_),(5,_),(4,_),(2,_),(0,_),(1,_)]) ⟨rfl,rfl,rfl,rfl,rfl,rfl,rfl,rfl,rfl,rfl,rfl,trivial⟩<|ag<|cN [8] [(0,some 0),(1,some 0),(2,some 0),(3,some 0),(4,some 0),(5,some 0),(6,some 0),(7,some 0),(8,none)] (by kernel_rfl) (by kernel_rfl) rfl 0<|an (aa rfl)<|an (bZ rfl rfl Tryz.underlying306 bF rfl (by omega))<|b6 (fun m=>aw rfl bM ((m.aY 0 rfl).ay j _ (bf (by omega))))<|an (aa rfl)<|an (bZ rfl rfl Tryz.underlying306 bF rfl (by omega))<|b6 (fun m=>aw rfl bM ((m.aY 3 rfl).ay j _ (bf (by omega))))<|an (yV (c9 rfl rfl) ((rfl:_=Wd (v_ (fA v h j) j+v_ h j))))<|an (bZ rfl rfl Tryz.underlying306 bF rfl (by omega))<| ?_
   refine j5 (cz 0 rfl rfl rfl bF rfl (by rw[bo];omega) ⟨(fun h=>absurd h (by decide)), ?_⟩)
   refine bz<|al (ρ' :=[(12,_),(87,_),(86,_),(17,_),(16,_),(6,_),(5,_),(4,_),(2,_),(0,_),(1,_)]) ⟨rfl,rfl,rfl,rfl,rfl,rfl,rfl,rfl,rfl,rfl,rfl,trivial⟩<|ak (X' :=[_,_,_,_]) (S' :=[_,_]) (fun _ m=>m)<|aT<|ag<|aj<|hy (fun _=>aM rfl rfl (bD (by omega) (by omega)))<|hy (fun _=>aa rfl)<|ai<|al (ρ' :=[(86,_),(12,_),(87,_),(17,_),(16,_),(6,_),(5,_),(4,_),(2,_),(0,_),(1,_)]) ⟨rfl,rfl,rfl,rfl,rfl,rfl,rfl,rfl,rfl,rfl,rfl,trivial⟩<| ?_
   refine ak (fun w m=>m.bO 0 rfl (show _=aI g6 306 (dV (fA v h (j+1)))from by rw[Nat.zero_add,wy,p8 (by omega)])) ?_
   refine cM (j+1) ⟨rfl,rfl,rfl,rfl,rfl,rfl,rfl,rfl,rfl,trivial⟩ [0,0,0,0] rfl [0,1] rfl (by omega) (by omega)
  ·obtain rfl:j=8:=by omega
   have hB:fA v h 8=eg h l:=by rw[eg,hW,hvv]
   rw[hB]
   have hbl:=iC hh l
   refine bK<|ao<|ao<|aC<|ag<|ah<|aj<|hy (fun m=>yV (a6 rfl qI lf (by rw[bo,hbl]) ((m.aY 0 rfl).ay)) ((rfl:_=Value.agg (dV (eg h l)).toArray)))<| ?_
   refine cI (aJ 2 rfl rfl rfl lf (by rw[bo,hbl]) gF rfl ?_)
   refine ai<|al (ρ' :=[(87,_),(86,_),(17,_),(16,_),(6,_),(5,_),(4,_),(2,_),(0,_),(1,_)]) ⟨rfl,rfl,rfl,rfl,rfl,rfl,rfl,rfl,rfl,rfl,trivial⟩<|ak (X' :=[_,_,_,_]) (S' :=[_,_]) (fun _ m=>m)<|ag<|aU<| ?_
   exact fe trivial rfl rfl qI lf (by rw[bo,hbl]) (fun m=>(m.aY 0 rfl).ay) [] rfl [] rfl ⟨rfl,rfl,rfl⟩
end Go.Proofs.YtmibdabdlgmafaaGreatDoor
end
section
set_option maxRecDepth 100000
namespace Go.Proofs.YtmibdabdlgmafaaGreatDoor
open Go.Eng Go.Hx Go.ChangeShapes Go.WideShapes Go.ChangeAt Go.WideMaps Go.WideElems Go.RowKit
theorem DC : Tryz.prog.globalNamed "lighterage/sha.roots" = some 1 := by kernel_rfl
theorem C0:(Tryz.prog.globals[1]?).map (·.type)=some 354:=by kernel_rfl
theorem uJ:(Rows.laid_lighterage_sha_roots:DataW Unit)= .agg (fy.map fun x=>.lit (.int .u32 (x.toNat:Int))):=by kernel_rfl
theorem Ab (os : Os) (args : Array Value) : laidMetH Tryz.prog [("lighterage/sha.roots", Rows.laid_lighterage_sha_roots)] ((World.doorLaid Tryz.prog 400 os).forCall (fun _ _ => 0) ⟨#[], args, []⟩).memory :=
  laidMetH_of_parts3 (fuel:=8) (laidMet_of_run' 8 (by kernel_rfl) (by kernel_rfl)) (by kernel_rfl) (by kernel_rfl)
theorem pR {W : World} (h : laidMetH Tryz.prog [("lighterage/sha.roots", Rows.laid_lighterage_sha_roots)] W) : ef.holds W := by
  rw[MakeChecks.laidMetH_plain _ _ _ (by kernel_rfl)]at h
  obtain⟨ps,⟨g0,t0,cs0,f0,p0,q0,hg0,ht0,hv0,hd0,_,_⟩,_,_⟩:=h
  obtain rfl:=Option.some.inj (DC.symm.trans hg0)
  obtain rfl:=Option.some.inj (C0.symm.trans ht0)
  rw[uJ]at hd0
  obtain⟨xs,m1,rfl,hx1,hlen,hn,hel⟩:=DataW.trod_array Tryz.underlying354 hd0
  have c3:Tryz.prog.cellsOf 166=1:=by kernel_rfl
  simp only[Prod.mk.injEq,DataW.agg.injEq]at hx1
  refine⟨by rw[bo];rfl,fun _=>by simp,fun j u hu=> ?_⟩
  have hj:j<64:=by
    obtain⟨h1,_⟩:=List.getElem?_eq_some_iff.1 hu
    rw[bo]at h1
    exact h1
  have h0:=hel j hj
  have hxj:(xs.map (·.1))[j]? =(fy.map fun x=>DataW.lit (Lit.int .u32 (x.toNat:Int)))[j]? :=by rw[←hx1.1]
  obtain⟨y,hy⟩:∃y,xs[j]? =some y:=⟨_,List.getElem?_eq_getElem (by omega)⟩
  rw[hy]at h0
  obtain⟨n,e1,e2,_⟩:=DataW.trod_int Tryz.underlying166 h0
  rw[List.getElem?_map,hy,List.getElem?_map]at hxj
  rw[dV,List.getElem?_map]at hu
  cases hr:fy[j]? with
  |none=>rw[hr]at hu;cases hu
  |some r=>
    rw[hr]at hu hxj
    rw[e2]at hxj
    have hn2:n=(r.toNat:Int):=by simpa using hxj
    have hu2:u= .int .u32 (r.toNat:Int):=by simpa using hu.symm
    have h5:=World.var?_cell hg0 hv0 j
    rw[c3,Nat.mul_one]at e1
    have h6:cs0[j]? =some (.int .u32 n):=by
      have h7:(List.take 1 (List.drop j cs0.toList))[0]? =some (.int .u32 n):=by rw[e1];rfl
      rw[List.getElem?_take,if_pos (by decide),List.getElem?_drop,Nat.add_zero]at h7
      simpa using h7
    show W.cell? ((Option.getD (some _) d0).add j)=some u
    rw[hu2,←hn2,←h6,←h5]
    have e:(⟨1,0,none⟩:Addr).add j=⟨1,j,none⟩:=by simp[Addr.add];omega
    exact congrArg W.cell? e
end Go.Proofs.YtmibdabdlgmafaaGreatDoor
end
section
namespace Go.Hx
open Go.Eng
abbrev cb:=Lib.compareBytes
theorem pB(a b:UInt8):a<b∨a=b∨b<a:=by
 rcases Nat.lt_trichotomy a.toNat b.toNat with h|h|h
 ·exact .inl h
 ·exact .inr (.inl (UInt8.toNat_inj.1 h))
 ·exact .inr (.inr h)
theorem oa:∀a:List UInt8,cb a a=0
 | []=>rfl
 |x::a=>by simp[cb,Lib.compareBytes,UInt8.lt_irrefl];exact oa a
theorem iz(x y:UInt8)(a b:List UInt8):cb (x::a) (y::b)=if x<y then-1 else if y<x then 1 else cb a b:=rfl
theorem jm{x y:UInt8}(h:x<y):¬y<x:=by
 have:x.toNat<y.toNat:=h
 intro h'
 have:y.toNat<x.toNat:=h'
 omega
theorem fH:∀a b:List UInt8,cb b a=-cb a b
 | [],[]=>rfl
 | [],_::_=>rfl
 |_::_,[]=>rfl
 |x::a,y::b=>by
  rw[iz,iz]
  have ih:=fH a b
  rcases pB x y with h|h|h
  ·rw[if_neg (jm h),if_pos h,if_pos h];rfl
  ·subst h;simp[UInt8.lt_irrefl,ih]
  ·rw[if_pos h,if_neg (jm h),if_pos h]
theorem py:∀a b:List UInt8,cb a b=0→a=b
 | [],[],_=>rfl
 | [],_::_,h=>by simp[cb,Lib.compareBytes]at h
 |_::_,[],h=>by simp[cb,Lib.compareBytes]at h
 |x::a,y::b,h=>by
  rw[iz]at h
  rcases pB x y with h1|h1|h1
  ·rw[if_pos h1]at h;omega
  ·subst h1
   simp only[UInt8.lt_irrefl,if_false]at h
   rw[py a b h]
  ·rw[if_neg (jm h1),if_pos h1]at h;omega
theorem mB:∀a b c:List UInt8,cb a b≤0→cb b c≤0→cb a c≤0
 | [],b,[],_,_=>by simp[cb,Lib.compareBytes]
 | [],b,_::_,_,_=>by simp[cb,Lib.compareBytes]
 |x::a,[],c,h,_=>by simp[cb,Lib.compareBytes]at h
 |x::a,y::b,[],_,h=>by simp[cb,Lib.compareBytes]at h
 |x::a,y::b,z::c,h,h' =>by
  rw[iz]at h h' ⊢
  rcases pB x y with h1|h1|h1
  ·rcases pB y z with h2|h2|h2
   ·have:x<z:=by
     have a1:x.toNat<y.toNat:=h1
     have a2:y.toNat<z.toNat:=h2
     show x.toNat<z.toNat
     omega
    rw[if_pos this];decide
   ·subst h2;rw[if_pos h1];decide
   ·rw[if_neg (jm h2),if_pos h2]at h';omega
  ·subst h1
   simp only[UInt8.lt_irrefl,if_false]at h
   rcases pB x z with h2|h2|h2
   ·rw[if_pos h2];decide
   ·subst h2
    simp only[UInt8.lt_irrefl,if_false]at h' ⊢
    exact mB a b c h h'
   ·rw[if_neg (jm h2),if_pos h2]at h';omega
  ·rw[if_neg (jm h1),if_pos h1]at h;omega
theorem og:∀i j:Nat,i<16→j<16→(jT.getD i 0<jT.getD j 0↔i<j):=by
 have:∀i,i<16→∀j,j<16→(jT.getD i 0<jT.getD j 0↔i<j):=by decide+kernel
 exact fun i j hi hj=>this i hi j hj
theorem v8:∀a b:List UInt8,cb (bW a) (bW b)=cb a b
 | [],[]=>rfl
 | [],y::b=>by simp[bW,o1,cb,Lib.compareBytes]
 |x::a,[]=>by simp[bW,o1,cb,Lib.compareBytes]
 |x::a,y::b=>by
  have e:∀(a:UInt8) (r:List UInt8),bW (a::r)=jT.getD (a.toNat/16) 0::jT.getD (a.toNat % 16) 0::bW r:=by intro a r;simp[bW,o1]
  have hx:=x.toNat_lt
  have hy:=y.toNat_lt
  rw[e,e,iz,iz,iz,v8 a b]
  have l1:=og (x.toNat/16) (y.toNat/16) (by omega) (by omega)
  have l2:=og (y.toNat/16) (x.toNat/16) (by omega) (by omega)
  have l3:=og (x.toNat % 16) (y.toNat % 16) (by omega) (by omega)
  have l4:=og (y.toNat % 16) (x.toNat % 16) (by omega) (by omega)
  have m1:(x<y)↔x.toNat<y.toNat:=Iff.rfl
  have m2:(y<x)↔y.toNat<x.toNat:=Iff.rfl
  simp only[l1,l2,l3,l4,m1,m2]
  split
  ·rw[if_pos (by omega)]
  ·split
   ·rw[if_neg (by omega),if_pos (by omega)]
   ·split
    ·rw[if_pos (by omega)]
    ·split
     ·rw[if_neg (by omega),if_pos (by omega)]
     ·rw[if_neg (by omega),if_neg (by omega)]
theorem p6{P:Program}{w:World}{A:Option Addr}{n c:Nat}{l:List UInt8}(h:Rd w 1 A n (aQ l)):(Extern.Bytes.bytesOf (.slice A n c)).run P w= .ok (strOf l) w:=by
 have hl:l.length=n:=by have:=h.1;rw[az]at this;omega
 cases A with
 |none=>
  have:l=[]:=by
   rcases Nat.eq_zero_or_pos n with h0|h0
   ·exact List.eq_nil_of_length_eq_zero (by omega)
   ·exact absurd rfl (h.2.1 h0)
  subst this
  rfl
 |some a=>
  have hr:=Lib.run_loadBytesX (P:=P) (w:=w) (l.map fun b=>((b.toNat:Nat):Int)) a .empty (fun j x hx=>by
   rw[List.getElem?_map,Option.map_eq_some_iff]at hx
   obtain⟨u,hu,rfl⟩:=hx
   exact h.2.2 j (B8 u) (by simp[aQ,List.getElem?_map,hu]))
  have e:Lib.bytesOf (l.map fun b=>((b.toNat:Nat):Int))=l:=by
   simp only[Lib.bytesOf,List.map_map]
   conv=>rhs;rw[←List.map_id l]
   apply List.map_congr_left
   intro b _
   simp
  rw[e,List.length_map,hl]at hr
  simp only[Extern.Bytes.bytesOf]
  rw[hr]
  simp[strOf]
theorem sj{P:Program}{w:World}{A A' :Option Addr}{n c n' c' :Nat}{l l' :List UInt8}(h:Rd w 1 A n (aQ l))(h' :Rd w 1 A' n' (aQ l')):(Extern.BytealgCompare.compare #[.slice A n c,.slice A' n' c']).run P w= .ok (.int .i64 (cb l l')) w:=by
 change Sem.run P (do pure (goInt (Extern.BytealgCompare.cmp (←Extern.Bytes.bytesOf (.slice A n c)) (←Extern.Bytes.bytesOf (.slice A' n' c'))))) w=_
 simp only[Sem.run_bind,Sem.run_pure,Result.andThen,p6 h,p6 h']
 rw[Lib.cmp_eq]
 rfl
end Go.Hx
end
section
set_option maxRecDepth 20000
namespace Go.Proofs.YtmibdabdlgmafaaGreatDoor
open Go.Eng Go.Hx
theorem G9(A:Option Addr)(n c:Nat)(l:List UInt8)(m:Nat)(w:World)(hr:Rd w 1 A n (aQ l))(hc:n≤c)(hn:n≤140737488351232):
  Calls Tryz.prog 32 #[.slice A n c,.int .i64 (m:Int)] w fun e w' =>∃v,e= .returned v∧Go.Eng.Own w' w.heap.size 5 1 v (min n m) (aQ (l.take m))∧Fr No w w' :=by
 have hl:l.length=n:=by have:=hr.1;rw[az]at this;omega
 have hrd:Rd w 1 A (min n m) (aQ (l.take m)):=by
  have:=hr.take (k:=min n m) (by omega)
  have e:(aQ l).take (min n m*1)=aQ (l.take m):=by
   rw[aQ,aQ,←List.map_take,Nat.mul_one]
   congr 1
   by_cases h:m≤n
   ·congr 1;omega
   ·rw[List.take_of_length_le (by omega),List.take_of_length_le (by omega)]
  rw[e]at this
  exact this
 refine enter (N:=14) Tryz.func32 rfl rfl (by simp) ?_
 refine a8<|bm<|nq (ab rfl)<|bk<|aH<|a8<|bm<|nq (ab rfl)<|bk<|aH<|a8<|bm<|nq (aa rfl)<|nq (aa rfl)<|nq (aa rfl)<|nq (aX rfl Tryz.underlying27)<|nq (aa rfl)<|nq (yI rfl rfl)<|nq (re rfl rfl Tryz.underlying27 dZ (show((min n m:Nat):Int)=_ by omega) ((by omega)))<| ?_
 refine nx (lr rfl rfl Tryz.underlying27 Tryz.underlying27 (by exact .inl rfl) eP rfl (Own.nil w w.heap.size _ 1) (Src.bY hrd) aS (by unfold maxLen;omega) (by omega) (by omega) fun v w1 ho hf hv=> ?_)
 refine nq (ab rfl)<|bk<|bS (ae (t:=4) rfl<|ae (t:=5) rfl<|ae (t:=0) rfl<|ae (t:=1) rfl<|aE)<|aH<|eM<| ?_
 refine gh trivial rfl rfl ⟨v,rfl, ?_,hf.mono (fun _ _ e=>e.elim)⟩
 simpa using ho
def dU(n m:Int):Int:=(if n<0 then-(n+1)else n) % m
theorem qa(n m:Int)(hm:0<m):0≤dU n m∧dU n m<m:=⟨Int.emod_nonneg _ (by omega),Int.emod_lt_of_pos _ hm⟩
theorem zQ(n m:Int)(w:World)(h1:-9223372036854775808≤n)(h2:n≤9223372036854775807)(hm:0<m):
  Calls Tryz.prog 16 #[.int .i64 n,.int .i64 m] w fun e w' =>e= .returned (.int .i64 (dU n m))∧w=w' :=by
 refine enter (N:=13) Tryz.func16 rfl rfl (by simp) ?_
 refine a8<|bm<|nq (ab rfl)<|bk<|aH<|a8<|a8<|bm<|nq (aa rfl)<|nq (bw rfl rfl)<|bk<|bS (ae (t:=6) rfl<|ae (t:=4) rfl<|ae (t:=0) rfl<|ae (t:=1) rfl<|aE)<|aH<| ?_
 refine sd rfl (fun h=> ?_) (fun h=> ?_)
 ·refine bm<|nq (aa rfl)<|nq (aM rfl rfl (bD (by omega) (by omega)))<|nq (vc rfl (bD (by omega) (by omega)))<|nq (ab rfl)<|bk<|bS (ae (t:=0) rfl<|ae (t:=6) rfl<|ae (t:=4) rfl<|ae (t:=1) rfl<|aE)<|aH<|a8<|bm<|nq (aa rfl)<|nq (aa rfl)<|nq (gC rfl rfl (by omega) (by omega))<|nq (ab rfl)<|bk<|bS (ae (t:=4) rfl<|ae (t:=0) rfl<|ae (t:=6) rfl<|ae (t:=1) rfl<|aE)<|aH<|eM<| ?_
  refine gh trivial rfl rfl ⟨?_,rfl⟩
  simp only[dU,if_pos h]
 ·refine fk<|aH<|a8<|bm<|nq (aa rfl)<|nq (aa rfl)<|nq (gC rfl rfl (by omega) (by omega))<|nq (ab rfl)<|bk<|bS (ae (t:=4) rfl<|ae (t:=6) rfl<|ae (t:=0) rfl<|ae (t:=1) rfl<|aE)<|aH<|eM<| ?_
  refine gh trivial rfl rfl ⟨?_,rfl⟩
  simp only[dU,if_neg h]
theorem rV(A:Option Addr)(n c:Nat)(l:List UInt8)(A' :Option Addr)(n' c' :Nat)(l' :List UInt8)(w:World)(h:Rd w 1 A n (aQ l))(h' :Rd w 1 A' n' (aQ l')):
  Calls Tryz.prog 208 #[.slice A n c,.slice A' n' c'] w fun e w' =>e= .returned (.int .i64 (cb l l'))∧w=w' :=by
 refine enter (N:=8) Tryz.func208 rfl rfl (by simp) ?_
 refine a8<|bm<|nq (ab rfl)<|bk<|aH<|a8<|bm<|nq (aa rfl)<|nq (aa rfl)<| ?_
 refine nq (vk rfl Tryz.func256 (by kernel_rfl) (by kernel_rfl) (by kernel_rfl) (show _=some Extern.BytealgCompare.compare by kernel_rfl) (sj h h')) ?_
 refine nq (ab rfl)<|bk<|bS (ae (t:=4) rfl<|ae (t:=0) rfl<|ae (t:=1) rfl<|aE)<|aH<|eM<| ?_
 exact gh trivial rfl rfl ⟨rfl,rfl⟩
theorem Ai:(Value.agg (aQ (List.replicate 32 0)).toArray).cells.toList=aQ (List.replicate 32 0):=rfl
theorem bytes(a:List UInt8)(w:World)(ha:a.length=32):
  Calls Tryz.prog 183 #[.agg (aQ a).toArray] w fun e w' =>∃v,e= .returned v∧Go.Eng.Own w' w.heap.size 5 1 v 32 (aQ a)∧Fr No w w' :=by
 refine enter (N:=16) Tryz.func183 rfl rfl (by simp) ?_
 refine a8<|bm<| ?_
 refine nx (sG rfl fun g1 w1 hg1 hf1 hb1=> ?_)
 rw[bq]at hb1
 refine nq (ab rfl)<|bk<|aH<|a8<|bm<|nq (ab rfl)<|bk<|aH<|a8<|a8<|bm<|nq (ab rfl)<|bk<|aH<|db<| ?_
 refine q6 (fun k _=>32-k) (fun k v=>[(1,.pointer (some ⟨g1,0,none⟩)),(3,v),(4,.int .i64 (k:Nat))]) (fun k v w' =>k≤32∧Go.Eng.Own w' w1.heap.size 5 1 v k (aQ (a.take k))∧Fr No w1 w') 0 (.slice none 0 0) (⟨Nat.zero_le _,Own.nil w1 w1.heap.size _ 1,Fr.refl _ _⟩) (ae (t:=1) rfl<|ae (t:=3) rfl<|ae (t:=4) rfl<|aE) (fun k v w2 ⟨hk,ho,hf⟩=> ?_)
 refine a8<|a8<|bm<|nq (aa rfl)<|nq (bw rfl rfl)<|bk<|bS (ae (t:=6) rfl<|ae (t:=1) rfl<|ae (t:=3) rfl<|ae (t:=4) rfl<|aE)<|aH<| ?_
 refine sd rfl (fun h=> ?_) (fun h=> ?_)
 ·have ga:=bI (l:=a) (i:=k) (by omega)
  refine fk<|aH<|a8<|db<|bm<|nq (aa rfl)<|nq (aa rfl)<|nq (bZ rfl rfl Tryz.underlying53 dZ rfl (by omega))<|nq (aw rfl jt ((hb1.pU hf).ay _ _ ga))<| ?_
  refine nx (ny Tryz.underlying27 eP rfl rfl rfl (by simp[Value.cells,B8]) (by decide) (by decide) fun g w3 hg hf3 hb3=> ?_)
  refine nx (lr rfl rfl Tryz.underlying27 Tryz.underlying27 (by exact .inl rfl) eP rfl (ho.pU hf3) (Src.gv hb3 rfl) (aS (l:=[_])) (by unfold maxLen;omega) (by omega) (hf.dr hf3).size fun v4 w4 ho4 hf4 hv4=> ?_)
  refine nq (ab rfl)<|bk<|bS (ae (t:=3) rfl<|ae (t:=6) rfl<|ae (t:=1) rfl<|ae (t:=4) rfl<|aE)<|fI<|aH<|bm<|nq (aa rfl)<|nq (aM rfl rfl (bD (by omega) (by omega)))<|nq (ab rfl)<|bk<|bS (ae (t:=4) rfl<|ae (t:=3) rfl<|ae (t:=6) rfl<|ae (t:=1) rfl<|aE)<| ?_
  refine oP (k+1) v4 (ae (t:=1) rfl<|ae (t:=3) rfl<|ae (t:=4) rfl<|aE) (⟨by omega,by rw[eI (by omega),bs];exact ho4,(hf.dr hf3).new hf4 (fun i hi=>(ho.from hi).1)⟩) (by omega)
 ·obtain rfl:k=32:=by omega
  refine j9<|b5<|b5<|da<|aH<|a8<|bm<|nq (aa rfl)<|nq (ab rfl)<|bk<|bS (ae (t:=2) rfl<|ae (t:=6) rfl<|ae (t:=1) rfl<|ae (t:=3) rfl<|ae (t:=4) rfl<|aE)<|aH<|eM<| ?_
  rw[List.take_of_length_le (by omega)]at ho
  exact gh trivial rfl rfl ⟨v,rfl,ho.wide hf1.size,hf1.dr hf⟩
end Go.Proofs.YtmibdabdlgmafaaGreatDoor
end
section
set_option maxRecDepth 20000
namespace Go.Proofs.YtmibdabdlgmafaaGreatDoor
open Go.Eng Go.Hx
theorem zV{P:Program}{Q:Exit→Act→World→Prop}{N:Nat}{D:List Deferred}{ρ:Env}{w:World}{x:Operand}{ty t:TypeId}{v:Value}{K:Value→World→Prop}(hx:ev ρ x=some v)(k:∀g w',w.heap.size≤g→Fr No w w' →fb w' g t v.cells.toList→w' =w.alloc (.cells v.cells t)→K (.pointer (some ⟨g,0,none⟩)) w'):XW P Q N D ρ w (.box t x) ty K:=
 cK (w' :=w.alloc (.cells v.cells t)) (fun a _ _ _ _ ha=>by simp[execOp,ha.eval hx,Instr.box,newVar,newRow])
  (k _ _ (Nat.le_refl _) (Fr.alloc w _) (by have:=fb.new w t v.cells.toList;simpa using this) rfl)
theorem zj(a b:List UInt8)(w:World)(ha:a.length=32)(hb:b.length=32):
  Calls Tryz.prog 148 #[.agg (aQ a).toArray,.agg (aQ b).toArray] w fun e w' =>e= .returned (.int .i64 (cb a b))∧∃q os,w' =Go.Sort.grow (w.drewN q) os:=by
 refine enter (N:=8) Tryz.func148 rfl rfl (by simp) ?_
 refine a8<|bm<| ?_
 refine nx (zV rfl fun g1 w1 hg1 hf1 hb1 hw1=> ?_)
 refine nx (zV rfl fun g2 w2 hg2 hf2 hb2 hw2=> ?_)
 rw[bq]at hb1 hb2
 refine nq (ab rfl)<|bk<|aH<|a8<| ?_
 refine AN [(0,false),(1,false),(2,true),(3,false)] (by kernel_rfl) (by kernel_rfl) rfl (fun w' =>Fr No w2 w' ∧∃q,w' =w2.drewN q) (⟨Fr.drew _,1,rfl⟩) (fun w3 hf3 hS3=> ?_)
 refine sq (fun w_ hS_=>sc rfl Tryz.underlying53 dZ)<|sq (fun w_ hS_=>sc rfl Tryz.underlying53 dZ)<| ?_
 refine sx (eN rfl Tryz.call208 (rV _ _ _ a _ _ _ b _ (Rd.gv ((hb1.pU hf2).pU hf3) (by rw[az];omega)) (Rd.gv (hb2.pU hf3) (by rw[az];omega))) ?_)
 rintro e_ w4 ⟨rfl,rfl⟩
 refine⟨_,rfl, ?_⟩
 refine⟨hS3, ?_⟩
 refine sq (fun w_ hS_=>ab rfl)<|send<|bS (ae (t:=4) rfl<|ae (t:=3) rfl<|ae (t:=2) rfl<|ae (t:=0) rfl<|ae (t:=1) rfl<|aE)<|aH<|eM<| ?_
 obtain⟨_,q,rfl⟩:=hS3
 exact gh trivial rfl rfl ⟨rfl,q,_,by rw[hw2,hw1,Go.Sort.alloc_eq_grow,Go.Sort.alloc_eq_grow,Go.Sort.grow_grow];rfl⟩
end Go.Proofs.YtmibdabdlgmafaaGreatDoor
end
section
namespace Go.Proofs
open Go.Shelf
def Tryz.wR:Go.Shelf.Ren:=⟨fun|6=>147|15=>207|14=>206|28=>254|29=>255|20=>246|21=>247|22=>248|23=>249|24=>250|25=>251|26=>252|27=>253|46=>286|47=>287|48=>288|49=>289|50=>290|57=>306|n=>n,fun|22=>33|24=>53|25=>228|3=>3|39=>263|0=>0|53=>166|55=>310|4=>4|46=>339|45=>338|50=>343|5=>5|9=>9|66=>376|70=>380|76=>391|77=>324|n=>n,fun|n=>n⟩
theorem Tryz.CE:Go.Proofs.SlLaysF0.n6 Tryz.prog Tryz.wR:={
 mixed:=by kernel_rfl
 f6:=⟨Tryz.f147.name,by decide,Tryz.func147.trans (congrArg some (by kernel_rfl))⟩
 f14:=⟨Tryz.f206.name,by decide,Tryz.func206.trans (congrArg some (by kernel_rfl))⟩
 f15:=Tryz.func207.trans (congrArg some (by kernel_rfl))
 f20:=⟨Tryz.f246.name,by decide,Tryz.func246.trans (congrArg some (by kernel_rfl))⟩
 f21:=⟨Tryz.f247.name,by decide,Tryz.func247.trans (congrArg some (by kernel_rfl))⟩
 f22:=⟨Tryz.f248.name,by decide,Tryz.func248.trans (congrArg some (by kernel_rfl))⟩
 f23:=⟨Tryz.f249.name,by decide,Tryz.func249.trans (congrArg some (by kernel_rfl))⟩
 f24:=⟨Tryz.f250.name,by decide,Tryz.func250.trans (congrArg some (by kernel_rfl))⟩
 f25:=⟨Tryz.f251.name,by decide,Tryz.func251.trans (congrArg some (by kernel_rfl))⟩
 f26:=⟨Tryz.f252.name,by decide,Tryz.func252.trans (congrArg some (by kernel_rfl))⟩
 f27:=⟨Tryz.f253.name,by decide,Tryz.func253.trans (congrArg some (by kernel_rfl))⟩
 f28:=Tryz.func254.trans (congrArg some (by kernel_rfl))
 f29:=Tryz.func255.trans (congrArg some (by kernel_rfl))
 f46:=⟨Tryz.f286.name,by decide,Tryz.func286.trans (congrArg some (by kernel_rfl))⟩
 f47:=Tryz.func287.trans (congrArg some (by kernel_rfl))
 f48:=Tryz.func288.trans (congrArg some (by kernel_rfl))
 f49:=⟨Tryz.f289.name,by decide,Tryz.func289.trans (congrArg some (by kernel_rfl))⟩
 f50:=⟨Tryz.f290.name,by decide,Tryz.func290.trans (congrArg some (by kernel_rfl))⟩
 f57:=⟨Tryz.f306.name,by decide,Tryz.func306.trans (congrArg some (by kernel_rfl))⟩
 t0:=Tryz.underlying0
 a0:=Tryz.isAgg0
 z0:=Tryz.sizeOf0
 v0:=Tryz.zeroValue0
 t3:=Tryz.underlying3
 a3:=Tryz.isAgg3
 z3:=Tryz.sizeOf3
 v3:=Tryz.zeroValue3
 t4:=Tryz.underlying4
 a4:=Tryz.isAgg4
 z4:=Tryz.sizeOf4
 v4:=Tryz.zeroValue4
 t5:=Tryz.underlying5
 a5:=Tryz.isAgg5
 z5:=Tryz.sizeOf5
 v5:=Tryz.zeroValue5
 t9:=Tryz.underlying9
 a9:=Tryz.isAgg9
 z9:=Tryz.sizeOf9
 v9:=Tryz.zeroValue9
 t22:=Tryz.underlying33
 a22:=Tryz.isAgg33
 z22:=Tryz.sizeOf33
 v22:=Tryz.zeroValue33
 t25:=Tryz.underlying228
 a25:=Tryz.isAgg228
 z25:=Tryz.sizeOf228
 v25:=Tryz.zeroValue228
 t39:=Tryz.underlying263
 a39:=Tryz.isAgg263
 z39:=Tryz.sizeOf263
 v39:=Tryz.zeroValue263
 t45:=Tryz.underlying338
 a45:=Tryz.isAgg338
 z45:=Tryz.sizeOf338
 v45:=Tryz.zeroValue338
 t46:=Tryz.underlying339
 a46:=Tryz.isAgg339
 z46:=Tryz.sizeOf339
 v46:=Tryz.zeroValue339
 t50:=Tryz.underlying343
 a50:=Tryz.isAgg343
 z50:=Tryz.sizeOf343
 v50:=Tryz.zeroValue343
 t53:=Tryz.underlying166
 a53:=Tryz.isAgg166
 z53:=Tryz.sizeOf166
 v53:=Tryz.zeroValue166
 t55:=Tryz.underlying310
 a55:=Tryz.isAgg310
 z55:=Tryz.sizeOf310
 v55:=Tryz.zeroValue310
 t66:=Tryz.underlying376
 a66:=Tryz.isAgg376
 z66:=Tryz.sizeOf376
 v66:=Tryz.zeroValue376
 t70:=Tryz.underlying380
 a70:=Tryz.isAgg380
 z70:=Tryz.sizeOf380
 v70:=Tryz.zeroValue380
 t76:=Tryz.underlying391
 a76:=Tryz.isAgg391
 z76:=Tryz.sizeOf391
 v76:=Tryz.zeroValue391
 t77:=Tryz.underlying324
 a77:=Tryz.isAgg324
 z77:=Tryz.sizeOf324
 v77:=Tryz.zeroValue324}
end Go.Proofs
end
section
namespace Go.Hx
open Go.Eng
abbrev mN(ds:List (List UInt8)):Prop:=∀d∈ds,d.length=32
def ek:List (List UInt8)→List UInt8→List (List UInt8)
 | [],d=>[d]
 |a::r,d=>if cb a d<0 then a::ek r d else if a=d then a::r else d::a::r
theorem vg:∀(ds:List (List UInt8)) (d:List UInt8) (k:Nat),k≤ds.length→(∀i,i<k→cb (ds.getD i []) d<0)→(k<ds.length→¬cb (ds.getD k []) d<0)→
  ek ds d=if k<ds.length∧ds.getD k []=d then ds else ds.take k++[d]++ds.drop k
 | [],d,k,hk,_,_=>by
  obtain rfl:k=0:=by simpa using hk
  simp[ek]
 |a::r,d,0,_,_,h=>by
  have h0:=h (by simp)
  simp only[List.getD_cons_zero]at h0
  simp only[ek,if_neg h0,List.getD_cons_zero,List.take_zero,List.nil_append,List.drop_zero,List.singleton_append,List.length_cons,Nat.zero_lt_succ,true_and]
 |a::r,d,k+1,hk,h1,h2=>by
  have ha:=h1 0 (by omega)
  simp only[List.getD_cons_zero]at ha
  have ih:=vg r d k (by simpa using hk) (fun i hi=>by have:=h1 (i+1) (by omega);simpa using this) (fun hl=>by have:=h2 (by simpa using hl);simpa using this)
  simp only[ek,if_pos ha,ih,List.getD_cons_succ,List.length_cons,Nat.succ_lt_succ_iff,List.take_succ_cons,List.drop_succ_cons,List.cons_append]
  split <;> rfl
theorem tp(ds:List (List UInt8))(d:List UInt8):ds.length≤(ek ds d).length∧(ek ds d).length≤ds.length+1:=by
 induction ds with
 |nil=>simp[ek]
 |cons a r ih=>
  simp only[ek]
  split
  ·simp only[List.length_cons];omega
  ·split <;> simp
theorem Ak{ds:List (List UInt8)}{d:List UInt8}(h:mN ds)(hd:d.length=32):mN (ek ds d):=by
 induction ds with
 |nil=>intro x hx;simp[ek]at hx;subst hx;exact hd
 |cons a r ih=>
  have ih' :=ih (fun x hx=>h x (List.mem_cons_of_mem _ hx))
  have ha:=h a (List.mem_cons_self ..)
  intro x hx
  simp only[ek]at hx
  split at hx
  ·rcases List.mem_cons.1 hx with rfl|hx
   ·exact ha
   ·exact ih' x hx
  ·split at hx
   ·exact h x hx
   ·rcases List.mem_cons.1 hx with rfl|hx
    ·exact hd
    ·exact h x hx
end Go.Hx
end
section
namespace Go.Hx
open Go.Eng
def dm(l:List (List UInt8)):Prop:=l.Pairwise fun a b=>cb a b<0
theorem yg{a b:List UInt8}(h:cb a b<0):¬cb b a<0:=by have:=fH a b;omega
theorem ky{a b c:List UInt8}(h:cb a b<0)(k:cb b c<0):cb a c<0:=by
 have h1:=mB a b c (by omega) (by omega)
 refine Decidable.byContradiction fun hn=> ?_
 have h0:cb a c=0:=by omega
 have:=py a c h0
 subst this
 have:=fH a b
 omega
theorem s5{a b c:List UInt8}(h:cb a b<0)(k:cb b c≤0):cb a c<0:=by
 by_cases h0:cb b c=0
 ·have:=py b c h0
  subst this
  exact h
 ·exact ky h (by omega)
theorem dm.ext:∀{l m:List (List UInt8)},dm l→dm m→(∀x,x∈l↔x∈m)→l=m
 | [],[],_,_,_=>rfl
 | [],y::m,_,_,h=>absurd ((h y).2 (List.mem_cons_self ..)) (List.not_mem_nil)
 |x::l,[],_,_,h=>absurd ((h x).1 (List.mem_cons_self ..)) (List.not_mem_nil)
 |x::l,y::m,hl,hm,h=>by
  have hl' :=List.pairwise_cons.1 hl
  have hm' :=List.pairwise_cons.1 hm
  have e:x=y:=by
   rcases List.mem_cons.1 ((h x).1 (List.mem_cons_self ..))with e|e
   ·exact e
   ·rcases List.mem_cons.1 ((h y).2 (List.mem_cons_self ..))with e' |e'
    ·exact e'.symm
    ·exact absurd (hl'.1 y e') (yg (hm'.1 x e))
  subst e
  rw[dm.ext hl'.2 hm'.2 (fun z=> ?_)]
  have ne:∀{n:List (List UInt8)},(∀a' ∈n,cb x a' <0)→z∈n→z≠x:=fun hn hz e=>by
   subst e
   have:=hn z hz
   rw[oa]at this
   omega
  constructor
  ·intro hz
   exact(List.mem_cons.1 ((h z).1 (List.mem_cons_of_mem _ hz))).resolve_left (ne hl'.1 hz)
  ·intro hz
   exact(List.mem_cons.1 ((h z).2 (List.mem_cons_of_mem _ hz))).resolve_left (ne hm'.1 hz)
theorem jz:∀(l:List (List UInt8)) (d x:List UInt8),x∈ek l d↔x=d∨x∈l
 | [],d,x=>by simp[ek]
 |a::r,d,x=>by
  unfold ek
  split
  ·rw[List.mem_cons,jz r d x,List.mem_cons]
   constructor
   ·rintro(h|h|h)
    ·exact .inr (.inl h)
    ·exact .inl h
    ·exact .inr (.inr h)
   ·rintro(h|h|h)
    ·exact .inr (.inl h)
    ·exact .inl h
    ·exact .inr (.inr h)
  ·split
   ·next h=>subst h;simp
   ·simp
theorem kf:∀(l:List (List UInt8)) (d:List UInt8),dm l→dm (ek l d)
 | [],d,_=>by simp[ek,dm]
 |a::r,d,h=>by
  have h' :=List.pairwise_cons.1 h
  unfold ek
  split
  ·next hc=>
   refine List.pairwise_cons.2 ⟨fun y hy=> ?_,kf r d h'.2⟩
   rcases(jz r d y).1 hy with rfl|hy
   ·exact hc
   ·exact h'.1 y hy
  ·next hc=>
   split
   ·exact h
   ·next hne=>
    have hd:cb d a<0:=by
     have h1:=fH a d
     have h2:cb a d≠0:=fun e=>hne (py a d e)
     omega
    refine List.pairwise_cons.2 ⟨fun y hy=> ?_,h⟩
    rcases List.mem_cons.1 hy with rfl|hy
    ·exact hd
    ·exact ky hd (h'.1 y hy)
theorem iq:∀(l acc:List (List UInt8)),dm acc→dm (l.foldl ek acc)∧∀x,x∈l.foldl ek acc↔x∈acc∨x∈l
 | [],acc,h=>⟨h,fun x=>by simp⟩
 |d::r,acc,h=>by
  obtain⟨h1,h2⟩:=iq r (ek acc d) (kf acc d h)
  refine⟨h1,fun x=> ?_⟩
  rw[List.foldl_cons,h2,jz,List.mem_cons]
  constructor
  ·rintro((h|h)|h)
   ·exact .inr (.inl h)
   ·exact .inl h
   ·exact .inr (.inr h)
  ·rintro(h|h|h)
   ·exact .inl (.inr h)
   ·exact .inl (.inl h)
   ·exact .inr h
def yt(l:List (List UInt8)):Prop:=l.Pairwise fun a b=>cb a b≤0
def Fl(a b:List UInt8):Bool:= !(decide (cb b a<0))
def jK(l:List (List UInt8)):List (List UInt8):=l.mergeSort Fl
theorem nI(l:List (List UInt8)):yt (jK l):=by
 have:=List.pairwise_mergeSort (le:=Fl) (fun a b c hab hbc=>by
  simp only[Fl,Bool.not_eq_true',decide_eq_false_iff_not]at*
  have h1:=fH a b
  have h2:=fH b c
  have h3:=fH a c
  have h4:=mB a b c (by omega) (by omega)
  omega) (fun a b=>by
  simp only[Fl,Bool.or_eq_true,Bool.not_eq_true',decide_eq_false_iff_not]
  have h1:=fH a b
  omega) l
 exact this.imp fun{a b} h=>by
  simp only[Fl,Bool.not_eq_true',decide_eq_false_iff_not]at h
  have h1:=fH a b
  omega
theorem jj(l:List (List UInt8)):(jK l).Perm l:=List.mergeSort_perm _ _
theorem te(l:List (List UInt8)):(jK l).length=l.length:=List.length_mergeSort ..
def ln:List (List UInt8)→List (List UInt8)
 | []=>[]
 | [a]=>[a]
 |a::b::r=>if a=b then ln (b::r)else a::ln (b::r)
theorem ra:∀(l:List (List UInt8)) (x:List UInt8),x∈ln l↔x∈l
 | [],x=>Iff.rfl
 | [a],x=>Iff.rfl
 |a::b::r,x=>by
  unfold ln
  have ih:=ra (b::r) x
  split
  ·next h=>subst h;rw[ih];simp
  ·rw[List.mem_cons,ih,←List.mem_cons]
theorem pG:∀(l:List (List UInt8)),yt l→dm (ln l)
 | [],_=>List.Pairwise.nil
 | [a],_=>by simp[ln,dm]
 |a::b::r,h=>by
  have h' :=List.pairwise_cons.1 h
  have ih:=pG (b::r) h'.2
  unfold ln
  split
  ·exact ih
  ·next hne=>
   refine List.pairwise_cons.2 ⟨fun y hy=> ?_,ih⟩
   have hab:cb a b<0:=by
    have h1:=h'.1 b (List.mem_cons_self ..)
    have h2:cb a b≠0:=fun e=>hne (py a b e)
    omega
   rcases List.mem_cons.1 ((ra (b::r) y).1 hy)with rfl|hy
   ·exact hab
   ·exact s5 hab ((List.pairwise_cons.1 h'.2).1 y hy)
theorem tr(l:List (List UInt8)):ln (jK l)=l.foldl ek []:=by
 obtain⟨h1,h2⟩:=iq l [] List.Pairwise.nil
 refine dm.ext (pG _ (nI l)) h1 (fun x=> ?_)
 rw[ra,h2,(jj l).mem_iff]
 simp
theorem tH{l:List (List UInt8)}(h:l.Nodup):dm (jK l):=by
 have h1:=nI l
 have h2:(jK l).Nodup:=(jj l).nodup_iff.2 h
 refine(h1.and h2).imp fun{a b} hab=> ?_
 have:cb a b≠0:=fun e=>hab.2 (py a b e)
 omega
end Go.Hx
end
section
namespace Go.Eng
open Go.RowKit
abbrev FF(v:Value):List PanicEntry:=[{v,recovered:=false}]
def RE(b:cw)(R Rp:Value→List bg→List bg→Prop):Ending→World→Prop:=fun e w' =>
 (∃v X' S',e= .returned v∧R v X' S' ∧Mem b X' S' w')∨(∃v X' S',e= .panicked (FF v)∧Rp v X' S' ∧Mem b X' S' w')
def DQ(P:Program)(f:Nat)(args:List Value)(X0 S0:List bg)(R Rp:Value→List bg→List bg→Prop):Prop:=
 ∀w,Mem ⟨w,dp X0,dp S0⟩ X0 S0 w→Calls P f args.toArray w (RE ⟨w,dp X0,dp S0⟩ R Rp)
section
variable{P:Program}{Q:Exit→Act→World→Prop}{N:Nat}{D:List Deferred}{ρ:Env}{b:cw}{X X' X0 Xr S S' S0:List bg}{ty:TypeId}{x:Operand}{K:Value→List bg→List bg→Prop}
theorem BW{w:World}{K:Value→World→Prop}{f:Nat}{l:List Operand}{vs:List Value}{tys:Array TypeId}{R:Ending→World→Prop}(hv:nZ ρ l=some vs)(hf:∀args w,(callFunc f args).run P w= .ok (.enter f args) w)
  (hc:Calls P f vs.toArray w R) (hR:∀e w',R e w' →(∃v,e= .returned v∧K v w')∨∃c,e= .panicked c∧WQ Q N D (.panic c) ρ w'):XW P Q N D ρ w (.call ⟨.value (.func f),l.toArray,tys⟩) ty K:=by
 intro a dst pos af g ha
 unfold Oper.wp
 have:(execOp a.eval ⟨dst,.call ⟨.value (.func f),l.toArray,tys⟩,ty,pos,af,g⟩).run P w= .ok (.enter f vs.toArray) w:=by
  simp[execOp,resolve,Deferred.ofValue,Act.eval,invoke,ha.jc hv,hf]
 rw[this]
 refine Calls.mono hc ?_
 intro e w' he
 rcases hR e w' he with⟨v,rfl,hk⟩|⟨c,rfl,hk⟩
 ·exact⟨v,rfl,hk⟩
 ·exact hk a ha
theorem fX{f:Nat}{l:List Operand}{vs:List Value}{tys:Array TypeId}{R Rp:Value→List bg→List bg→Prop}(hv:nZ ρ l=some vs)(hf:∀args w,(callFunc f args).run P w= .ok (.enter f args) w)
  (hc:DQ P f vs X0 S0 R Rp) (is:List Nat) (hX:bR is X=some (X0,Xr)) (js:List Nat) (hS:dM js S=some S0)
  (kp:∀v X' S',Rp v X' S' →HQ Q N D (.panic (FF v)) ρ b (X' ++Xr) (S' ++S)) (k:∀v X' S',R v X' S' →K v (X' ++Xr) (S' ++S)):XH P Q N D ρ b X S (.call ⟨.value (.func f),l.toArray,tys⟩) ty K:=fun w m=>by
 have m1:=m.perm (ar _ _ _ _ hX)
 refine BW hv hf (hc w (m1.part (ca _ _ _ hS))) ?_
 rintro e w' (⟨v,X',S',rfl,hR,m'⟩|⟨v,X',S',rfl,hR,m'⟩)
 ·exact .inl ⟨v,rfl,_,_,m1.frame (ca _ _ _ hS) m',k v X' S' hR⟩
 ·exact .inr ⟨_,rfl,kp v X' S' hR w' (m1.frame (ca _ _ _ hS) m')⟩
theorem ec{K:Act→World→Prop}{c:List PanicEntry}(h:HQ Q N D (.panic c) ρ b X S):HQ (Exit.then K Q) N D (.panic c) ρ b X S:=h
end
theorem AF{P:Program}{f:Nat}{fn:Func}{c:Code}{vs:List Value}{R Rp:Value→List bg→List bg→Prop}{N:Nat}{X0 S0:List bg}(hf:P.funcs[f]? =some fn)(hb:fn.body=some c)(hN:fn.ntmps=N)(hl:vs.length≤N)
  (h:∀b,HC P (bodyPost P fn (RE b R Rp)) N [] c (fT vs 0) b X0 S0):DQ P f vs X0 S0 R Rp:=fun w m=>enter hf hb hN hl (h _ w m)
section
variable{P:Program}{fn:Func}{R Rp:Value→List bg→List bg→Prop}{N:Nat}{D:List Deferred}{ρ:Env}{b:cw}{X X' Xz Xr X0 S S' S0:List bg}{e:Exit}{u:FrameMode}
theorem pX{R1 R2:Ending→World→Prop}(h:∀e w,R1 e w→R2 e w):∀e a w,bodyPost P fn R1 e a w→bodyPost P fn R2 e a w
 | .normal,a,w,⟨h1,v,h2,h3⟩=>⟨h1,v,h2,h _ _ h3⟩
 | .ret,a,w,⟨h1,v,h2,h3⟩=>⟨h1,v,h2,h _ _ h3⟩
 | .panic c,a,w,⟨h1,h2⟩=>⟨h1,h _ _ h2⟩
 | .outgrown,a,w,h1=>h _ _ h1
 | .exit _,a,w,h1=>h1.elim
 | .goto _,a,w,h1=>h1.elim
theorem Fv(h:HQ (bodyPost P fn (RB b R)) N D e ρ b X S):HQ (bodyPost P fn (RE b R Rp)) N D e ρ b X S:=fun w m a ha=>
 pX (fun e w h=>by obtain⟨v,X',S',h1,h2,h3⟩:=h;exact .inl ⟨v,X',S',h1,h2,h3⟩) _ _ _ (h w m a ha)
theorem Fh{v:Value}(is:List Nat)(hX:bR is X=some (X',Xz))(js:List Nat)(hS:dM js S=some S')(hR:Rp v X' S'):HQ (bodyPost P fn (RE b R Rp)) N [] (.panic (FF v)) ρ b X S:=fun w m a ha=>
 ⟨ha.df,.inr ⟨v,X',S',rfl,hR,m.out is hX js hS⟩⟩
def Ec(P:Program)(fn:Func)(b:cw)(R:Value→List bg→List bg→Prop)(N:Nat)(D:List Deferred)(ρ:Env)(X S:List bg)(u:FrameMode):Prop:=∀w,Mem b X S w→∀tmps:Array Value,(∀t v,get ρ t=some v→tmps[t]? =some v)→Go.Leaves P fn tmps (RB b R) D u w
theorem vC(he:Leaves e)(h:Ec P fn b R N D ρ X S .returning):HQ (bodyPostD P fn (RB b R)) N D e ρ b X S:=DM he h
theorem iv{c:List PanicEntry}(h:Ec P fn b R N D ρ X S (.panicking c)):HQ (bodyPostD P fn (RB b R)) N D (.panic c) ρ b X S:=fun w m a ha=>by
 have:=h w m a.tmps ha.gt
 show Go.Leaves P fn a.tmps (RB b R) a.defers (.panicking c) w
 rw[ha.df]
 exact this
def B6(P:Program)(f:Nat)(args:List Value)(u:FrameMode)(X0 S0:List bg)(R:FrameMode→List bg→List bg→Prop):Prop:=
 ∀w,Mem ⟨w,dp X0,dp S0⟩ X0 S0 w→CallsD P f args.toArray u w fun e u' w' =>e= .returned (.tuple #[])∧∃X' S',R (settle u') X' S' ∧Mem ⟨w,dp X0,dp S0⟩ X' S' w'
theorem mu{f:Nat}{vs cap:List Value}{Rd:FrameMode→List bg→List bg→Prop}(hu:u≠ .run)(hcall:∀args w,(callFunc f args).run P w= .ok (.enter f args) w)(hc:B6 P f (vs++cap) u X0 S0 Rd)(is:List Nat)(hX:bR is X=some (X0,Xr))(js:List Nat)(hS:dM js S=some S0)
  (k:∀u' X' S',Rd u' X' S' →Ec P fn b R N D ρ (X' ++Xr) (S' ++S) u'):Ec P fn b R N (⟨.fn (.func f) cap.toArray,vs.toArray⟩::D) ρ X S u:=fun w m tmps ht=>by
 have m1:=m.perm (ar _ _ _ _ hX)
 refine leaves_cons (f:=f) (args:=(vs++cap).toArray) hu ?_ ?_
 ·simp[invoke,hcall]
 ·refine CallsD.mono (hc w (m1.part (ca _ _ _ hS))) ?_
  rintro e u' w' ⟨rfl,X',S',hR,m'⟩
  exact k _ _ _ hR w' (m1.frame (ca _ _ _ hS) m') tmps ht
end
section
variable{P:Program}{ops:Array Oper}{fn:Func}{N:Nat}{D:List Deferred}{ρ ρ' :Env}{w:World}{c₀:Frame}{cs:List Frame}{R:Ending→FrameMode→World→Prop}{Q:Exit→Act→List Frame→World→Prop}{op:Op}{ty:TypeId}{pos:String}{af:Array Edge}{d:Nat}{v:Value}{rest:List Nat}{u:FrameMode}
def SL(P:Program)(ops:Array Oper)(Q:Exit→Act→List Frame→World→Prop)(N:Nat)(D:List Deferred)(l:List Nat)(ρ:Env)(cs:List Frame)(w:World):Prop:=∀a,Ag N D ρ a→wpOpsS P ops Q l a cs w
theorem F2{i:Nat}(ho:ops[i]? =some ⟨some d,op,ty,pos,af,none⟩)(h:Yl P N D ρ w op ty v)(k:SL P ops Q N D rest ((d,v)::ρ) cs w)(hd:d<N:=by decide):SL P ops Q N D (i::rest) ρ cs w:=fun a ha=>by
 simp only[wpOpsS,ho]
 rw[if_pos (by simp[Region.wanted]),h a (some d) pos af none ha]
 exact k _ (ha.put hd)
theorem DE{i:Nat}{tys:Array TypeId}{pv:Value}{older:List PanicEntry}(ho:ops[i]? =some ⟨some d,.call ⟨.builtin .recover, #[],tys⟩,ty,pos,af,none⟩)(hu:c₀.mode= .panicking ({v:=pv,recovered:=false}::older))
  (k:SL P ops Q N D rest ((d,pv)::ρ) ({c₀ with mode:=.panicking ({v:=pv,recovered:=true}::older)}::cs) w) (hd:d<N:=by decide):SL P ops Q N D (i::rest) ρ (c₀::cs) w:=fun a ha=>by
 have hr:(execOp a.eval ⟨some d,.call ⟨.builtin .recover, #[],tys⟩,ty,pos,af,none⟩).run P w= .ok .recover w:=by
  simp[execOp,resolve,invoke,builtin]
 have h2:recoverD (c₀::cs)=some (pv,{c₀ with mode:=.panicking ({v:=pv,recovered:=true}::older)}::cs):=by simp[recoverD,hu]
 simp only[wpOpsS,ho]
 rw[if_pos (by simp[Region.wanted]),hr]
 simp only[h2]
 exact k _ (ha.put hd)
theorem Bp{i:Nat}{tys:Array TypeId}(ho:ops[i]? =some ⟨some d,.call ⟨.builtin .recover, #[],tys⟩,ty,pos,af,none⟩)(hu:c₀.mode= .returning)
  (k:SL P ops Q N D rest ((d,.nilIface)::ρ) (c₀::cs) w) (hd:d<N:=by decide):SL P ops Q N D (i::rest) ρ (c₀::cs) w:=fun a ha=>by
 have hr:(execOp a.eval ⟨some d,.call ⟨.builtin .recover, #[],tys⟩,ty,pos,af,none⟩).run P w= .ok .recover w:=by
  simp[execOp,resolve,invoke,builtin]
 have h2:recoverD (c₀::cs)=none:=by simp[recoverD,hu]
 simp only[wpOpsS,ho]
 rw[if_pos (by simp[Region.wanted]),hr]
 simp only[h2]
 exact k _ (ha.put hd)
theorem Du{c:Code}{a:Act}{b:cw}{X S:List bg}{R0:Ending→World→Prop}(m:Mem b X S w)(h:HC P (bodyPost P fn R0) N [] c ρ b X S)(ha:Ag N [] ρ a)(hR:∀e w',R0 e w' →∃v,e= .returned v∧R (.returned v) u w'):c.wpS P (bodyPostS P fn c₀ cs R) a ({c₀ with mode:=u}::cs) w:=by
 refine wpS_of_wp (wp_mono (h w m a ha) ?_)
 intro e a' w' hb
 cases e with
 |normal=>
  obtain⟨h1,v,h2,h3⟩:=hb
  obtain⟨v',hv,h4⟩:=hR _ _ h3
  cases hv
  exact⟨h1,u,rfl,v,h2,h4⟩
 |ret=>
  obtain⟨h1,v,h2,h3⟩:=hb
  obtain⟨v',hv,h4⟩:=hR _ _ h3
  cases hv
  exact⟨h1,u,rfl,v,h2,h4⟩
 |panic c=>
  obtain⟨h1,h2⟩:=hb
  obtain⟨v',hv,h4⟩:=hR _ _ h2
  cases hv
 |outgrown=>
  obtain⟨v',hv,h4⟩:=hR _ _ hb
  cases hv
 |exit id=>exact hb.elim
 |goto l=>exact hb.elim
end
end Go.Eng
end
section
namespace Go.Eng
open Go.RowKit
def qM(ds:List Nat)(a a' :Act):Prop:=a'.defers=a.defers∧a'.tmps.size=a.tmps.size∧∀t:Nat,t∉ds→a'.tmps[t]? =a.tmps[t]?
theorem qM.refl(ds:List Nat)(a:Act):qM ds a a:=⟨rfl,rfl,fun _ _=>rfl⟩
theorem qM.put{ds:List Nat}{a a' :Act}{d:Nat}{v:Value}(hd:d∈ds)(h:qM ds a a'):qM ds (a.put (some d) v) a' :=by
 obtain⟨h1,h2,h3⟩:=h
 refine⟨h1,by rw[h2];simp[Act.put],fun t ht=> ?_⟩
 rw[h3 t ht]
 have hne:d≠t:=fun e=>ht (e▸hd)
 simp only[Act.put]
 rw[Array.getElem?_setIfInBounds_ne hne]
def yB(ds:List Nat)(Q:Exit→Act→World→Prop):Exit→Act→World→Prop
 | .panic c,a,w=>∀a',qM ds a a' →Q (.panic c) a' w
 | .outgrown,_,_=>False
 |e,a,w=>Q e a w
section
variable{P:Program}{ops:Array Oper}{Q:Exit→Act→World→Prop}
theorem ix{T:Nat→World→Prop}{X:List Nat}(hs:Region.noSelect ops=true)(hQ:∀(i:Nat) (o:Oper),ops[i]? =some o→∀c a v w,Q (.panic c) (a.put o.dst v) w→Q (.panic c) a w):∀(L:List (Nat×Option Nat)) (sq:List (Option Nat×Oper)) (l:Array Bool) (a:Act) (w:World) (n k:Nat),
  gY ops L=some sq→en ops X L l=true→L.length≤n→Kept ops l→iB X l=k→T k w→eW P ops Q T k sq a w→A0 P ops Q (fun l w=>T (iB X l) w) n l a w
 | [],sq,l,a,w,n,k,hp,hk,_,_,_,_,h=>by
  simp only[gY,Option.some.injEq]at hp
  subst hp
  have hr:Region.ready .any ops l=[]:=by simpa[en]using hk
  cases n with
  |zero=>exact⟨hr,h⟩
  |succ n=>exact⟨fun _=>h,by rw[hr];simp⟩
 |(i,x)::r,sq,l,a,w,0,k,hp,hk,hf,_,_,_,h=>by simp at hf
 |(i,x)::r,sq,l,a,w,n+1,k,hp,hk,hf,hK,hc,hT,h=>by
  unfold gY at hp
  split at hp
  ·rename_i o l' ho hl'
   cases hp
   have hf' :r.length≤n:=by simp at hf;omega
   cases x with
   |none=>
    simp only[en,Bool.and_eq_true,beq_iff_eq]at hk
    obtain⟨⟨hrd,hct⟩,hk⟩:=hk
    have hmem:i∈Region.ready .any ops l:=by rw[hrd];simp
    have hcs:iB X (l.setIfInBounds i true)=k+1:=by rw[rS (mem_ready.1 hmem).1,hct,hc]
    have hK' :=hK.set hmem
    refine⟨fun h0=>(by rw[h0]at hmem;cases hmem),fun j hj=> ?_⟩
    have hji:j=i:=by rw[hrd]at hj;simpa using hj
    subst hji
    unfold wpOp
    simp only[ho]
    simp only[eW]at h
    split at h
    ·rename_i hw
     rw[if_pos hw]
     refine .inl (Oper.wp_mono ?_ h)
     rintro a' w' ⟨hS',h'⟩
     exact⟨by rw[hcs];exact hS',ix hs hQ r l' _ a' w' n (k+1) hl' hk hf' hK' hcs hS' h'⟩
    ·rename_i hw
     rw[if_neg hw]
     exact⟨by rw[hcs];exact h.1,ix hs hQ r l' _ _ w n (k+1) hl' hk hf' hK' hcs h.1 h.2⟩
   |some m=>
    simp only[en,Bool.and_eq_true,Bool.not_eq_true']at hk
    obtain⟨⟨⟨⟨hfree,hcon⟩,hX⟩,hcap⟩,hk⟩:=hk
    obtain⟨v,hy,h'⟩:=h
    have hmem:i∈Region.ready .any ops l:=by simpa using hcon
    have hcs:iB X (l.setIfInBounds i true)=k:=by rw[mS hX,hc]
    refine nc ho (Region.noSelect_spec hs) (fun c a w=>hQ i o ho c a _ w) (fun l' =>Kept ops l' ∧∀q,l.getD q false=true→l'.getD q false=true) (fun l' j hR hj=>⟨hR.1.set hj,fun q hq=>getD_set_true (hR.2 q hq)⟩)
     (fun l' w' =>by rw[mS hX]) n l a w (Region.free_spec ho hfree) hmem ?_ ⟨hK,fun q hq=>hq⟩ (by rw[hc];exact hT) (ix hs hQ r l' _ _ w n k hl' hk hf' (hK.set hmem) hcs hT h')
    rcases hy with⟨hw,hv⟩|hy
    ·refine .inl ⟨hw,fun w' hw' =>hv w' ?_⟩
     obtain⟨l2,⟨hK2,al⟩,hun,hT2⟩:=hw'
     exact⟨iB X l2,by rw[←hc];exact o3 al,rI hK2 hun hcap,hT2⟩
    ·exact .inr hy
  ·cases hp
theorem pk{T:Nat→World→Prop}{X ds:List Nat}{id:Nat}{a:Act}{w:World}{sq:List (Option Nat×Oper)}(L:List (Nat×Option Nat))(hds:ops.all (fun o=>match o.dst with|some d=>ds.contains d|none=>true)=true)(hm:P.follows .mixedOrders=true)(hs:Region.noSelect ops=true)(hk:en ops X L (Array.replicate ops.size false)=true)(hn:L.length≤ops.size)
  (hp:gY ops L=some sq) (hT:T 0 w.drew) (h:eW P ops (yB ds Q) T 0 sq a w.drew):(Code.region id ops true).wp P Q a w:=by
 refine Code.wp_mono (Q:=yB ds Q) (fun e a w q=>by cases e <;> first|exact q|exact q.elim|exact q a (.refl _ _)) ?_
 refine wp_region_any hm (eG _ _ _ _ (ix (X:=X) hs (fun i o ho c a v w q a' ha' => ?_) L sq _ a _ _ 0 hp hk hn ?_ ?_ hT h))
 ·have hmem:o∈ops:=by
   obtain⟨hi,he⟩:=Array.getElem?_eq_some_iff.1 ho
   exact he▸Array.getElem_mem hi
  have:=Array.all_eq_true_iff_forall_mem.1 hds o hmem
  cases hd:o.dst with
  |none=>rw[hd]at q;exact q a' ha'
  |some d=>
   rw[hd]at this q
   exact q a' (ha'.put (by simpa using this))
 ·intro j hj
  simp[Array.getElem?_replicate]at hj
  split at hj <;> cases hj
 ·unfold iB
  rw[List.countP_eq_zero]
  intro x _
  simp[Array.getElem?_replicate]
  split <;> rfl
end
def BA(ds:List Nat)(ρ:Env):Env:=ρ.filter fun p=> !ds.contains p.1
theorem pE{ds:List Nat}:∀{ρ:Env} {t:Nat} {v:Value},get (BA ds ρ) t=some v→t∉ds∧get ρ t=some v
 | [],t,v,h=>by simp[BA,get]at h
 |(t0,v0)::ρ,t,v,h=>by
  unfold BA at h
  rw[List.filter_cons]at h
  by_cases hc:ds.contains t0=true
  ·rw[if_neg (by simpa using hc)]at h
   obtain⟨h1,h2⟩:=pE (ρ:=ρ) h
   refine⟨h1, ?_⟩
   have hne:t0≠t:=fun e=>h1 (by rw[←e];simpa using hc)
   simp only[get]
   have hbf:Nat.beq t0 t=false:=by
    cases hb:Nat.beq t0 t with
    |true=>exact absurd (Nat.eq_of_beq_eq_true hb) hne
    |false=>rfl
   rw[hbf]
   exact h2
  ·rw[if_pos (by simpa using hc)]at h
   simp only[get]at h ⊢
   cases hb:Nat.beq t0 t with
   |true=>
    rw[hb]at h
    have:t0=t:=Nat.eq_of_beq_eq_true hb
    subst this
    exact⟨by simpa using hc,h⟩
   |false=>
    rw[hb]at h
    exact pE (ρ:=ρ) h
section
variable{P:Program}{ops:Array Oper}{Q:Exit→Act→World→Prop}{N:Nat}{D:List Deferred}{ρ ρ' :Env}{b:cw}{X X' X0 Xr S S' S0 X1 S1:List bg}{k c:Nat}{ds:List Nat}
theorem xR{id:Nat}{l:List (Option Nat×Oper)}(ds:List Nat)(is js:List Nat)(hX:bR is X=some (X1,Xr))(hS:dM js S=some S1)(Xs:List Nat)(L:List (Nat×Option Nat))(hm:P.follows .mixedOrders=true)
  (hk:(Region.noSelect ops && en ops Xs L (Array.replicate ops.size false) && decide (L.length≤ops.size))=true) (hds:ops.all (fun o=>match o.dst with|some d=>ds.contains d|none=>true)=true)
  (hp:gY ops L=some l) (c:Nat) (h:HT P ops (yB ds Q) (TT b X1 S1 c) N D 0 l ρ b X S):HC P Q N D (.region id ops true) ρ b X S:=fun w m a ha=>by
 simp only[Bool.and_eq_true,decide_eq_true_eq]at hk
 exact pk (X:=Xs) L hds hm hk.1.1 hk.1.2 hk.2 hp (fun _=>(wk is js hX hS).mem (m.lift (Fr.drew w))) (h _ (m.lift (Fr.drew w)) a ha)
theorem yv{T:Nat→World→Prop}(h:HQ Q N D .normal ρ b X S):HT P ops (yB ds Q) T N D k [] ρ b X S:=fun w m a ha=>h w m a ha
theorem CH{e:List PanicEntry}(h:HQ Q N D (.panic e) (BA ds ρ) b X S):HQ (yB ds Q) N D (.panic e) ρ b X S:=fun w m a ha a' hag=>by
 obtain⟨h1,h2,h3⟩:=hag
 refine h w m a' ⟨by rw[h2];exact ha.sz,by rw[h1];exact ha.df,fun t v ht=> ?_⟩
 obtain⟨h4,h5⟩:=pE ht
 rw[h3 t h4]
 exact ha.gt t v h5
end
section
variable{P:Program}{ops:Array Oper}{fn:Func}{Q:Exit→Act→List Frame→World→Prop}{N:Nat}{D:List Deferred}{ρ:Env}{b:cw}{X X' S S' :List bg}{cs:List Frame}{c₀:Frame}{rest:List Nat}{op:Op}{ty:TypeId}{pos:String}{af:Array Edge}{d i:Nat}{v:Value}
def tX(P:Program)(ops:Array Oper)(Q:Exit→Act→List Frame→World→Prop)(N:Nat)(D:List Deferred)(l:List Nat)(ρ:Env)(cs:List Frame)(b:cw)(X S:List bg):Prop:=∀w,Mem b X S w→SL P ops Q N D l ρ cs w
theorem nv{o:Oper}{a:Act}{w:World}(ho:ops[i]? =some o)(hw:Region.wanted o (yielded ops a.tmps)=true)(h:o.wp P a w (fun a' w' =>wpOpsS P ops Q rest a' cs w') (fun e a' w' =>Q e a' cs w')):wpOpsS P ops Q (i::rest) a cs w:=by
 simp only[wpOpsS,ho]
 rw[if_pos hw]
 unfold Oper.wp at h
 split
 ·rename_i w' hr
  rw[hr]at h
  exact h.elim
 ·exact h
theorem lg(ho:ops[i]? =some ⟨some d,op,ty,pos,af,none⟩)(h:∀{w},Mem b X S w→Yl P N D ρ w op ty v)(k:tX P ops Q N D rest ((d,v)::ρ) cs b X S)(hd:d<N:=by decide):tX P ops Q N D (i::rest) ρ cs b X S:=fun w m=>F2 ho (h m) (k w m) hd
theorem CK(ho:ops[i]? =some ⟨some d,op,ty,pos,af,none⟩)(h:XH P (fun e a w=>Q e a cs w) N D ρ b X S op ty fun v X' S' =>tX P ops Q N D rest ((d,v)::ρ) cs b X' S')(hd:d<N:=by decide):tX P ops Q N D (i::rest) ρ cs b X S:=fun w m a ha=>by
 refine nv ho (by simp[Region.wanted]) (Oper.wp_mono ?_ (h w m a (some d) pos af none ha))
 rintro a' w' ⟨v,rfl,X',S',m',hk⟩
 exact hk w' m' _ (ha.put hd)
theorem yK(ho:ops[i]? =some ⟨none,op,ty,pos,af,none⟩)(h:XH P (fun e a w=>Q e a cs w) N D ρ b X S op ty fun _ X' S' =>tX P ops Q N D rest ρ cs b X' S'):tX P ops Q N D (i::rest) ρ cs b X S:=fun w m a ha=>by
 refine nv ho (by simp[Region.wanted]) (Oper.wp_mono ?_ (h w m a none pos af none ha))
 rintro a' w' ⟨v,rfl,X',S',m',hk⟩
 exact hk w' m' _ ha
theorem AV{tys:Array TypeId}{pv:Value}{older:List PanicEntry}(ho:ops[i]? =some ⟨some d,.call ⟨.builtin .recover, #[],tys⟩,ty,pos,af,none⟩)(hu:c₀.mode= .panicking ({v:=pv,recovered:=false}::older))
  (k:tX P ops Q N D rest ((d,pv)::ρ) ({c₀ with mode:=.panicking ({v:=pv,recovered:=true}::older)}::cs) b X S) (hd:d<N:=by decide):tX P ops Q N D (i::rest) ρ (c₀::cs) b X S:=fun w m=>DE ho hu (k w m) hd
theorem zR{tys:Array TypeId}(ho:ops[i]? =some ⟨some d,.call ⟨.builtin .recover, #[],tys⟩,ty,pos,af,none⟩)(hu:c₀.mode= .returning)(k:tX P ops Q N D rest ((d,.nilIface)::ρ) ({c₀ with mode:=.returning}::cs) b X S)(hd:d<N:=by decide):tX P ops Q N D (i::rest) ρ (c₀::cs) b X S:=fun w m=>
 Bp ho hu (by have:=k w m;rwa [show({c₀ with mode:=FrameMode.returning}:Frame)=c₀ by cases c₀;simp_all]at this) hd
theorem DT{l:List Nat}(h:∀w,Mem b X S w→Mem b X' S' w)(k:tX P ops Q N D l ρ cs b X' S'):tX P ops Q N D l ρ cs b X S:=fun w m=>k w (h w m)
def GK(b:cw)(R:FrameMode→List bg→List bg→Prop):Ending→FrameMode→World→Prop:=fun e u' w' =>e= .returned (.tuple #[])∧∃X' S',R (settle u') X' S' ∧Mem b X' S' w'
def QD(P:Program)(fn:Func)(c₀:Frame)(cs:List Frame)(b:cw)(R:FrameMode→List bg→List bg→Prop)(c2:Code):Exit→Act→List Frame→World→Prop:=Exit.thenS (fun a cs' w=>c2.wpS P (bodyPostS P fn c₀ cs (GK b R)) a cs' w) (bodyPostS P fn c₀ cs (GK b R))
theorem sF{R:FrameMode→List bg→List bg→Prop}{c2:Code}{u2:FrameMode}(h:HC P (bodyPost P fn (RB b fun v X S=>v= .tuple #[]∧R (settle u2) X S)) N [] c2 ρ b X S):tX P ops (QD P fn c₀ cs b R c2) N [] [] ρ ({c₀ with mode:=u2}::cs) b X S:=fun w m a ha=>by
 refine Du m h ha ?_
 rintro e w' ⟨v,X',S',rfl,⟨rfl,hR⟩,m'⟩
 exact⟨_,rfl,rfl,X',S',hR,m'⟩
end
theorem wB{P:Program}{f:Nat}{fn:Func}{id:Nat}{ops:Array Oper}{c2:Code}{vs:List Value}{u:FrameMode}{N:Nat}{X0 S0:List bg}{R:FrameMode→List bg→List bg→Prop}(hf:P.funcs[f]? =some fn)(hb:fn.body=some (.seq (.region id ops false) c2))(hN:fn.ntmps=N)(hl:vs.length≤N)
  (h:∀(b:cw) (c₀:Frame) (cs:List Frame),c₀.mode=u→tX P ops (QD P fn c₀ cs b R c2) N [] (List.range ops.size) (fT vs 0) (c₀::cs) b X0 S0):B6 P f vs u X0 S0 R:=fun w m=>by
 refine callsD_of_wpS hf hb fun c₀ cs hu=> ?_
 refine wpS_seq (wpS_region ?_)
 refine h _ c₀ cs hu w m _ ⟨?_,rfl,fun t v ht=> ?_⟩
 ·simp[hN];omega
 ·obtain⟨_,h2⟩:=gj vs 0 t v ht
  have hlt:=(List.getElem?_eq_some_iff.1 h2).1
  rw[Array.getElem?_append_left (by simpa using hlt)]
  simpa using h2
section
variable{P:Program}{Q:Exit→Act→World→Prop}{N:Nat}{D:List Deferred}{ρ:Env}{b:cw}{X S:List bg}{ty t:TypeId}{x:Operand}{v:Value}{K:Value→List bg→List bg→Prop}
theorem yC(hx:ev ρ x=some (.iface t v))(h:HQ Q N D (.panic (FF (.iface t v))) ρ b X S):XH P Q N D ρ b X S (.panic x) ty K:=fun w m a dst pos af g ha=>by
 unfold Oper.wp
 have:(execOp a.eval ⟨dst,.panic x,ty,pos,af,g⟩).run P w= .halt (.panic (.iface t v)) w:=by
  simp[execOp,ha.eval hx,Instr.panic,goPanic]
 rw[this]
 exact h w m a ha
theorem yi{fs:Array Field}{xT:TypeId}{w:World}(ht:P.underlying t=some (.struct fs)):(Instr.typeAssert (.iface t v) xT t true).run P w= .ok (.tuple #[v,.bool true]) w:=by
 simp[Instr.typeAssert,run_underlying ht]
theorem yG{fs:Array Field}{xT:TypeId}{w:World}{z:Value}{sz bytes:Nat}(ht:P.underlying t=some (.struct fs))(hT:TI P t z sz bytes):(Instr.typeAssert .nilIface xT t true).run P w= .ok (.tuple #[z,.bool false]) w:=by
 simp[Instr.typeAssert,run_underlying ht,oE hT]
end
section
variable{P:Program}{fn:Func}{R:Value→List bg→List bg→Prop}{N:Nat}{ρ:Env}{b:cw}{X X' Xz S S' :List bg}{w:World}
theorem qK{t:TypeId}{p:Addr}{v:Value}(ha:dj P t=some false)(hc:w.cell? p=some v):(loadVar t p).run P w= .ok v w:=by
 simp[loadVar,iZ ha,hc]
theorem gD{t t' :Nat}{ty ty' :TypeId}{p p' :Addr}{v v' :Value}(hr:fn.results= #[.cell t ty,.cell t' ty'])(hv:get ρ t=some (.pointer (some p)))(hv' :get ρ t' =some (.pointer (some p')))(ha:dj P ty=some false)(ha' :dj P ty' =some false)
  (hc:∀{w},Mem b X S w→w.cell? p=some v) (hc' :∀{w},Mem b X S w→w.cell? p' =some v') (is:List Nat) (hX:bR is X=some (X',Xz)) (js:List Nat) (hS:dM js S=some S') (hR:R (.tuple #[v,v']) X' S'):Ec P fn b R N [] ρ X S .returning:=fun w m tmps h=>
 ⟨.tuple #[v,v'],by have h1:=qX h hv;have h2:=qX h hv';simp at h1 h2;simp[results,hr,h1,h2,asAddr,qK ha (hc m),qK ha' (hc' m)],_,_,_,rfl,hR,m.out is hX js hS⟩
theorem yS{e:Exit}{t1 t2 t3 t4:Nat}{v1 v2 v3 v4:Value}(he:Leaves e)(hr:fn.results= #[.tmp t1,.tmp t2,.tmp t3,.tmp t4])(h1:get ρ t1=some v1)(h2:get ρ t2=some v2)(h3:get ρ t3=some v3)(h4:get ρ t4=some v4)(is:List Nat)(hX:bR is X=some (X',Xz))(js:List Nat)(hS:dM js S=some S')(hR:R (.tuple #[v1,v2,v3,v4]) X' S'):HQ (bodyPost P fn (RB b R)) N [] e ρ b X S:=
 fun w m=>gU he (fun a hA=>by have g1:=hA.getD h1;have g2:=hA.getD h2;have g3:=hA.getD h3;have g4:=hA.getD h4;simp at g1 g2 g3 g4;simp[results,hr,g1,g2,g3,g4]) ⟨_,_,_,rfl,hR,m.out is hX js hS⟩
theorem oZ{u:FrameMode}{D:List Deferred}(h:∀w,Mem b X S w→Mem b X' S' w)(k:Ec P fn b R N D ρ X' S' u):Ec P fn b R N D ρ X S u:=fun w m=>k w (h w m)
end
end Go.Eng
end
section
namespace Go.Eng
open Go.RowKit
section
variable{P:Program}{Q:Exit→Act→World→Prop}{N:Nat}{D:List Deferred}{c:Code}{ρ:Env}{b:cw}{X S:List bg}
theorem rK{α β:Type}(R:α→β→Env)(X1 S1:α→β→List bg)(I:α→β→Prop)(ρk:Env)(hk:e7 ρk ρ)(is:List Nat){Xt Xr:List bg}(hX:bR is X=some (Xt,Xr))
  (h:HC P (xw N D (fun i:α×β=>R i.1 i.2++ρk) fun i w=>Mem b (X1 i.1 i.2++Xr) (S1 i.1 i.2++S) w∧I i.1 i.2) N D c ρ b X S) (k:∀x y,I x y→HQ Q N D .normal (R x y++ρk) b (X1 x y++Xr) (S1 x y++S)):HC P Q N D c ρ b X S:=
 GA (fun i:α×β=>R i.1 i.2++ρk) (fun i=>X1 i.1 i.2++Xr) (fun i=>S1 i.1 i.2++S) (fun i=>I i.1 i.2) h fun i hi=>k (i.1) (i.2) hi
theorem dh{α β:Type}{R:α→β→Env}{X1 S1:α→β→List bg}{I:α→β→Prop}{ρ0:Env}{Xr Sr:List bg}(x:α)(y:β)(hs:e7 (R x y++ρ0) ρ)(is:List Nat){Xz:List bg}(hX:bR is X=some (X1 x y++Xr,Xz))(js:List Nat)(hS:dM js S=some (S1 x y++Sr))(hI:I x y):
  HQ (xw N D (fun i:α×β=>R i.1 i.2++ρ0) fun i w=>Mem b (X1 i.1 i.2++Xr) (S1 i.1 i.2++Sr) w∧I i.1 i.2) N D .normal ρ b X S:=
 E7 (i:=(x,y)) hs is hX js hS hI
end
end Go.Eng
end
section
namespace Go.Eng
open Go.RowKit
open Go.ChangeMaps (setBlock)
section
variable{b:cw}{X S Xp Xq:List bg}{w:World}{r:bg}
theorem Mem.mr(m:Mem b (fm Xp::X) S w)(h:Xp.Perm Xq):Mem b (fm Xq::X) S w:=((m.unpack).perm (h.append_right X)).pack
theorem Mem.sU(m:Mem b (fm Xp::X) S w)(i:Nat)(h:Xp[i]? =some r):Mem b (r::fm (Xp.eraseIdx i)::X) S w:=by
 obtain⟨hlt,rfl⟩:=List.getElem?_eq_some_iff.1 h
 have m1:=(m.mr (fV Xp i hlt).symm).unpack
 rw[List.cons_append]at m1
 have m2:Mem b (Xp.eraseIdx i++(Xp[i]::X)) S w:=m1.perm (List.perm_middle.symm)
 exact(m2.pack).perm (List.Perm.swap ..)
theorem Mem.rn(m:Mem b (r::fm Xp::X) S w):Mem b (fm (r::Xp)::X) S w:=by
 have m1:Mem b (fm Xp::r::X) S w:=m.perm (List.Perm.swap ..)
 have m2:=m1.unpack
 have m3:Mem b ((r::Xp)++X) S w:=m2.perm (List.perm_middle)
 exact m3.pack
theorem Mem.BZ(m:Mem b X S w):Mem b (fm []::X) S w:=Mem.pack (Xp:=[]) m
end
abbrev Bn(n:Nat):={l:List UInt8//l.length=n}
def KN{n:Nat}(d:Bn n):Value:=DV d.1
theorem yM{P:Program}{kt e:TypeId}{n:Nat}(ht:P.underlying kt=some (.array n e))(he:P.underlying e=some (.int .u8))(hs:P.cellsOf kt=n)(hse:P.cellsOf e=1)(hk:P.keyTypeAt 2 kt=true):nU P kt (KN (n:=n))where
 inj a b h:=Subtype.ext (rB h)
 check w em d:=by
  have h1:(KN d).formed P kt=true:=by simp[Value.formed,KN,DV,ht,az,d.2,hs]
  have h2:=eX (P:=P) (D:=0) (l:=d.1) ht he hs hse d.2
  exact run_checkKey_deep em 9998 2 kt hk w 2 (KN d) _ h1 (by simpa[KN,DV,Value.cells]using h2)
 find w k es h:=by
  have hag:dj P kt=some true:=by simp[dj,ht]
  have heq:∀q:Bn n,(Op.equal kt (KN k) (KN q)).run P w= .ok (decide (k=q)) w:=fun q=>by
   have h2:=eX (P:=P) (D:=0) (l:=k.1) ht he hs hse k.2
   have h3:=eX (P:=P) (D:=0) (l:=q.1) ht he hs hse q.2
   exact lX (m:=2) (p:=k=q) (by decide) hk hag (by rw[az,hs];exact k.2) (by rw[az,hs];exact q.2) h2 h3 (by rw[iA];exact⟨fun e=>Subtype.ext e,fun e=>by rw[e]⟩)
  have hnow:∀(es:List MapEntry) (i:Nat),es≠ []→Instr.findNow (.array n e) (KN k) es i=none:=fun es i hne=>by
   cases es with
   |nil=>exact absurd rfl hne
   |cons x r=>rfl
  have hask:∀(es:List MapEntry) (i:Nat),(∀x∈es,∃q:Bn n,x.key=KN q)→(∃j x,es[j]? =some x∧x.key=KN k∧(Instr.findAsking kt (KN k) es i).run P w= .ok (some (i+j,x.val)) w)∨((∀x∈es,x.key≠KN k)∧(Instr.findAsking kt (KN k) es i).run P w= .ok none w):=by
   intro es
   induction es with
   |nil=>intro i _;exact .inr ⟨by simp,rfl⟩
   |cons x r ih=>
    intro i h
    obtain⟨q,hq⟩:=h x (by simp)
    have hx:=heq q
    rw[←hq]at hx
    by_cases hkq:k=q
    ·rw[decide_eq_true hkq]at hx
     exact .inl ⟨0,x,rfl,by rw[hq,hkq],by simp[Instr.findAsking,hx]⟩
    ·rw[decide_eq_false hkq]at hx
     rcases ih (i+1) (fun y hy=>h y (by simp[hy]))with⟨j,y,hj,hy,hf⟩|⟨hall,hf⟩
     ·refine .inl ⟨j+1,y,by simpa using hj,hy, ?_⟩
      simp[Instr.findAsking,hx,hf]
      omega
     ·refine .inr ⟨fun y hy=> ?_,by simp[Instr.findAsking,hx,hf]⟩
      rcases List.mem_cons.1 hy with rfl|hy
      ·rw[hq];exact fun e=>hkq (Subtype.ext (rB e)).symm
      ·exact hall y hy
  cases es with
  |nil=>exact .inr ⟨by simp,by simp[Instr.findKey,run_underlying ht,Instr.findNow]⟩
  |cons x r=>
   have h0:=hnow (x::r) 0 (by simp)
   rcases hask (x::r) 0 h with⟨j,y,hj,hy,hf⟩|⟨hall,hf⟩
   ·refine .inl ⟨j,y,hj,hy, ?_⟩
    simp[Instr.findKey,run_underlying ht,h0,hf]
   ·exact .inr ⟨hall,by simp[Instr.findKey,run_underlying ht,h0,hf]⟩
 stays w k:=by
  have:Instr.sameBits 10000 (KN k) (KN k)=true:=by
   show((aQ k.1).toArray.size == (aQ k.1).toArray.size && ((aQ k.1).toArray.toList.zip (aQ k.1).toArray.toList).all fun(x,y)=>Instr.sameBits 9999 x y)=true
   simp only[beq_self_eq_true,Bool.true_and]
   exact pd 9999 k.1
  simp[Instr.keyThatStays,this]
section
variable{κ:Type}[DecidableEq κ]{enc:κ→Value}
def vG(enc:κ→Value)(w:World)(b:Nat)(l:List (κ×Value))(k:κ)(st:Nat):Prop:=
 ∃es clock,w.heap[b]? =some (.map es clock)∧es.toList.map (fun e=>(e.key,e.val))=l.map (fun p=>(enc p.1,p.2))∧(b7 l).Nodup∧(∀e∈es.toList,e.born<clock)∧(es.toList.map (·.born)).Nodup∧∃(i:Nat) (x:MapEntry) (u:Value),es.toList[i]? =some x∧x.born=st∧l[i]? =some (k,u)
def Bf(enc:κ→Value)(b:Nat)(l:List (κ×Value))(k:κ)(st:Nat):bg where
 cZ i:=i=b
 holds w:=vG enc w b l k st
 hO f h m:=by
  obtain⟨es,clock,hb,rest⟩:=m
  exact⟨es,clock,(f.block b (cP hb) (h b rfl)).trans hb,rest⟩
 low m hk:=by
  obtain⟨es,clock,hb,rest⟩:=m
  exact hk▸cP hb
theorem qA{l:List (κ×Value)}{k:κ}{u v:Value}:cL (cL l k u) k v=cL l k v:=by
 induction l with
 |nil=>simp[cL]
 |cons p r ih=>
  obtain⟨q,x⟩:=p
  by_cases h:q=k
  ·simp[cL,h]
  ·simp[cL,h,ih]
theorem u6{P:Program}{w:World}{t kt et:TypeId}{b:Nat}{l:List (κ×Value)}{z:Value}{sz bytes:Nat}(ht:P.underlying t=some (.map kt et))(hT:TI P et z sz bytes)(K:nU P kt enc)(h:fY enc w b l)(k:κ):
  ∃(st:Nat) (w' :World),(Instr.mapEntry t (.map (some b)) (enc k)).run P w= .ok (.tuple #[(b4 l k).getD z,.int .i64 (st:Nat)]) w' ∧vG enc w' b (cL l k ((b4 l k).getD z)) k st∧Fr (fun i=>i=b) w w' :=by
 have hn:=h.keys
 obtain⟨es,clock,hb,hl,hborn,hnb,hf⟩:=h.found K k
 have hg:(getObj b).run P w= .ok (.map es clock) w:=by simp[getObj,Sem.run,hb]
 have hc:=K.check w false k
 rcases hf with⟨i,x,hi,hp,ha,hx,hf⟩|⟨ha,hf⟩
 ·have hst:=K.stays w k
  have hxi:es[i]? =some x:=by simpa using hi
  have hsame:es.modify i (fun e=>{e with key:=enc k})=es:=by
   apply Array.ext'
   apply List.ext_getElem?
   intro j
   rw[Array.toList_modify,List.getElem?_modify]
   by_cases hij:i=j
   ·subst hij
    rw[hi]
    show some (if i=i then({x with key:=enc k}:MapEntry)else x)=some x
    rw[if_pos rfl,←hx]
   ·simp[hij]
  refine⟨x.born,setBlock w b (.map es clock), ?_,⟨es,clock,ee hb, ?_,fR hn,hborn,hnb,i,x,x.val,hi,rfl, ?_⟩,dO⟩
  ·rw[ha]
   simp[Instr.mapEntry,run_underlying ht,hg,hc,hf,hxi,hx,hst,hsame,eD hb,goInt]
  ·rw[ha,od hn hp,hl]
   congr 1
   apply List.ext_getElem?
   intro j
   rw[List.getElem?_set]
   by_cases hij:i=j
   ·subst hij
    rw[if_pos rfl,if_pos (List.getElem?_eq_some_iff.1 hp).1,hp]
    rfl
   ·rw[if_neg hij]
  ·rw[ha,od hn hp,List.getElem?_set,if_pos rfl,if_pos (List.getElem?_eq_some_iff.1 hp).1]
   rfl
 ·have hlen:es.toList.length=l.length:=by have:=congrArg List.length hl;simpa using this
  refine⟨clock,setBlock w b (.map (es.push {key:=enc k,val:=z,born:=clock}) (clock+1)), ?_,⟨_,_,ee hb, ?_,fR hn, ?_, ?_,es.toList.length,{key:=enc k,val:=z,born:=clock},z,by simp,rfl, ?_⟩,dO⟩
  ·rw[ha]
   simp[Instr.mapEntry,run_underlying ht,hg,hc,hf,oE hT,eD hb,goInt]
  ·rw[ha,l0 ha,Array.toList_push,List.map_append,hl]
   simp
  ·intro e he
   rw[Array.toList_push]at he
   rcases List.mem_append.1 he with he|he
   ·have:=hborn e he;omega
   ·rcases List.mem_singleton.1 he with rfl
    exact Nat.lt_succ_self _
  ·rw[Array.toList_push,List.map_append]
   refine lI hnb (fun hm=> ?_)
   obtain⟨e,he,hk⟩:=List.mem_map.1 hm
   have:=hborn e he
   simp only at hk
   omega
  ·rw[ha,l0 ha,hlen]
   simp
theorem tI{P:Program}{w:World}{t:TypeId}{b:Nat}{l:List (κ×Value)}{k:κ}{st:Nat}(h:vG enc w b l k st)(v:Value):
  ∃w',(Instr.entryStore t (.map (some b)) (.int .i64 (st:Nat)) v).run P w= .ok () w' ∧fY enc w' b (cL l k v)∧Fr (fun i=>i=b) w w' :=by
 obtain⟨es,clock,hb,hl,hn,hborn,hnb,i,x,u,hi,rfl,hp⟩:=h
 have hg:(getObj b).run P w= .ok (.map es clock) w:=by simp[getObj,Sem.run,hb]
 have hidx:es.findIdx? (fun e=>((e.born:Nat):Int) == ((x.born:Nat):Int))=some i:=by
  rw[WideElems.findIdx_arr]
  exact WideElems.findIdx_born hnb hi
 refine⟨setBlock w b (.map (es.modify i fun e=>{e with val:=v}) clock), ?_,⟨_,clock,ee hb, ?_,fR hn, ?_, ?_⟩,dO⟩
 ·simp[Instr.entryStore,hg,asInt,asIntOf,hidx,eD hb]
 ·rw[od hn hp,Array.toList_modify]
  apply List.ext_getElem?
  intro j
  have hj:=congrArg (fun q:List (Value×Value)=>q[j]?) hl
  simp only[List.getElem?_map]at hj
  simp only[List.getElem?_map,List.getElem?_modify,List.getElem?_set]
  by_cases hij:i=j
  ·subst hij
   have hlt:=(List.getElem?_eq_some_iff.1 hp).1
   rw[hi,hp]at hj
   simp only[Option.map_some,Option.some.injEq,Prod.mk.injEq]at hj
   simp[hi,hlt,hj.1]
  ·simp only[hij,if_false]
   simpa using hj
 ·intro e he
  rw[Array.toList_modify]at he
  obtain⟨j,hj⟩:=List.mem_iff_getElem?.1 he
  rw[List.getElem?_modify]at hj
  cases hej:es.toList[j]? with
  |none=>rw[hej]at hj;simp at hj
  |some e0=>
   have:=hborn e0 (List.mem_of_getElem? hej)
   rw[hej]at hj
   simp only[Option.map_eq_map,Option.map_some,Option.some.injEq]at hj
   subst hj
   split <;> exact this
 ·have:(es.modify i fun e=>{e with val:=v}).toList.map (·.born)=es.toList.map (·.born):=by
   apply List.ext_getElem?
   intro j
   rw[Array.toList_modify]
   simp only[List.getElem?_map,List.getElem?_modify]
   cases es.toList[j]? with
   |none=>rfl
   |some e0=>simp only[Option.map_eq_map,Option.map_some];split <;> rfl
  rw[this]
  exact hnb
section
variable{P:Program}{Q:Exit→Act→World→Prop}{N:Nat}{D:List Deferred}{ρ:Env}{b:cw}{X S:List bg}{ty t kt et:TypeId}{x y q:Operand}{K:Value→List bg→List bg→Prop}{g:Nat}{l:List (κ×Value)}
theorem zo{k:κ}{z:Value}{sz bytes:Nat}(i:Nat)(hi:X[i]? =some (c5 enc g l))(hx:ev ρ x=some (.map (some g)))(hy:ev ρ y=some (enc k))(ht:P.underlying t=some (.map kt et))(hT:TI P et z sz bytes)(hK:nU P kt enc)
  (kk:∀st:Nat,K (.tuple #[(b4 l k).getD z,.int .i64 (st:Nat)]) (Bf enc g (cL l k ((b4 l k).getD z)) k st::X.eraseIdx i) S):XH P Q N D ρ b X S (.mapEntry t x y) ty K:=fun w m=>by
 obtain⟨st,w',hrun,hE,hf⟩:=u6 ht hT hK (m.pM i hi) k
 refine cK (v' :=.tuple #[(b4 l k).getD z,.int .i64 (st:Nat)]) (w' :=w') (fun a _ _ _ _ ha=>by simp[execOp,ha.eval hx,ha.eval hy,hrun]) ⟨_,_, ?_,kk st⟩
 have m' :=m.perm (ar [i] X [c5 enc g l] (X.eraseIdx i) (by simp[bR,hi]))
 exact m'.change (r' :=Bf enc g (cL l k ((b4 l k).getD z)) k st) hf hE (fun k hk=>.inl hk)
theorem p7{k:κ}{st:Nat}{v:Value}(i:Nat)(hi:X[i]? =some (Bf enc g l k st))(hx:ev ρ x=some (.map (some g)))(hy:ev ρ y=some (.int .i64 (st:Nat)))(hq:ev ρ q=some v)
  (kk:K undef (c5 enc g (cL l k v)::X.eraseIdx i) S):XH P Q N D ρ b X S (.entryStore t x y q) ty K:=fun w m=>by
 have hE:vG enc w g l k st:=m.hx _ (List.mem_of_getElem? hi)
 obtain⟨w',hrun,hM,hf⟩:=tI (P:=P) (t:=t) hE v
 refine jH (w' :=w') (fun a _ _ _ _ ha=>by simp[execOp,ha.eval hx,ha.eval hy,ha.eval hq,hrun]) ⟨_,_, ?_,kk⟩
 have m' :=m.perm (ar [i] X [Bf enc g l k st] (X.eraseIdx i) (by simp[bR,hi]))
 exact m'.change (r' :=c5 enc g (cL l k v)) hf hM (fun k hk=>.inl hk)
end
end
end Go.Eng
end
section
namespace Go.Eng
theorem lj{cur vs:List Value}{o m j:Nat}(hj:j+vs.length≤m)(hm:o+m≤cur.length):((br cur (o+j) vs).drop o).take m=br ((cur.drop o).take m) j vs:=by
 apply List.ext_getElem?
 intro i
 rw[pe (by simp;omega)]
 by_cases hi:i<m
 ·rw[List.getElem?_take_of_lt hi,List.getElem?_drop,pe (by omega)]
  by_cases h1:i<j
  ·rw[if_pos h1,if_pos (by omega),List.getElem?_take_of_lt hi,List.getElem?_drop]
  ·rw[if_neg h1,if_neg (by omega)]
   by_cases h2:i<j+vs.length
   ·rw[if_pos h2,if_pos (by omega)];congr 1;omega
   ·rw[if_neg h2,if_neg (by omega),List.getElem?_take_of_lt hi,List.getElem?_drop]
 ·rw[List.getElem?_take_eq_none (by omega),if_neg (by omega),if_neg (by omega),List.getElem?_take_eq_none (by omega)]
section
variable{P:Program}{Q:Exit→Act→World→Prop}{N:Nat}{D:List Deferred}{ρ:Env}{w:World}{x y:Operand}{ty t e:TypeId}{v:Value}{K:Value→World→Prop}
theorem DU{A:Option Addr}{n c base sz szt j:Nat}{xs vs:List Value}(hx:ev ρ x=some (.pointer (some ((A.getD d0).add j))))(hy:ev ρ y=some (.agg vs.toArray))(hs:fo P t=some szt)(hl:vs.length=szt)(h1:∀u∈vs,u.oneCell' =true)(h:Own w base e sz (.slice A n c) n xs)(hj:j+szt≤n*sz)(hn0:0<n)
  (k:∀w',Fr (iH (.slice A n c)) w w' →Own w' base e sz (.slice A n c) n (br xs j vs)→w'.heap.size=w.heap.size→K undef w'):XW P Q N D ρ w (.store t x y) ty K:=by
 rcases h with⟨hl',⟨h2,rfl⟩|⟨g,o,cap,cur,h2,hb,hg,hn,hm,hc,hxs⟩⟩
 ·omega
 ·injection h2 with h2 h3 h4
  subst h2;subst h4
  have hle:n*sz≤c*sz:=Nat.mul_le_mul_right _ hn
  refine zO (g:=g) (o:=o+j) (by rw[hx,Option.getD_some,eT]) hy hs hl h1 hg (by omega) fun w' hf hb' hsz=>k w' ?_ ⟨?_,.inr ⟨g,o,c,_,rfl,hb,hb',hn,hm,by rw[dD (by omega)];exact hc, ?_⟩⟩ hsz
  ·exact hf.mono fun i _ hi=>hi
  ·rw[dD (by omega)];exact hl'
  ·rw[lj (by omega) (by omega),hxs]
theorem AB{A B:Option Addr}{n c base sz bytes m c' k:Nat}{z:Value}{xs:List Value}(hx:ev ρ x=some (.slice B m c'))(ht:P.underlying t=some (.slice e))(hT:TI P e z sz bytes)(hz:z.cells.size=sz)(h1:∀u∈z.cells.toList,u.oneCell' =true)(h:Own w base e sz (.slice A n c) n xs)(hB:0<m→B=some ((A.getD d0).add (k*sz)))(hk:k+m≤n)
  (kk:∀w' zs,Fr (iH (.slice A n c)) w w' →zs.length=m*sz→Own w' base e sz (.slice A n c) n (br xs (k*sz) zs)→w'.heap.size=w.heap.size→K (.tuple #[]) w'):XW P Q N D ρ w (.call ⟨.builtin .clear, #[x], #[t]⟩) ty K:=by
 obtain⟨i,hi,hzero,_,_⟩:=hT.get
 rcases Nat.eq_zero_or_pos m with rfl|hm
 ·refine cK (v' :=.tuple #[]) (w' :=w) (fun a _ _ _ _ ha=> ?_) (kk w [] (Fr.refl _ _) (by simp) (by rw[lP];exact h) rfl)
  cases B <;> simp[execOp,resolve,invoke,builtin,Builtin.clear_,ha.eval hx,run_underlying ht]
 ·obtain rfl:=hB hm
  rcases h with⟨hl',⟨h2,rfl⟩|⟨g,o,cap,cur,h2,hb,hg,hn,hmx,hc,hxs⟩⟩
  ·omega
  ·injection h2 with h2 h3 h4
   subst h2;subst h4
   have hle:n*sz≤c*sz:=Nat.mul_le_mul_right _ hn
   have hkm:k*sz+m*sz≤n*sz:=by rw[←Nat.add_mul];exact Nat.mul_le_mul_right _ hk
   have hzl:(Builtin.zeroCells z.cells m).toList.length=m*sz:=by simp[Builtin.zeroCells,hz]
   have hz1:∀u∈(Builtin.zeroCells z.cells m).toList,u.oneCell' =true:=by
    intro u hu
    rw[Builtin.zeroCells,Array.toList_map,List.mem_map]at hu
    obtain⟨j,hj,rfl⟩:=hu
    have hj2:j<m*z.cells.size:=by simpa using hj
    have h0:0<z.cells.size:=by
     rcases Nat.eq_zero_or_pos z.cells.size with h|h
     ·rw[h,Nat.mul_zero]at hj2;omega
     ·exact h
    have hlt:j % z.cells.size<z.cells.size:=Nat.mod_lt _ h0
    rw[getElem!_pos z.cells _ hlt]
    exact h1 _ (Array.getElem_mem_toList hlt)
   obtain⟨w',hst,hb',hf,hsz⟩:=jv (P:=P) (Builtin.zeroCells z.cells m).toList (o+k*sz) 0 cur w hg (by omega) hz1
   refine cK (v' :=.tuple #[]) (w' :=w') (fun a _ _ _ _ ha=> ?_) (kk w' _ (hf.mono fun i _ hi=>hi) hzl ⟨by rw[dD (by omega)];exact hl',.inr ⟨g,o,c,_,rfl,hb,(by simpa using hb'),hn,hmx,by rw[dD (by omega)];exact hc,by rw[lj (by omega) (by omega),hxs]⟩⟩ hsz)
   obtain⟨m',rfl⟩:∃m',m=m' +1:=⟨m-1,by omega⟩
   simp[execOp,resolve,invoke,builtin,Builtin.clear_,ha.eval hx,run_underlying ht,zeroValue,typeInfo,hi,hzero,eT,hst]
end
section
variable{P:Program}{Q:Exit→Act→World→Prop}{N:Nat}{D:List Deferred}{ρ:Env}{b:cw}{X S:List bg}{x y:Operand}{ty t t' e:TypeId}{K:Value→List bg→List bg→Prop}
theorem BD{A:Option Addr}{n c sz szt j:Nat}{xs vs:List Value}(i:Nat)(hi:X[i]? =some (aG e sz (.slice A n c) n xs))(hx:ev ρ x=some (.pointer (some ((A.getD d0).add j))))(hy:ev ρ y=some (.agg vs.toArray))(hs:fo P t=some szt)(hl:vs.length=szt)(h1:∀u∈vs,u.oneCell' =true)(hj:j+szt≤n*sz)(hn0:0<n)
  (k:K undef (aG e sz (.slice A n c) n (br xs j vs)::X.eraseIdx i) S):XH P Q N D ρ b X S (.store t x y) ty K:=fun w m=>DU hx hy hs hl h1 (m.own i hi) hj hn0 fun w' hf hb hsz=>⟨_,_,by
  have m' :=m.perm (ar [i] X [aG e sz (.slice A n c) n xs] (X.eraseIdx i) (by simp[bR,hi]))
  exact m'.change (r' :=aG e sz (.slice A n c) n (br xs j vs)) hf hb (fun k hk=>.inl hk),k⟩
theorem zd{A B:Option Addr}{n c sz bytes m c' k:Nat}{z:Value}{xs:List Value}(i:Nat)(hi:X[i]? =some (aG e sz (.slice A n c) n xs))(hx:ev ρ x=some (.slice B m c'))(ht:P.underlying t=some (.slice e))(hT:TI P e z sz bytes)(hz:z.cells.size=sz)(h1:∀u∈z.cells.toList,u.oneCell' =true)(hB:0<m→B=some ((A.getD d0).add (k*sz)))(hk:k+m≤n)
  (kk:∀zs,zs.length=m*sz→K (.tuple #[]) (aG e sz (.slice A n c) n (br xs (k*sz) zs)::X.eraseIdx i) S):XH P Q N D ρ b X S (.call ⟨.builtin .clear, #[x], #[t]⟩) ty K:=fun w mm=>AB hx ht hT hz h1 (mm.own i hi) hB hk fun w' zs hf hzl hb hsz=>⟨_,_,by
  have m' :=mm.perm (ar [i] X [aG e sz (.slice A n c) n xs] (X.eraseIdx i) (by simp[bR,hi]))
  exact m'.change (r' :=aG e sz (.slice A n c) n (br xs (k*sz) zs)) hf hb (fun k hk=>.inl hk),kk zs hzl⟩
end
end Go.Eng
end
section
set_option maxRecDepth 20000
namespace Go.Proofs.YtmibdabdlgmafaaGreatDoor
open Go.Eng Go.Hx
theorem Ed{w:World}{A:Option Addr}{n:Nat}{ds:List (List UInt8)}(h:Rd w 32 A n (dc ds))(hd:mN ds):ds.length=n:=by
 have:=h.1
 rw[fM hd]at this
 omega
end Go.Proofs.YtmibdabdlgmafaaGreatDoor
end
section
set_option maxRecDepth 20000
namespace Go.Proofs.YtmibdabdlgmafaaGreatDoor
open Go.Eng Go.Hx
theorem w6(ds:List (List UInt8))(k:Nat)(h:k<ds.length):(ds.take (k+1)).foldl ek []=ek ((ds.take k).foldl ek []) (ds.getD k []):=by
 rw[List.take_succ_eq_append_getElem h,List.foldl_append,List.getD,List.getElem?_eq_getElem h]
 rfl
theorem sB{ds:List (List UInt8)}(h:mN ds)(k:Nat):mN ((ds.take k).foldl ek [])∧((ds.take k).foldl ek []).length≤k:=by
 induction k with
 |zero=>exact⟨fun d hd=>by simp at hd,by simp⟩
 |succ k ih=>
  by_cases hk:k<ds.length
  ·rw[w6 ds k hk]
   have:=tp ((ds.take k).foldl ek []) (ds.getD k [])
   exact⟨Ak ih.1 (iu h hk),by omega⟩
  ·rw[List.take_of_length_le (by omega)]at ih ⊢
   exact⟨ih.1,by omega⟩
end Go.Proofs.YtmibdabdlgmafaaGreatDoor
end
section
set_option maxRecDepth 20000
namespace Go.Proofs.YtmibdabdlgmafaaGreatDoor
open Go.Eng Go.Hx
end Go.Proofs.YtmibdabdlgmafaaGreatDoor
end
section
set_option maxRecDepth 20000
namespace Go.Proofs.YtmibdabdlgmafaaGreatDoor
open Go.Eng Go.Hx
theorem number(n:Nat)(w:World)(hn:n<4294967296):
  Calls Tryz.prog 160 #[.int .i64 (n:Int)] w fun e w' =>∃v,e= .returned v∧Go.Eng.Own w' w.heap.size 5 1 v 4 (aQ (fZ n))∧Fr No w w' :=by
 refine enter (N:=21) Tryz.func160 rfl rfl (by simp) ?_
 refine a8<|bm<|nq (ab rfl)<|bk<|aH<|a8<|bm<|nq (aa rfl)<|nq (bT rfl Tryz.underlying3 Tryz.underlying166 ((wj (by omega) (by omega))))<|nq (ab rfl)<|bk<|bS (ae (t:=3) rfl<|ae (t:=2) rfl<|ae (t:=0) rfl<|aE)<|aH<|a8<|bm<|nq (aa rfl)<|nq (gC rfl rfl (by omega) (by omega))<|nq (bT rfl Tryz.underlying166 Tryz.underlying5 ((show IntKind.u8.wrap ((n:Int) % 256)=((UInt8.ofNat n).toNat:Int) by simp[IntKind.wrap,IntKind.signed,IntKind.bits])))<|nq (aa rfl)<|nq (j1 rfl rfl (by omega) (by omega) (wj (by omega) (by omega)))<|nq (gC rfl rfl (by omega) (by omega))<|nq (bT rfl Tryz.underlying166 Tryz.underlying5 ((show IntKind.u8.wrap ((n:Int)/256 % 256)=((UInt8.ofNat (n/256)).toNat:Int) by simp[IntKind.wrap,IntKind.signed,IntKind.bits])))<|nq (aa rfl)<|nq (j1 rfl rfl (by omega) (by omega) (wj (by omega) (by omega)))<|nq (gC rfl rfl (by omega) (by omega))<|nq (bT rfl Tryz.underlying166 Tryz.underlying5 ((show IntKind.u8.wrap ((n:Int)/65536 % 256)=((UInt8.ofNat (n/65536)).toNat:Int) by simp[IntKind.wrap,IntKind.signed,IntKind.bits])))<|nq (aa rfl)<|nq (j1 rfl rfl (by omega) (by omega) (wj (by omega) (by omega)))<|nq (bT rfl Tryz.underlying166 Tryz.underlying5 ((show IntKind.u8.wrap ((n:Int)/16777216)=((UInt8.ofNat (n/16777216)).toNat:Int) by simp[IntKind.wrap,IntKind.signed,IntKind.bits])))<| ?_
 refine nx (ny Tryz.underlying27 eP rfl rfl rfl (by simp[Value.cells,B8]) (by decide) (by decide) fun g w1 hg hf1 hb1=> ?_)
 refine nq (ab rfl)<|bk<|bS (ae (t:=2) rfl<|ae (t:=3) rfl<|ae (t:=0) rfl<|aE)<|aH<|eM<| ?_
 exact gh trivial rfl rfl ⟨_,rfl,Own.made hb1 hg (Nat.le_refl _) (by decide) rfl,hf1⟩
end Go.Proofs.YtmibdabdlgmafaaGreatDoor
end
section
set_option maxRecDepth 20000
namespace Go.Proofs.YtmibdabdlgmafaaGreatDoor
open Go.Eng Go.Hx
theorem Eb{A:Option Addr}{n c:Nat}{l:List UInt8}{m:Nat}(hc:n≤c)(hn:n≤140737488351232):cf Tryz.prog 32 [.slice A n c,.int .i64 (m:Int)] [] [c6 1 A n (aQ l)] (fun v_ X_ S_=>∃v,v_=v∧X_=[aG 5 1 v (min n m) (aQ (l.take m))]∧S_=[]):=by
 exact ko fun mm=>Calls.mono (G9 A n c l m _ (mm.rd 0 rfl) hc hn) (fun e w' ⟨v,h,ho,hf⟩=>⟨v,v,_,_,_,_,h,⟨v,rfl,rfl,rfl⟩,ho,hf⟩)
theorem wG{n m:Int}(h1:-9223372036854775808≤n)(h2:n≤9223372036854775807)(hm:0<m):cf Tryz.prog 16 [.int .i64 n,.int .i64 m] [] [] (fun v_ X_ S_=>v_=(.int .i64 (dU n m))∧X_=[]∧S_=[]):=by
 exact gT fun mm=>Calls.mono (zQ n m _ h1 h2 hm) (fun e w' ⟨h,hw⟩=>⟨_,h,⟨rfl,rfl,rfl⟩,hw▸Fr.refl _ _⟩)
theorem zL{A:Option Addr}{n c:Nat}{l:List UInt8}(hn:n≤70368744177664):cf Tryz.prog 189 [.slice A n c] [] [c6 1 A n (aQ l)] (fun v_ X_ S_=>∃v,v_=v∧X_=[aG 5 1 v (n+4) (aQ (yb l))]∧S_=[]):=by
 exact ko fun m=>Calls.mono (Bg A n c l _ (m.rd 0 rfl) hn) (fun e w' ⟨v,h,ho,hf⟩=>⟨v,v,_,_,_,_,h,⟨v,rfl,rfl,rfl⟩,ho,hf⟩)
theorem AZ{n:Nat}(hn:n<4294967296):cf Tryz.prog 160 [.int .i64 (n:Int)] [] [] (fun v_ X_ S_=>∃v,v_=v∧X_=[aG 5 1 v 4 (aQ (fZ n))]∧S_=[]):=by
 exact ko fun m=>Calls.mono (number n _ hn) (fun e w' ⟨v,h,ho,hf⟩=>⟨v,v,_,_,_,_,h,⟨v,rfl,rfl,rfl⟩,ho,hf⟩)
end Go.Proofs.YtmibdabdlgmafaaGreatDoor
end
section
set_option maxRecDepth 20000
namespace Go.Proofs.YtmibdabdlgmafaaGreatDoor
open Go.Eng Go.Hx Go.Sort
structure oo where
 b:List UInt8
 h:b.length=32
theorem oo.ext'{x y:oo}(e:x.b=y.b):x=y:=by
 cases x
 cases y
 cases e
 rfl
instance:Inhabited oo:=⟨⟨List.replicate 32 0,List.length_replicate⟩⟩
def lQ(x:oo):List Value:=aQ x.b
theorem tz(x:oo):(lQ x).length=32:=by rw[lQ,az,x.h]
theorem vn(l:List oo):mN (l.map (·.b)):=fun d hd=>by
 obtain⟨x,_,rfl⟩:=List.mem_map.1 hd
 exact x.h
theorem BP{ds:List (List UInt8)}(h:mN ds):∃l:List oo,l.map (·.b)=ds:=by
 induction ds with
 |nil=>exact⟨[],rfl⟩
 |cons d r ih=>
  obtain⟨l,hl⟩:=ih (fun x hx=>h x (List.mem_cons_of_mem _ hx))
  exact⟨⟨d,h d (List.mem_cons_self ..)⟩::l,by rw[List.map_cons,hl]⟩
theorem vA(l:List oo):flatK lQ 32 l.toArray=(dc (l.map (·.b))).toArray:=by
 have hD:=vn l
 apply Array.ext
 ·simp[fM hD]
 ·intro t h1 h2
  have ht:t<l.length*32:=by simpa using h1
  have hq:t/32<l.length:=by omega
  have e1:(flatK lQ 32 l.toArray)[t]! =(lQ l.toArray[t/32]!)[t % 32]! :=get_flatK _ _ _ t (by simpa using ht)
  have e0:l.toArray[t/32]! =l[t/32]:=by simp[hq]
  have hl32:=tz l[t/32]
  have hm:t % 32<(lQ l[t/32]).length:=by rw[hl32];omega
  have e2:(aQ ((l.map (·.b)).getD (t/32) []))[t % 32]? =some ((lQ l[t/32])[t % 32]):=by
   have:(l.map (·.b)).getD (t/32) []=l[t/32].b:=by simp[List.getD,hq]
   rw[this]
   exact List.getElem?_eq_getElem hm
  have e3:=Ap hD (t/32) (by simpa using hq) (t % 32) _ e2
  have e4:t/32*32+t % 32=t:=by omega
  rw[e4]at e3
  have e5:=(List.getElem?_eq_some_iff.1 e3).2
  rw[←getElem!_pos (flatK lQ 32 l.toArray) t h1,e1,e0,getElem!_pos (lQ l[t/32]) (t % 32) hm,List.getElem_toArray]
  exact e5.symm
theorem zu(aY off size:Nat)(w:World):CmpLays Tryz.prog 148 #[] lQ 32 (fun x y:oo=>cb x.b y.b) aY off size w:=fun m os dk _ x y=>by
 have:=zj x.b y.b (sortWorldK lQ 32 w aY off m dk os) x.h y.h
 simpa[lQ]using this
theorem FZ(x y:oo):ltOf (fun x y:oo=>cb x.b y.b) x y=decide (cb x.b y.b<0):=rfl
theorem Gj:SWO (ltOf fun x y:oo=>cb x.b y.b)where
 irrefl x:=by rw[FZ,oa];rfl
 trans x y z h1 h2:=by
  rw[FZ]at*
  simp only[decide_eq_true_eq]at*
  exact ky h1 h2
 ntrans x y z h1 h2:=by
  rw[FZ]at*
  simp only[decide_eq_false_iff_not]at*
  have a1:=fH x.b y.b
  have a2:=fH y.b z.b
  have a3:=fH x.b z.b
  have:=mB z.b y.b x.b (by omega) (by omega)
  omega
theorem GC(x y:oo)(h:ltOf (fun x y:oo=>cb x.b y.b) x y=false)(h2:ltOf (fun x y:oo=>cb x.b y.b) y x=false):x=y:=by
 rw[FZ]at*
 simp only[decide_eq_false_iff_not]at*
 have:=fH x.b y.b
 exact oo.ext' (py _ _ (by omega))
theorem B2(l:List oo):(l.mergeSort fun x y=> !(ltOf (fun x y:oo=>cb x.b y.b)) y x).map (·.b)=jK (l.map (·.b)):=List.map_mergeSort fun a _ b _=>rfl
theorem xu{w:World}{g n o:Nat}{os:Array Obj}{cur:Array Value}{e:TypeId}{fr:Nat×Nat}(d:Array Value)(hb:w.heap[g]? =some (.cells cur e fr)):
  (grow (putRow id (Go.Sort.ahead w n) g o d) os).heap[g]? =some (.cells (putCells id o d cur) e fr):=by
 have hg:g<w.heap.size:=(Array.getElem?_eq_some_iff.1 hb).1
 rw[heap_grow_old _ _ (by simpa using hg)]
 simp[putRow,mapBlock,Go.Sort.ahead,Array.getElem?_modify,hb,onCells]
theorem AW{w:World}{g n o:Nat}{os:Array Obj}(d:Array Value):Fr (fun k=>k=g) w (grow (putRow id (Go.Sort.ahead w n) g o d) os):=by
 refine⟨rfl,rfl,rfl,by simp,fun k hk hne=> ?_⟩
 rw[heap_grow_old _ _ (by simpa using hk)]
 have:g≠k:=fun e=>hne e.symm
 simp[putRow,mapBlock,Go.Sort.ahead,Array.getElem?_modify,this]
theorem w8(cur:List Value)(o:Nat)(vs:List Value)(h:o+vs.length≤cur.length):((putCells id o vs.toArray cur.toArray).toList.drop o).take vs.length=vs:=by
 apply List.ext_getElem?
 intro j
 by_cases hj:j<vs.length
 ·rw[List.getElem?_take_of_lt hj,List.getElem?_drop,Array.getElem?_toList]
  simp[putCells,hj,show o+j<cur.length by omega]
 ·rw[List.getElem?_take_eq_none (by omega),List.getElem?_eq_none (by omega)]
theorem A7{A:Option Addr}{n c base:Nat}{e:TypeId}{l:List oo}{w:World}(h:Go.Eng.Own w base e 32 (.slice A n c) n (dc (l.map (·.b))))(hn6:n≤1000000):
  Calls Tryz.prog 147 #[.slice A n c,.func (.func 148) #[] #[]] w fun r w' =>r= .returned (.tuple #[])∧Go.Eng.Own w' base e 32 (.slice A n c) n (dc (jK (l.map (·.b))))∧Fr (iH (.slice A n c)) w w' :=by
 obtain⟨h1,h2⟩:=h
 have hD:=vn l
 have hl:l.length=n:=by
  rw[fM hD,List.length_map]at h1
  omega
 rcases h2 with⟨hv,hn⟩|⟨g,o,cap,cur,hv,hb,⟨fr,hh,hf,hfl⟩,hnc,hcm,hfit,hcs⟩
 ·cases hv
  obtain rfl:l=[]:=List.eq_nil_of_length_eq_zero hl
  refine Calls.mono (AnyF.slices_SortFunc_none Tryz.CE none 0 _ w) (fun r w' ⟨hr,hw⟩=>⟨hr, ?_, ?_⟩)
  ·subst hw;exact⟨by simp[jK,dc],.inl ⟨rfl,rfl⟩⟩
  ·subst hw;exact Fr.refl _ _
 ·cases hv
  subst hl
  have hB:fb w g e cur:=⟨fr,hh,hf,hfl⟩
  have hdl:(dc (l.map (·.b))).length=l.length*32:=by rw[fM hD,List.length_map]
  have hH:HoldsK lQ 32 w g o l.toArray:=by
   unfold HoldsK
   rw[vA]
   intro j hj
   have hj' :j<(dc (l.map (·.b))).length:=by simpa using hj
   have h3:((cur.drop o).take (l.length*32))[j]? =(dc (l.map (·.b)))[j]? :=by rw[hcs]
   rw[List.getElem?_take_of_lt (by omega),List.getElem?_drop,List.getElem?_eq_getElem hj']at h3
   refine⟨?_,hB.frozen (by omega)⟩
   rw[hB.cell h3]
   simp[hj']
  have hen:∀args w,(callFunc 148 args).run Tryz.prog w= .ok (.enter 148 args) w:=Tryz.call148
  refine Calls.mono (AnyQ.slices_SortFunc_total Tryz.CE 32 Tryz.isAgg53 Tryz.sizeOf53 lQ tz (fun x v hv=>gk v hv) (fun x y=>cb x.b y.b) Gj 148 #[] g o c l.toArray w hen (zu g o _ w) hH hB.lt (by simp;omega) GC) ?_
  rintro r w' ⟨hr,k,os,rfl⟩
  have hsl:(dc (jK (l.map (·.b)))).length=l.length*32:=by
   rw[fM (fun d hd=>hD d ((jj _).mem_iff.1 hd)),te,List.length_map]
  have hw' :sortWorldK lQ 32 w g o k (l.toArray.toList.mergeSort fun x y=> !(ltOf (fun x y:oo=>cb x.b y.b)) y x).toArray os=grow (putRow id (Go.Sort.ahead w k) g o (dc (jK (l.map (·.b)))).toArray) os:=by
   unfold sortWorldK putRowK
   rw[vA,B2]
  rw[hw']
  refine⟨hr,⟨hsl,.inr ⟨g,o,c,(putCells id o (dc (jK (l.map (·.b)))).toArray cur.toArray).toList,rfl,hb, ?_,hnc,hcm,by simp[putCells];omega, ?_⟩⟩,AW _⟩
  ·have:=xu (n:=k) (o:=o) (os:=os) (dc (jK (l.map (·.b)))).toArray hh
   exact⟨fr,by simpa using this,fun i hi=>hf i (by simpa[putCells]using hi),by simpa[putCells]using hfl⟩
  ·have:=w8 cur o (dc (jK (l.map (·.b)))) (by rw[hsl];omega)
   rw[hsl]at this
   exact this
theorem qb{A:Option Addr}{n c:Nat}{e:TypeId}{ds:List (List UInt8)}(hD:mN ds)(hn:n≤1000000):cf Tryz.prog 147 [.slice A n c,.func (.func 148) #[] #[]] [aG e 32 (.slice A n c) n (dc ds)] [] (fun v_ X_ S_=>v_=(.tuple #[])∧X_=[aG e 32 (.slice A n c) n (dc (jK ds))]∧S_=[]):=by
 obtain⟨l,rfl⟩:=BP hD
 refine fun w m=>Calls.mono (A7 (m.own 0 rfl) hn) ?_
 rintro r w' ⟨hr,ho,hf⟩
 exact⟨_,_,_,hr,⟨rfl,rfl,rfl⟩,m.change (r' :=aG e 32 (.slice A n c) n (dc (jK (l.map (fun x:oo=>x.b))))) hf ho (fun k hk=>.inl hk)⟩
end Go.Proofs.YtmibdabdlgmafaaGreatDoor
end
section
set_option maxRecDepth 20000
set_option maxHeartbeats 4000000
namespace Go.Proofs.YtmibdabdlgmafaaGreatDoor
open Go.Eng Go.Hx
theorem tn:∀(l:List (List UInt8)) (a b:List UInt8),ln (l++[a,b])=if a=b then ln (l++[a])else ln (l++[a])++[b]
 | [],a,b=>by
  by_cases h:a=b
  ·simp[ln,h]
  ·simp[ln,h]
 | [x],a,b=>by
  by_cases h:a=b
  ·by_cases h2:x=a <;> simp[ln,h,h2]
  ·by_cases h2:x=a <;> simp[ln,h,h2]
 |x::y::r,a,b=>by
  have ih:=tn (y::r) a b
  simp only[List.cons_append]at ih ⊢
  by_cases h2:x=y
  ·rw[ln,if_pos h2,ih,ln,if_pos h2]
  ·rw[ln,if_neg h2,ih,ln,if_neg h2]
   split <;> rfl
theorem ma{ds:List (List UInt8)}{m:Nat}(h0:0<m)(hm:m<ds.length):ln (ds.take (m+1))=if ds.getD m []=ds.getD (m-1) []then ln (ds.take m)else ln (ds.take m)++[ds.getD m []]:=by
 have e1:ds.take (m+1)=ds.take (m-1)++[ds.getD (m-1) [],ds.getD m []]:=by
  obtain⟨j,rfl⟩:∃j,m=j+1:=⟨m-1,by omega⟩
  rw[Nat.add_sub_cancel,List.take_succ_eq_append_getElem hm,List.take_succ_eq_append_getElem (by omega:j<ds.length),List.append_assoc]
  simp[List.getD,hm,(by omega:j<ds.length)]
 have e2:ds.take m=ds.take (m-1)++[ds.getD (m-1) []]:=by
  obtain⟨j,rfl⟩:∃j,m=j+1:=⟨m-1,by omega⟩
  rw[Nat.add_sub_cancel,List.take_succ_eq_append_getElem (by omega:j<ds.length)]
  simp[List.getD,(by omega:j<ds.length)]
 rw[e1,e2,tn]
 by_cases h:ds.getD (m-1) []=ds.getD m []
 ·rw[if_pos h,if_pos h.symm]
 ·rw[if_neg h,if_neg (fun e=>h e.symm)]
theorem vN(l:List (List UInt8)):(ln l).length≤l.length:=by
 match l with
 | []=>exact Nat.le_refl _
 | [a]=>exact Nat.le_refl _
 |a::b::r=>
  have ih:=vN (b::r)
  unfold ln
  split
  ·simp only[List.length_cons]at ih ⊢;omega
  ·simp only[List.length_cons]at ih ⊢;omega
theorem qc{l:List (List UInt8)}(h:l.length<2):ln l=l:=by
 match l,h with
 | [],_=>rfl
 | [a],_=>rfl
theorem yN{w:World}{base:Nat}{e:TypeId}{sz n c q:Nat}{A:Option Addr}{xs:List Value}(h:Go.Eng.Own w base e sz (.slice A n c) n xs)(hq:q≤n):Go.Eng.Own w base e sz (.slice A q c) q (xs.take (q*sz)):=by
 obtain⟨h1,h2⟩:=h
 have hle:q*sz≤n*sz:=Nat.mul_le_mul_right _ hq
 refine⟨by rw[List.length_take];omega, ?_⟩
 rcases h2 with⟨hv,rfl⟩|⟨g,o,cap,cur,hv,hb,hB,hnc,hcm,hfit,hcs⟩
 ·cases hv
  obtain rfl:q=0:=by omega
  exact .inl ⟨rfl,rfl⟩
 ·cases hv
  refine .inr ⟨g,o,c,cur,rfl,hb,hB,by omega,hcm,hfit, ?_⟩
  rw[←hcs,List.take_take,Nat.min_eq_left hle]
theorem View.B1{e:TypeId}{sz n c q:Nat}{A:Option Addr}{xs:List Value}(hq:q≤n):View (aG e sz (.slice A n c) n xs) (aG e sz (.slice A q c) q (xs.take (q*sz))):=
 .of (fun w h=>yN h hq) (fun k h=>by cases A <;> exact h)
theorem rY{w:World}{a0:Addr}{k k2:Nat}{l:List Value}(h:∀(j:Nat) (u:Value),l[j]? =some u→w.cell? ((((some a0:Option Addr).getD d0).add ((k+k2)*32)).add j)=some u):
  ∀(j:Nat) (u:Value),l[j]? =some u→w.cell? ((((some (a0.add (k*32)):Option Addr).getD d0).add (k2*32)).add j)=some u:=fun j u hu=>by
 have:=h j u hu
 rw[Option.getD_some]at this ⊢
 rw[add_add]at this ⊢
 rw[add_add]
 have e:k*32+(k2*32+j)=(k+k2)*32+j:=by omega
 rw[e]
 exact this
theorem xi{ys:List (List UInt8)}{q:Nat}{d:List UInt8}(hD:mN ys)(hd:d.length=32)(hq:q<ys.length):br (dc ys) (q*32) (aQ d)=dc (ys.set q d):=by
 have e:ys=ys.take q++[ys[q]]++ys.drop (q+1):=by simp
 have e2:ys.set q d=ys.take q++[d]++ys.drop (q+1):=by
  rw[List.set_eq_take_append_cons_drop,if_pos hq];simp
 rw[e2]
 conv=>lhs;rw[e]
 rw[fj,fj,fj,fj,zk,zk]
 refine gX ?_ ?_
 ·rw[fM (fun x hx=>hD x (List.mem_of_mem_take hx)),List.length_take];omega
 ·rw[az,az,hd,hD _ (List.getElem_mem hq)]
theorem pH{ys ds:List (List UInt8)}{q j:Nat}(h:ys.drop q=ds.drop q)(hj:q≤j):ys.getD j []=ds.getD j []:=by
 have h1:(ys.drop q)[j-q]? =(ds.drop q)[j-q]? :=by rw[h]
 rw[List.getElem?_drop,List.getElem?_drop,show q+(j-q)=j by omega]at h1
 rw[List.getD,List.getD,h1]
theorem y9{ys:List (List UInt8)}{q:Nat}{d:List UInt8}(hq:q<ys.length):(ys.set q d).take (q+1)=ys.take q++[d]:=by
 have hl:(ys.take q).length=q:=by rw[List.length_take];omega
 rw[List.set_eq_take_append_cons_drop,if_pos hq,List.take_append,List.take_of_length_le (by omega),hl,show q+1-q=1 by omega]
 rfl
theorem set_drop{ys ds:List (List UInt8)}{q:Nat}{d:List UInt8}(h:ys.drop q=ds.drop q):(ys.set q d).drop (q+1)=ds.drop (q+1):=by
 rw[List.drop_set,if_pos (Nat.lt_succ_self q),←List.drop_drop,←List.drop_drop,h]
theorem BE{ys:List (List UInt8)}{q:Nat}{d:List UInt8}(h:mN ys)(hd:d.length=32):mN (ys.set q d):=fun x hx=>by
 rcases List.mem_or_eq_of_mem_set hx with hx|rfl
 ·exact h x hx
 ·exact hd
theorem za{A:Option Addr}{n c:Nat}{ds:List (List UInt8)}(hD:mN ds)(hl:ds.length=n)(hnc:n≤c)(hn:n≤1000000):cf Tryz.prog 205 [.slice A n c] [aG 53 32 (.slice A n c) n (dc ds)] [] (fun v_ X_ S_=>∃k,v_=(.slice A k c)∧X_=[aG 53 32 (.slice A k c) k (dc (ln ds))]∧S_=[]∧(k=(ln ds).length)):=by
 refine aP (N:=61) Tryz.func205 rfl rfl (by simp) fun b=> ?_
 refine aZ (fun m=>(m.ord 0 rfl).2.1) fun hA_x=> ?_
 refine ah<|aj<|hy (fun _=>ab rfl)<|ai<|ag<|ah<|ah<|aj<|hy (fun _=>aa rfl)<|hy (fun _=>aX rfl Tryz.underlying33)<|hy (fun _=>bw rfl rfl)<|ai<|al (ρ' :=[(8,_),(2,_),(0,_)]) ⟨rfl,rfl,rfl,trivial⟩<|ag<| ?_
 refine cD rfl (fun h2=> ?_) (fun h2=> ?_)
 ·have e:=qc (l:=ds) (by omega)
  rw[e]
  refine ah<|aj<|hy (fun _=>aa rfl)<|hy (fun _=>ab rfl)<|ai<|al (ρ' :=[(2,_),(8,_),(0,_)]) ⟨rfl,rfl,rfl,trivial⟩<|ag<|aU<|ax<| ?_
  exact bc trivial rfl rfl [0] rfl [] rfl ⟨n,rfl,rfl,rfl,hl.symm⟩
 ·refine aD<|ag<|ah<|ah<|aj<|hy (fun _=>ab rfl)<|ai<|ag<|aK<| ?_
  refine dz (fun k=>n-k) (fun k=>[(3,.int .i64 (k:Nat))]) (fun k=>[aG 53 32 (.slice A n c) n (dc ds)]) (fun k=>[]) (fun k=>1≤k∧k≤n∧ln (ds.take k)=ds.take k) 1 [(8,_),(0,_)] ⟨rfl,rfl,trivial⟩ [0] rfl [] rfl (⟨Nat.le_refl _,by omega,qc (Nat.lt_of_le_of_lt (List.length_take_le _ _) (by decide))⟩) ⟨rfl,trivial⟩ (fun k ⟨hk1,hkn,hne⟩=> ?_)
  refine ah<|ah<|aj<|hy (fun _=>aa rfl)<|hy (fun _=>aa rfl)<|hy (fun _=>aX rfl Tryz.underlying33)<|hy (fun _=>bw rfl rfl)<|ai<|al (ρ' :=[(13,_),(3,_),(8,_),(0,_)]) ⟨rfl,rfl,rfl,rfl,trivial⟩<|ag<| ?_
  refine cD rfl (fun hlt=> ?_) (fun hlt=> ?_)
  ·have hk2:k<ds.length:=by omega
   have hk3:k-1<ds.length:=by omega
   have ha:=iu hD hk2
   have hb:=iu hD hk3
   have ha' :(aQ (ds.getD k [])).length=32:=by rw[az,ha]
   have hb' :(aQ (ds.getD (k-1) [])).length=32:=by rw[az,hb]
   refine aD<|ag<|ah<|aK<|ah<|cN [] [(0,some 0),(1,some 0),(2,some 0),(3,some 0),(4,some 0),(5,some 0),(6,some 0),(7,some 0),(8,some 0),(9,some 0)] (by kernel_rfl) (by kernel_rfl) rfl 99<|an (aa rfl)<|an (aa rfl)<|an (cQ rfl rfl Tryz.underlying33 bp hA_x rfl (by omega))<|b6 (fun m=>a6 rfl cr bp ha' ((m.ord 0 rfl).k7 hD hk2))<|an (aa rfl)<|an (aa rfl)<|an (ck rfl rfl (bD (by omega) (by omega)))<|an (cQ rfl rfl Tryz.underlying33 bp hA_x (show((k-1:Nat):Int)=_ by omega) (by omega))<|b6 (fun m=>a6 rfl cr bp hb' ((m.ord 0 rfl).k7 hD hk3))<|an (AQ rfl rfl ha hb)<|bz<|al (ρ' :=[(25,_),(13,_),(3,_),(8,_),(0,_)]) ⟨rfl,rfl,rfl,rfl,rfl,trivial⟩<|ag<| ?_
   refine cD rfl (fun heq=> ?_) (fun heq=> ?_)
   ·obtain⟨a0,rfl⟩:∃a0,A=some a0:=Option.ne_none_iff_exists'.1 (hA_x (by omega))
    refine ah<|aj<|hy (fun _=>aa rfl)<|hy (fun _=>aa rfl)<|hy (fun _=>yV (eh rfl rfl Tryz.underlying33 bp rfl (by omega)) ((show Value.slice (if c=k then some a0 else Option.map (fun x=>x.add (k*32)) (some a0)) (n-k) (c-k)= .slice (some (a0.add (k*32))) (n-k) (c-k)from by rw[if_neg (by omega)];rfl)))<|hy (fun _=>ab rfl)<|ai<|al (ρ' :=[(4,_),(25,_),(13,_),(3,_),(8,_),(0,_)]) ⟨rfl,rfl,rfl,rfl,rfl,rfl,trivial⟩<|ag<|ah<|ah<|aj<|hy (fun _=>ab rfl)<|ai<|ag<|aK<| ?_
    refine fv (fun k2 q ys=>n-k2) (fun k2 q ys=>[(3,.int .i64 (q:Nat)),(5,.int .i64 (k2:Nat))]) (fun k2 q ys=>[aG 53 32 (.slice (some a0) n c) n (dc ys)]) (fun k2 q ys=>[]) (fun k2 q ys=>1≤k2∧k+k2≤n∧q+1≤k+k2∧mN ys∧ys.length=n∧ys.take q=ln (ds.take (k+k2))∧ys.drop q=ds.drop q∧(ln (ds.take (k+k2))).length=q) 1 k ds [(4,_),(25,_),(13,_),(8,_),(0,_)] ⟨rfl,rfl,rfl,rfl,rfl,trivial⟩ [0] rfl [] rfl (⟨Nat.le_refl _,by omega,by omega,hD,hl,by rw[ma (by omega) hk2,if_pos heq,hne],rfl,by rw[ma (by omega) hk2,if_pos heq,hne,List.length_take];omega⟩) ⟨rfl,rfl,trivial⟩ (fun k2 q ys ⟨i1,i2,i3,iD,iL,iT,iE,iN⟩=> ?_)
    refine ah<|ah<|aj<|hy (fun _=>aa rfl)<|hy (fun _=>aa rfl)<|hy (fun _=>aX rfl Tryz.underlying33)<|hy (fun _=>bw rfl rfl)<|ai<|al (ρ' :=[(32,_),(3,_),(5,_),(4,_),(25,_),(13,_),(8,_),(0,_)]) ⟨rfl,rfl,rfl,rfl,rfl,rfl,rfl,rfl,trivial⟩<|ag<| ?_
    refine cD rfl (fun hlt2=> ?_) (fun hlt2=> ?_)
    ·have hm1:k+k2<ys.length:=by omega
     have hm2:k+(k2-1)<ys.length:=by omega
     have g1:=iu iD hm1
     have g2:=iu iD hm2
     have g1' :(aQ (ys.getD (k+k2) [])).length=32:=by rw[az,g1]
     have g2' :(aQ (ys.getD (k+(k2-1)) [])).length=32:=by rw[az,g2]
     have e1:=pH iE (show q≤k+k2 by omega)
     have e2:=pH iE (show q≤k+(k2-1) by omega)
     have hA2:∀{n:Nat} {a:Addr},0<n→(some a:Option Addr)≠none:=fun _ h=>by cases h
     have hA_x:= @hA2
     refine aD<|ag<|ah<|aK<|ah<|cN [] [(0,some 0),(1,some 0),(2,some 0),(3,some 0),(4,some 0),(5,some 0),(6,some 0),(7,some 0),(8,some 0),(9,some 0)] (by kernel_rfl) (by kernel_rfl) rfl 99<|an (aa rfl)<|an (aa rfl)<|an (cQ rfl rfl Tryz.underlying33 bp hA_x rfl (by omega))<|b6 (fun m=>a6 rfl cr bp g1' (rY ((m.ord 0 rfl).k7 iD hm1)))<|an (aa rfl)<|an (aa rfl)<|an (ck rfl rfl (bD (by omega) (by omega)))<|an (cQ rfl rfl Tryz.underlying33 bp hA_x (show((k2-1:Nat):Int)=_ by omega) (by omega))<|b6 (fun m=>a6 rfl cr bp g2' (rY ((m.ord 0 rfl).k7 iD hm2)))<|an (rP rfl rfl g1 g2)<|bz<|al (ρ' :=[(44,_),(32,_),(3,_),(5,_),(4,_),(25,_),(13,_),(8,_),(0,_)]) ⟨rfl,rfl,rfl,rfl,rfl,rfl,rfl,rfl,rfl,trivial⟩<|ag<| ?_
     have hct:=ma (ds:=ds) (m:=k+k2) (by omega) (by omega)
     rw[show k+k2-1=k+(k2-1) by omega,←e1,←e2]at hct
     refine cD rfl (fun hne2=> ?_) (fun hne2=> ?_)
     ·rw[if_neg hne2]at hct
      refine ah<|aj<|hy (fun _=>aa rfl)<|hy (fun _=>aa rfl)<|hy (fun _=>aa rfl)<|hy (fun _=>aa rfl)<|hy (fun _=>cQ rfl rfl Tryz.underlying33 bp hA_x rfl (by omega))<|hy (fun m=>a6 rfl cr bp g1' (rY ((m.ord 0 rfl).k7 iD hm1)))<|hy (fun _=>cQ rfl rfl Tryz.underlying33 bp hA_x rfl (by omega))<| ?_
      refine cI (BD 0 rfl rfl rfl bp g1' aS (by omega) (by omega) ?_)
      rw[xi iD g1 (by omega)]
      refine ai<|al (ρ' :=[(44,_),(32,_),(3,_),(5,_),(4,_),(25,_),(13,_),(8,_),(0,_)]) ⟨rfl,rfl,rfl,rfl,rfl,rfl,rfl,rfl,rfl,trivial⟩<|ak (X' :=[_]) (S' :=[]) (fun _ m=>m)<|ag<|aj<|hy (fun _=>aa rfl)<|hy (fun _=>aM rfl rfl (bD (by omega) (by omega)))<|hy (fun _=>ab rfl)<|ai<|al (ρ' :=[(3,_),(44,_),(32,_),(5,_),(4,_),(25,_),(13,_),(8,_),(0,_)]) ⟨rfl,rfl,rfl,rfl,rfl,rfl,rfl,rfl,rfl,trivial⟩<|aT<|ag<|aj<|hy (fun _=>aa rfl)<|hy (fun _=>aM rfl rfl (bD (by omega) (by omega)))<|hy (fun _=>ab rfl)<|ai<|al (ρ' :=[(5,_),(3,_),(44,_),(32,_),(4,_),(25,_),(13,_),(8,_),(0,_)]) ⟨rfl,rfl,rfl,rfl,rfl,rfl,rfl,rfl,rfl,trivial⟩<| ?_
      refine eZ (k2+1) (q+1) (ys.set q (ys.getD (k+k2) [])) ⟨rfl,rfl,rfl,rfl,rfl,rfl,rfl,trivial⟩ [0] rfl [] rfl (⟨by omega,by omega,by omega,BE iD g1,by rw[List.length_set];exact iL,by rw[y9 (by omega),iT,←Nat.add_assoc,hct],set_drop iE,by rw[←Nat.add_assoc,hct,List.length_append,iN];rfl⟩) (by omega)
     ·rw[if_pos (Decidable.not_not.1 hne2)]at hct
      refine aD<|aT<|ag<|aj<|hy (fun _=>aa rfl)<|hy (fun _=>aM rfl rfl (bD (by omega) (by omega)))<|hy (fun _=>ab rfl)<|ai<|al (ρ' :=[(5,_),(44,_),(32,_),(3,_),(4,_),(25,_),(13,_),(8,_),(0,_)]) ⟨rfl,rfl,rfl,rfl,rfl,rfl,rfl,rfl,rfl,trivial⟩<| ?_
      refine eZ (k2+1) q ys ⟨rfl,rfl,rfl,rfl,rfl,rfl,rfl,trivial⟩ [0] rfl [] rfl (⟨by omega,by omega,by omega,iD,iL,by rw[iT,←Nat.add_assoc,hct],iE,by rw[←Nat.add_assoc,hct,iN]⟩) (by omega)
    ·have hkn2:k+k2=n:=by omega
     have hT:ds.take n=ds:=List.take_of_length_le (by omega)
     rw[hkn2,hT]at iT iN
     refine bK<|ao<|ao<|aC<|ag<|ah<|aj<|hy (fun _=>aa rfl)<|hy (fun _=>aa rfl)<|hy (fun _=>eh rfl rfl Tryz.underlying33 bp rfl (by omega))<| ?_
     refine cI (zd (k:=q) 0 rfl rfl Tryz.underlying33 dL rfl aS (fun h=>by rw[if_neg (by omega)];rfl) (by omega) (fun zs hzs=> ?_))
     refine ai<|al (ρ' :=[(32,_),(3,_),(5,_),(4,_),(25,_),(13,_),(8,_),(0,_)]) ⟨rfl,rfl,rfl,rfl,rfl,rfl,rfl,rfl,trivial⟩<|ak (X' :=[_]) (S' :=[]) (fun _ m=>m)<|ag<|ah<|aj<|hy (fun _=>aa rfl)<|hy (fun _=>aa rfl)<|hy (fun _=>re rfl rfl Tryz.underlying33 bp rfl (by omega))<|hy (fun _=>ab rfl)<|ai<|al (ρ' :=[(2,_),(32,_),(3,_),(5,_),(4,_),(25,_),(13,_),(8,_),(0,_)]) ⟨rfl,rfl,rfl,rfl,rfl,rfl,rfl,rfl,rfl,trivial⟩<|ag<|aU<|aW<|ax<|ax<|aW<|ax<| ?_
     have e9:(br (dc ys) (q*32) zs).take (q*32)=dc (ln ds):=by
      rw[br,List.append_assoc,List.take_append_of_le_length (by rw[List.length_take,fM iD];omega),List.take_take,Nat.min_self,BV iD,iT]
     refine ak (X' :=aG 53 32 (.slice (some a0) q c) q ((br (dc ys) (q*32) zs).take (q*32))::_) (fun w m=>(m.perm (ar [0] _ [_] _ rfl)).vP (View.B1 (by omega))) ?_
     rw[e9]
     exact bc trivial rfl rfl [0] rfl [] rfl ⟨q,rfl,rfl,rfl,iN.symm⟩
   ·refine aD<|aT<|ag<|aj<|hy (fun _=>aa rfl)<|hy (fun _=>aM rfl rfl (bD (by omega) (by omega)))<|hy (fun _=>ab rfl)<|ai<|al (ρ' :=[(3,_),(25,_),(13,_),(8,_),(0,_)]) ⟨rfl,rfl,rfl,rfl,rfl,trivial⟩<| ?_
    refine cM (k+1) ⟨rfl,rfl,rfl,trivial⟩ [0] rfl [] rfl (⟨by omega,by omega,by rw[ma (by omega) (by omega),if_neg heq,hne,List.take_succ_eq_append_getElem hk2];simp[List.getD,hk2]⟩) (by omega)
  ·obtain rfl:k=n:=by omega
   refine bK<|ao<|ao<|aC<|ag<|ah<|aj<|hy (fun _=>aa rfl)<|hy (fun _=>ab rfl)<|ai<|al (ρ' :=[(2,_),(13,_),(3,_),(8,_),(0,_)]) ⟨rfl,rfl,rfl,rfl,rfl,trivial⟩<|ag<|aU<| ?_
   have e:ln ds=ds:=by rw[List.take_of_length_le (by omega)]at hne;exact hne
   rw[e]
   exact bc trivial rfl rfl [0] rfl [] rfl ⟨k,rfl,rfl,rfl,hl.symm⟩
end Go.Proofs.YtmibdabdlgmafaaGreatDoor
end
section
set_option maxRecDepth 20000
namespace Go.Proofs.YtmibdabdlgmafaaGreatDoor
open Go.Eng Go.Hx Go.Extern
theorem text(A:Option Addr)(n c:Nat)(l:List UInt8)(w:World)(hr:Rd w 1 A n (aQ l))(hn:n≤70368744177664):
  Calls Tryz.prog 177 #[.slice A n c] w fun e w' =>e= .returned (.string (strOf (bW l)))∧Fr No w w' :=by
 have hl:l.length=n:=by have:=hr.1;rw[az]at this;omega
 refine enter (N:=28) Tryz.func177 rfl rfl (by simp) ?_
 refine a8<|bm<|nq (ab rfl)<|bk<|aH<|a8<|bm<|nq (ab rfl)<|bk<|aH<|a8<|a8<|bm<|nq (aa rfl)<|nq (aX rfl Tryz.underlying27)<|nq (aa rfl)<|bk<|bS (ae (t:=7) rfl<|ae (t:=6) rfl<|ae (t:=3) rfl<|ae (t:=2) rfl<|ae (t:=0) rfl<|aE)<|aH<|db<| ?_
 refine q6 (fun k _=>n-k) (fun k v=>[(0,.slice A n c),(3,v),(6,.int .i64 n),(7,.int .i64 (k:Nat))]) (fun k v w' =>k≤n∧Go.Eng.Own w' w.heap.size 5 1 v (2*k) (aQ (bW (l.take k)))∧Fr No w w') 0 (.slice none 0 0) (⟨Nat.zero_le _,Own.nil w w.heap.size _ 1,Fr.refl _ _⟩) (ae (t:=0) rfl<|ae (t:=3) rfl<|ae (t:=6) rfl<|ae (t:=7) rfl<|aE) (fun k v w1 ⟨hk,ho,hf⟩=> ?_)
 refine a8<|bm<|nq (bw rfl rfl)<|bk<|aH<|a8<| ?_
 refine sd rfl (fun h=> ?_) (fun h=> ?_)
 ·have hkn:k<n:=by omega
  have hb:=(l.getD k 0).toNat_lt
  refine fk<|aH<|a8<|db<|a8<|bm<|nq (aa rfl)<|nq (ab rfl)<|bk<|bS (ae (t:=4) rfl<|ae (t:=8) rfl<|ae (t:=0) rfl<|ae (t:=3) rfl<|ae (t:=6) rfl<|ae (t:=7) rfl<|aE)<|aH<| ?_
  refine AN [(0,false),(1,false),(2,false),(3,false),(4,false),(5,false),(6,false),(7,false),(8,false),(9,false),(10,false),(11,false),(12,false),(13,true),(14,true),(15,false)] (by kernel_rfl) (by kernel_rfl) rfl (fun w' =>Fr No w w') (hf.dr (Fr.drew _)) (fun w2 hf2 hS2=> ?_)
  refine sq (fun w_ hS_=>aa rfl)<|sq (fun w_ hS_=>aa rfl)<|sq (fun w_ hS_=>aa rfl)<|sq (fun w_ hS_=>aO rfl rfl Tryz.underlying27 dZ hr.2.1 rfl (by omega))<|sq (fun w_ hS_=>aw rfl jt (((hr.pU hS_).cell (bI (by omega)))))<|sq (fun w_ hS_=>nr (p:=16) rfl rfl (by decide) (by decide) (by decide))<|sq (fun w_ hS_=>fq rfl rfl Tryz.underlying9 rfl ((Ch _)))<|sq (fun w_ hS_=>aa rfl)<|sq (fun w_ hS_=>aa rfl)<|sq (fun w_ hS_=>aO rfl rfl Tryz.underlying27 dZ hr.2.1 rfl (by omega))<|sq (fun w_ hS_=>aw rfl jt (((hr.pU hS_).cell (bI (by omega)))))<|sq (fun w_ hS_=>gx (by simp) rfl rfl ((Fw _)))<|sq (fun w_ hS_=>fq rfl rfl Tryz.underlying9 rfl ((AA _)))<| ?_
  refine sx (ny Tryz.underlying27 eP rfl rfl rfl (by simp[Value.cells,B8]) (by decide) (by decide) fun g w3 hg hf3 hb3=> ?_)
  have hS3:Fr No w w3:=hS2.dr hf3
  refine⟨hS3, ?_⟩
  refine sx (lr rfl rfl Tryz.underlying27 Tryz.underlying27 (by exact .inl rfl) eP rfl (ho.pU (hf2.dr hf3)) (Src.bY (Own.rd (Own.made hb3 (Nat.le_refl _) (Nat.le_refl _) (by decide) (by rfl))).2.2) (by simp[Value.cells];exact⟨rfl,rfl⟩) (by unfold maxLen;omega) (by omega) hS3.size fun v4 w4 ho4 hf4 hv4=> ?_)
  have hS4:Fr No w w4:=hS3.new hf4 (fun i hi=>(ho.from hi).1)
  refine⟨hS4, ?_⟩
  refine sq (fun w_ hS_=>ab rfl)<|send<|bS (ae (t:=3) rfl<|ae (t:=4) rfl<|ae (t:=8) rfl<|ae (t:=0) rfl<|ae (t:=6) rfl<|ae (t:=7) rfl<|aE)<|fI<|aH<|bm<|nq (aM rfl rfl (bD (by omega) (by omega)))<|nq (aa rfl)<|bk<|bS (ae (t:=7) rfl<|ae (t:=3) rfl<|ae (t:=4) rfl<|ae (t:=8) rfl<|ae (t:=0) rfl<|ae (t:=6) rfl<|aE)<| ?_
  refine oP (k+1) v4 (ae (t:=0) rfl<|ae (t:=3) rfl<|ae (t:=6) rfl<|ae (t:=7) rfl<|aE) (⟨by omega, ?_,hS4⟩) (by omega)
  have e1:2*k+2=2*(k+1):=by omega
  have e2:bW (l.take (k+1))=bW (l.take k)++o1 (l.getD k 0):=qS (by omega)
  rw[e1]at ho4
  rw[e2,bs]
  exact ho4
 ·obtain rfl:k=n:=by omega
  obtain⟨A',c',rfl,hc'⟩:=ho.slice
  have hro:=(Own.rd ho).2.2
  rw[List.take_of_length_le (by omega)]at hro
  refine j9<|b5<|b5<|da<|aH<|a8<|bm<|nq (aa rfl)<|nq (jX rfl Tryz.underlying27 Tryz.underlying5 Tryz.underlying9 hro)<|nq (ab rfl)<|bk<|bS (ae (t:=2) rfl<|ae (t:=8) rfl<|ae (t:=0) rfl<|ae (t:=3) rfl<|ae (t:=6) rfl<|ae (t:=7) rfl<|aE)<|aH<|eM<| ?_
  exact gh trivial rfl rfl ⟨rfl,hf⟩
theorem E2(A:Option Addr)(n c:Nat)(l:List UInt8)(w:World)(hr:Rd w 1 A n (aQ l))(hn:n≤70368744177664):
  Calls Tryz.prog 182 #[.slice A n c] w fun e w' =>e= .returned (.string (strOf (bW l)))∧Fr No w w' :=by
 have hl:l.length=n:=by have:=hr.1;rw[az]at this;omega
 refine enter (N:=40) Tryz.func182 rfl rfl (by simp) ?_
 refine a8<|bm<|nq (ab rfl)<|bk<|aH<|a8<|bm<|nq (ab rfl)<|bk<|aH<|a8<|bm<|nq (ab rfl)<|bk<|aH<|a8<|a8<|bm<|nq (ab rfl)<|bk<|aH<|db<| ?_
 refine m8 (fun k=>n-k) (fun k=>[(0,.slice A n c),(3,.string ⟨#[48,49,50,51,52,53,54,55,56,57,97,98,99,100,101,102]⟩),(4,.string (strOf (bW (l.take k)))),(5,.int .i64 (k:Nat))]) (fun k w' =>k≤n∧Fr No w w') 0 (⟨Nat.zero_le _,Fr.refl _ _⟩) (ae (t:=0) rfl<|ae (t:=3) rfl<|ae (t:=4) rfl<|ae (t:=5) rfl<|aE) (fun k w1 ⟨hk,hf⟩=> ?_)
 refine a8<|a8<|bm<|nq (aa rfl)<|nq (aa rfl)<|nq (aX rfl Tryz.underlying27)<|nq (bw rfl rfl)<|bk<|bS (ae (t:=11) rfl<|ae (t:=0) rfl<|ae (t:=3) rfl<|ae (t:=4) rfl<|ae (t:=5) rfl<|aE)<|aH<| ?_
 refine sd rfl (fun h=> ?_) (fun h=> ?_)
 ·have hkn:k<n:=by omega
  have hb:=(l.getD k 0).toNat_lt
  have hr1:=hr.pU hf
  refine fk<|aH<|a8<|db<|a8<|bm<|nq (aa rfl)<|nq (aa rfl)<|nq (aO rfl rfl Tryz.underlying27 dZ hr.2.1 rfl (by omega))<|nq (aw rfl jt (hr1.cell (bI (by omega))))<|nq (bT rfl Tryz.underlying5 Tryz.underlying3 ((As _)))<|nq (j1 rfl rfl (by omega) (by omega) (bD (by omega) (by omega)))<|nq (ab rfl)<|bk<|bS (ae (t:=6) rfl<|ae (t:=11) rfl<|ae (t:=0) rfl<|ae (t:=3) rfl<|ae (t:=4) rfl<|ae (t:=5) rfl<|aE)<|aH<|a8<|bm<|nq (aa rfl)<|nq (aa rfl)<|nq (aO rfl rfl Tryz.underlying27 dZ hr.2.1 rfl (by omega))<|nq (aw rfl jt (hr1.cell (bI (by omega))))<|nq (bT rfl Tryz.underlying5 Tryz.underlying3 ((As _)))<|nq (gC rfl rfl (by omega) (by omega))<|nq (ab rfl)<|bk<|bS (ae (t:=7) rfl<|ae (t:=6) rfl<|ae (t:=11) rfl<|ae (t:=0) rfl<|ae (t:=3) rfl<|ae (t:=4) rfl<|ae (t:=5) rfl<|aE)<|aH<| ?_
  have hll:=dA (l.take k)
  have htl:(l.take k).length≤k:=List.length_take_le _ _
  refine AN [(0,false),(1,false),(2,false),(3,false),(4,false),(5,false),(6,false),(7,false),(8,false),(9,false),(10,false),(11,false),(12,false),(13,false)] (by kernel_rfl) (by kernel_rfl) rfl (fun w' =>Fr No w w') (hf.dr (Fr.drew _)) (fun w2 hf2 hS2=> ?_)
  refine sq (fun w_ hS_=>aa rfl)<|sq (fun w_ hS_=>aa rfl)<|sq (fun w_ hS_=>aa rfl)<|sq (fun w_ hS_=>aa rfl)<|sq (fun w_ hS_=>aM rfl rfl (bD (by omega) (by omega)))<|sq (fun w_ hS_=>qU rfl rfl rfl Tryz.underlying9 (show(((l.getD k 0).toNat/16:Nat):Int)=_ by omega) (show(((l.getD k 0).toNat/16+1:Nat):Int)=_ by omega) ((by omega)) ((by show _≤16;omega)))<|sq (fun w_ hS_=>iS rfl rfl ((by simp[cY];omega)))<|sq (fun w_ hS_=>aa rfl)<|sq (fun w_ hS_=>aa rfl)<|sq (fun w_ hS_=>aa rfl)<|sq (fun w_ hS_=>aM rfl rfl (bD (by omega) (by omega)))<|sq (fun w_ hS_=>qU rfl rfl rfl Tryz.underlying9 (show(((l.getD k 0).toNat % 16:Nat):Int)=_ by omega) (show(((l.getD k 0).toNat % 16+1:Nat):Int)=_ by omega) ((by omega)) ((by show _≤16;omega)))<|sq (fun w_ hS_=>yV (iS rfl rfl ((by simp[cY,ByteArray.size_append];omega))) (congrArg Value.string (wH (by omega))))<|sq (fun w_ hS_=>ab rfl)<|send<|bS (ae (t:=4) rfl<|ae (t:=7) rfl<|ae (t:=6) rfl<|ae (t:=11) rfl<|ae (t:=0) rfl<|ae (t:=3) rfl<|ae (t:=5) rfl<|aE)<|fI<|aH<|bm<|nq (aa rfl)<|nq (aM rfl rfl (bD (by omega) (by omega)))<|nq (ab rfl)<|bk<|bS (ae (t:=5) rfl<|ae (t:=4) rfl<|ae (t:=7) rfl<|ae (t:=6) rfl<|ae (t:=11) rfl<|ae (t:=0) rfl<|ae (t:=3) rfl<|aE)<| ?_
  refine nk (k+1) (ae (t:=0) rfl<|ae (t:=3) rfl<|ae (t:=4) rfl<|ae (t:=5) rfl<|aE) (⟨by omega,hS2⟩) (by omega)
 ·obtain rfl:k=n:=by omega
  refine j9<|b5<|b5<|da<|aH<|a8<|bm<|nq (aa rfl)<|nq (ab rfl)<|bk<|bS (ae (t:=2) rfl<|ae (t:=11) rfl<|ae (t:=0) rfl<|ae (t:=3) rfl<|ae (t:=4) rfl<|ae (t:=5) rfl<|aE)<|aH<|eM<| ?_
  refine gh trivial rfl rfl ⟨?_,hf⟩
  rw[List.take_of_length_le (by omega)]
def nb(w:World)(s:List UInt8)(v:Value)(w' :World):Prop:=
 match unhex s with
 |some x=>∃u,v= .tuple #[u,.int .i64 0]∧Go.Eng.Own w' w.heap.size 5 1 u x.length (aQ x)
 |none=>v= .tuple #[.slice none 0 0,.int .i64 2]
theorem tZ(s:ByteArray)(c:UInt8)(w:World):
  Calls Tryz.prog 267 #[.string s,.int .u8 c.toNat] w fun e w' =>e= .returned (.int .i64 (Lib.indexByte s.data.toList c))∧w=w' :=by
 refine enter (N:=8) Tryz.func267 rfl rfl (by simp) ?_
 refine a8<|bm<|nq (ab rfl)<|bk<|aH<|a8<|bm<|nq (aa rfl)<|nq (aa rfl)<| ?_
 refine nq (vk rfl Tryz.func295 (by kernel_rfl) (by kernel_rfl) (by kernel_rfl) (show _=some Extern.BytealgIndexByte.indexByte by kernel_rfl) (Lib.run_indexByteString _ _ _)) ?_
 refine nq (ab rfl)<|bk<|bS (ae (t:=4) rfl<|ae (t:=0) rfl<|ae (t:=1) rfl<|aE)<|aH<|eM<| ?_
 refine gh trivial rfl rfl ⟨?_,rfl⟩
 rw[show((c.toNat:Int)).toNat.toUInt8=c by simp]
theorem indexByte(s:ByteArray)(c:UInt8)(w:World):
  Calls Tryz.prog 224 #[.string s,.int .u8 c.toNat] w fun e w' =>e= .returned (.int .i64 (Lib.indexByte s.data.toList c))∧w=w' :=by
 refine enter (N:=8) Tryz.func224 rfl rfl (by simp) ?_
 refine a8<|bm<|nq (ab rfl)<|bk<|aH<|a8<|bm<|nq (aa rfl)<|nq (aa rfl)<| ?_
 refine nx (eN rfl Tryz.call267 (tZ s c w) ?_)
 rintro e_ w' ⟨rfl,rfl⟩
 refine⟨_,rfl, ?_⟩
 refine nq (ab rfl)<|bk<|bS (ae (t:=4) rfl<|ae (t:=0) rfl<|ae (t:=1) rfl<|aE)<|aH<|eM<| ?_
 exact gh trivial rfl rfl ⟨rfl,rfl⟩
theorem tf(c:UInt8)(w:World):
  Calls Tryz.prog 224 #[.string ⟨#[48,49,50,51,52,53,54,55,56,57,97,98,99,100,101,102]⟩,.int .u8 c.toNat] w fun e w' =>e= .returned (.int .i64 (k7 c))∧w=w' :=by
 rw[←o7]
 exact indexByte _ c w
theorem parse(s:List UInt8)(w:World)(hs:s.length≤140737488351232):
  Calls Tryz.prog 166 #[.string (strOf s)] w fun e w' =>(∃v,e= .returned v∧nb w s v w')∧Fr No w w' :=by
 have hsz:(strOf s).size=s.length:=cY s
 refine enter (N:=45) Tryz.func166 rfl rfl (by simp) ?_
 refine a8<|bm<|nq (ab rfl)<|nq (ab rfl)<|bk<|aH<|a8<|a8<|bm<|nq (aa rfl)<|nq (cW rfl Tryz.underlying9)<|nq (gC rfl rfl (by omega) (by omega))<|nq (dN rfl rfl)<|bk<|bS (ae (t:=11) rfl<|ae (t:=3) rfl<|ae (t:=2) rfl<|ae (t:=0) rfl<|aE)<|aH<| ?_
 refine sd rfl (fun h=> ?_) (fun h=> ?_)
 ·refine a8<|bm<|nq (ab rfl)<|nq (ab rfl)<|bk<|aH<|eM<|cX<| ?_
  refine zD trivial rfl rfl rfl ⟨⟨_,rfl, ?_⟩,Fr.refl _ _⟩
  rw[nb,qL s (by simp at h;omega)]
 ·simp at h
  refine fk<|aH<|a8<|bm<|nq (ab rfl)<|bk<|aH<|a8<|a8<|bm<|nq (aa rfl)<|nq (cW rfl Tryz.underlying9)<|nq (j1 rfl rfl (by omega) (by omega) (bD (by omega) (by omega)))<|nq (aa rfl)<|bk<|bS (ae (t:=15) rfl<|ae (t:=14) rfl<|ae (t:=4) rfl<|ae (t:=11) rfl<|ae (t:=3) rfl<|ae (t:=2) rfl<|ae (t:=0) rfl<|aE)<|aH<|db<| ?_
  refine D3 (fun k _ _=>s.length-2*k) (fun k v _=>[(0,.string (strOf s)),(4,v),(14,.int .i64 ((s.length/2:Nat):Int)),(15,.int .i64 (k:Nat))]) (fun k v x w' =>2*k≤s.length∧unhex (s.take (2*k))=some x∧Go.Eng.Own w' w.heap.size 5 1 v k (aQ x)∧Fr No w w') 0 (.slice none 0 0) [] (⟨Nat.zero_le _,rfl,Own.nil w w.heap.size _ 1,Fr.refl _ _⟩) (ae (t:=0) rfl<|ae (t:=4) rfl<|ae (t:=14) rfl<|ae (t:=15) rfl<|aE) (fun k v x w1 ⟨hk,hx,ho,hf⟩=> ?_)
  ·refine a8<|bm<|nq (bw rfl rfl)<|bk<|aH<|a8<| ?_
   refine sd rfl (fun h2=> ?_) (fun h2=> ?_)
   ·have hk2:2*k+1<s.length:=by omega
    have hd1:=kQ (s.getD (2*k) 0)
    have hd2:=kQ (s.getD (2*k+1) 0)
    have hlen:(s.take (2*k)).length=2*k:=by simp;omega
    have hsn:=ph (s.take (2*k)) k (s.getD (2*k) 0) (s.getD (2*k+1) 0) x hlen hx
    rw[←Aq hk2]at hsn
    have hno:(k7 (s.getD (2*k) 0)<0∨k7 (s.getD (2*k+1) 0)<0)→unhex s=none:=fun hn=>by
     rw[if_pos hn]at hsn
     have:=iw _ (s.drop (2*(k+1))) (k+1) (by simp;omega) hsn
     rwa [List.take_append_drop]at this
    refine fk<|aH<|a8<|db<|a8<|bm<|nq (aa rfl)<|nq (ab rfl)<|bk<|bS (ae (t:=5) rfl<|ae (t:=16) rfl<|ae (t:=0) rfl<|ae (t:=4) rfl<|ae (t:=14) rfl<|ae (t:=15) rfl<|aE)<|aH<|a8<| ?_
    refine AN [(0,false),(1,false),(2,false),(3,false),(5,false),(6,false),(7,false),(8,false),(9,false),(4,true),(10,true),(11,false),(12,false)] (by kernel_rfl) (by kernel_rfl) rfl (fun w' =>Fr No w w') (hf.dr (Fr.drew _)) (fun w2 hf2 hS2=> ?_)
    refine sq (fun w_ hS_=>aa rfl)<|sq (fun w_ hS_=>aa rfl)<|sq (fun w_ hS_=>fp rfl rfl (bD (by omega) (by omega)))<|sq (fun w_ hS_=>fq rfl rfl Tryz.underlying9 (show((2*k:Nat):Int)=_ by omega) (kn (by omega)))<|sq (fun w_ hS_=>aa rfl)<|sq (fun w_ hS_=>aa rfl)<|sq (fun w_ hS_=>fp rfl rfl (bD (by omega) (by omega)))<|sq (fun w_ hS_=>aM rfl rfl (bD (by omega) (by omega)))<|sq (fun w_ hS_=>fq rfl rfl Tryz.underlying9 (show((2*k+1:Nat):Int)=_ by omega) (kn (by omega)))<| ?_
    refine sx (eN rfl Tryz.call224 (tf _ _) ?_)
    rintro e_ w3 ⟨rfl,rfl⟩
    refine⟨_,rfl, ?_⟩
    refine⟨hS2, ?_⟩
    refine sx (eN rfl Tryz.call224 (tf _ _) ?_)
    rintro e_ w3 ⟨rfl,rfl⟩
    refine⟨_,rfl, ?_⟩
    refine⟨hS2, ?_⟩
    have hf:=hS2
    have ho:=ho.pU hf2
    refine sq (fun w_ hS_=>ab rfl)<|sq (fun w_ hS_=>ab rfl)<|send<|bS (ae (t:=7) rfl<|ae (t:=6) rfl<|ae (t:=5) rfl<|ae (t:=16) rfl<|ae (t:=0) rfl<|ae (t:=4) rfl<|ae (t:=14) rfl<|ae (t:=15) rfl<|aE)<|aH<|a8<|a8<|bm<|nq (aa rfl)<|nq (bw rfl rfl)<|nq (aa rfl)<| ?_
    refine ui 31 rfl (fun h3=> ?_) (fun h3=> ?_)
    ·refine qC rfl rfl rfl (by decide)<|qC rfl rfl rfl (by decide)<|nq (bU rfl rfl)<|bk<|bS (ae (t:=34) rfl<|ae (t:=7) rfl<|ae (t:=6) rfl<|ae (t:=5) rfl<|ae (t:=16) rfl<|ae (t:=0) rfl<|ae (t:=4) rfl<|ae (t:=14) rfl<|ae (t:=15) rfl<|aE)<|aH<| ?_
     refine AP rfl (rfl) ?_
     refine a8<|bm<|nq (ab rfl)<|nq (ab rfl)<|bk<|aH<|eM<|cX<|dJ<|cX<|cX<|dJ<|cX<| ?_
     refine zD trivial rfl rfl rfl ⟨⟨_,rfl, ?_⟩,hf⟩
     rw[nb,hno (.inl h3)]
    ·refine ng rfl rfl rfl (aa rfl)<|ng rfl rfl rfl (bw rfl rfl)<|nq (bP rfl rfl)<|bk<|bS (ae (t:=34) rfl<|ae (t:=7) rfl<|ae (t:=6) rfl<|ae (t:=5) rfl<|ae (t:=16) rfl<|ae (t:=0) rfl<|ae (t:=4) rfl<|ae (t:=14) rfl<|ae (t:=15) rfl<|aE)<|aH<| ?_
     refine sd rfl (fun h4=> ?_) (fun h4=> ?_)
     ·refine a8<|bm<|nq (ab rfl)<|nq (ab rfl)<|bk<|aH<|eM<|cX<|dJ<|cX<|cX<|dJ<|cX<| ?_
      refine zD trivial rfl rfl rfl ⟨⟨_,rfl, ?_⟩,hf⟩
      rw[nb,hno (.inr h4)]
     ·refine fk<|aH<|bm<|nq (aa rfl)<|nq (aa rfl)<|nq (sL (p:=16) rfl rfl (by decide) (by decide) (by decide) (bD (by omega) (by omega)))<|nq (aa rfl)<|nq (gx (by simp) rfl rfl (CR _ _ (by omega) (by omega) (by omega) (by omega)))<|nq (bT rfl Tryz.underlying3 Tryz.underlying5 (DP (Es _ _ (by omega) (by omega))))<| ?_
      refine nx (ny Tryz.underlying27 eP rfl rfl rfl (by simp[Value.cells,B8]) (by decide) (by decide) fun g w3 hg hf3 hb3=> ?_)
      refine nx (lr rfl rfl Tryz.underlying27 Tryz.underlying27 (by exact .inl rfl) eP rfl (ho.pU hf3) (Src.gv hb3 rfl) (aS (l:=[_])) (by unfold maxLen;omega) (by omega) (Nat.le_trans hf.size hf3.size) fun v4 w4 ho4 hf4 hv4=> ?_)
      refine nq (ab rfl)<|bk<|bS (ae (t:=4) rfl<|ae (t:=34) rfl<|ae (t:=7) rfl<|ae (t:=6) rfl<|ae (t:=5) rfl<|ae (t:=16) rfl<|ae (t:=0) rfl<|ae (t:=14) rfl<|ae (t:=15) rfl<|aE)<|fI<|aH<|bm<|nq (aM rfl rfl (bD (by omega) (by omega)))<|nq (aa rfl)<|bk<|bS (ae (t:=15) rfl<|ae (t:=4) rfl<|ae (t:=34) rfl<|ae (t:=7) rfl<|ae (t:=6) rfl<|ae (t:=5) rfl<|ae (t:=16) rfl<|ae (t:=0) rfl<|ae (t:=14) rfl<|aE)<| ?_
      rw[if_neg (by omega)]at hsn
      refine D6 (k+1) v4 _ (ae (t:=0) rfl<|ae (t:=4) rfl<|ae (t:=14) rfl<|ae (t:=15) rfl<|aE) (⟨by omega,hsn,by rw[bs];exact ho4,(hf.dr hf3).new hf4 (fun i hi=>(ho.from hi).1)⟩) (by omega)
   ·refine j9<|b5<|b5<|da<|aH<|a8<|bm<|nq (aa rfl)<|nq (ab rfl)<|nq (ab rfl)<|bk<|bS (ae (t:=3) rfl<|ae (t:=2) rfl<|ae (t:=16) rfl<|ae (t:=0) rfl<|ae (t:=4) rfl<|ae (t:=14) rfl<|ae (t:=15) rfl<|aE)<|aH<|eM<| ?_
    refine zD trivial rfl rfl rfl ⟨⟨_,rfl, ?_⟩,hf⟩
    rw[List.take_of_length_le (by omega)]at hx
    have hxl:=jw s x hx
    rw[nb,hx]
    have:x.length=k:=by omega
    exact⟨v,rfl,this▸ho⟩
theorem name(a:List UInt8)(w:World)(ha:a.length=32):
  Calls Tryz.prog 104 #[.agg (aQ a).toArray] w fun e w' =>e= .returned (.string (strOf (bW a)))∧Fr No w w' :=by
 refine enter (N:=5) Tryz.func104 rfl rfl (by simp) ?_
 refine a8<|bm<| ?_
 refine nx (sG rfl fun g1 w1 hg1 hf1 hb1=> ?_)
 rw[bq]at hb1
 refine nq (ab rfl)<|bk<|aH<|a8<|bm<|nq (sc rfl Tryz.underlying53 dZ)<| ?_
 refine nx (eN rfl Tryz.call177 (text _ _ _ a _ (Rd.gv hb1 (by rw[az];omega)) (by omega)) ?_)
 rintro e_ w2 ⟨rfl,hf2⟩
 refine⟨_,rfl, ?_⟩
 refine nq (ab rfl)<|bk<|bS (ae (t:=2) rfl<|ae (t:=1) rfl<|ae (t:=0) rfl<|aE)<|aH<|eM<| ?_
 exact gh trivial rfl rfl ⟨rfl,hf1.dr hf2⟩
theorem yU(v:Value)(w:World):(Extern.ReflectliteType.typeOf #[.iface 47 v]).run Tryz.prog w= .ok (.iface 312 (.agg #[.pointer (some ⟨2,47,none⟩)])) w:=by kernel_rfl
theorem q8 (w : World) : ((Extern.ReflectliteType.method fun t => do Rtype.noPackHeld "Comparable" t; pure (.bool (← typeInfo t).comparable)) #[.agg #[.pointer (some ⟨2, 47, none⟩)]]).run Tryz.prog w = .ok (.bool true) w := by kernel_rfl
theorem lx (v : Value) (w : World) : (Go.method (Tryz.prog.types.size + Made.depth) 312 v "Comparable").run Tryz.prog w = .ok (341, v) w := by kernel_rfl
theorem Gu(v:Value)(xT:TypeId)(w:World):(Instr.typeAssert (.iface 47 v) xT 314 true).run Tryz.prog w= .ok (.tuple #[.nilIface,.bool false]) w:=run_typeAssert_lacksB Tryz.underlying314 (by kernel_rfl) (by kernel_rfl) v xT w
theorem yn(v:Value)(xT:TypeId)(w:World):(Instr.typeAssert (.iface 47 v) xT 317 true).run Tryz.prog w= .ok (.tuple #[.nilIface,.bool false]) w:=run_typeAssert_lacksB Tryz.underlying317 (by kernel_rfl) (by kernel_rfl) v xT w
theorem xJ(v:Value)(xT:TypeId)(w:World):(Instr.typeAssert (.iface 47 v) xT 319 true).run Tryz.prog w= .ok (.tuple #[.nilIface,.bool false]) w:=run_typeAssert_lacksB Tryz.underlying319 (by kernel_rfl) (by kernel_rfl) v xT w
theorem EX(k m:Int)(w:World):
  Calls Tryz.prog 176 #[.iface 47 (.int .i64 k),.iface 47 (.int .i64 m),.bool true] w fun e w' =>e= .returned (.bool (decide (k=m)))∧w=w' :=by
 refine enter (N:=54) Tryz.func176 rfl rfl (by simp) ?_
 refine a8<|bm<|nq (ab rfl)<|bk<|aH<|db<| ?_
 refine m8 (fun _=>0) (fun _=>[(0,.iface 47 (.int .i64 k)),(1,.iface 47 (.int .i64 m)),(2,.bool true)]) (fun _ w' =>w=w') 0 (rfl) (ae (t:=0) rfl<|ae (t:=1) rfl<|ae (t:=2) rfl<|aE) (fun i w1 hw=> ?_)
 obtain rfl:=hw
 refine db<|a8<|a8<|bm<|nq (aa rfl)<|nq (aa rfl)<|ng rfl rfl rfl (aa rfl)<|ng rfl rfl rfl (aa rfl)<|ng rfl rfl rfl (((DN rfl rfl Tryz.underlying247 (by kernel_rfl) Tryz.underlying47)))<|nq (bU rfl rfl)<|bk<|bS (ae (t:=19) rfl<|ae (t:=0) rfl<|ae (t:=1) rfl<|ae (t:=2) rfl<|aE)<|aH<| ?_
 refine sd rfl (fun h=> ?_) (fun h=> ?_)
 ·refine a8<|bm<|nq (ab rfl)<|bk<|aH<|eM<|cX<|dJ<|cX<|dJ<| ?_
  refine gh trivial rfl rfl ⟨?_,rfl⟩
  rw[decide_eq_true h]
 ·refine fk<|aH<|a8<|a8<|bm<|nq (aa rfl)<|nq (qW rfl ((Gu _ _ _)))<|nq (aa rfl)<|nq (au rfl rfl)<|nq (au rfl rfl)<|nq (ab rfl)<|nq (ab rfl)<|bk<|bS (ae (t:=8) rfl<|ae (t:=7) rfl<|ae (t:=19) rfl<|ae (t:=0) rfl<|ae (t:=1) rfl<|ae (t:=2) rfl<|aE)<|aH<|a8<|bm<|nq (aa rfl)<|nq (aa rfl)<|qC rfl rfl rfl (by decide)<|qC rfl rfl rfl (by decide)<|qC rfl rfl rfl (by decide)<|nq (bP rfl rfl)<|bk<|bS (ae (t:=30) rfl<|ae (t:=8) rfl<|ae (t:=7) rfl<|ae (t:=19) rfl<|ae (t:=0) rfl<|ae (t:=1) rfl<|ae (t:=2) rfl<|aE)<|aH<| ?_
  refine uC rfl (rfl) ?_
  refine fk<|aH<|a8<|bm<|nq (aa rfl)<|bk<|aH<|db<|a8<|bm<|nq (qW rfl ((yn _ _ _)))<|nq (au rfl rfl)<|nq (au rfl rfl)<|bk<|bS (ae (t:=34) rfl<|ae (t:=33) rfl<|ae (t:=31) rfl<|ae (t:=30) rfl<|ae (t:=8) rfl<|ae (t:=7) rfl<|ae (t:=19) rfl<|ae (t:=0) rfl<|ae (t:=1) rfl<|ae (t:=2) rfl<|aE)<|aH<| ?_
  refine uC rfl (rfl) ?_
  refine a8<|bm<|nq (qW rfl ((xJ _ _ _)))<|nq (au rfl rfl)<|nq (au rfl rfl)<|bk<|bS (ae (t:=41) rfl<|ae (t:=40) rfl<|ae (t:=34) rfl<|ae (t:=33) rfl<|ae (t:=31) rfl<|ae (t:=30) rfl<|ae (t:=8) rfl<|ae (t:=7) rfl<|ae (t:=19) rfl<|ae (t:=0) rfl<|ae (t:=1) rfl<|ae (t:=2) rfl<|aE)<|aH<| ?_
  refine uC rfl (rfl) ?_
  refine a8<|bm<|nq (ab rfl)<|bk<|bS (ae (t:=41) rfl<|ae (t:=40) rfl<|ae (t:=34) rfl<|ae (t:=33) rfl<|ae (t:=31) rfl<|ae (t:=30) rfl<|ae (t:=8) rfl<|ae (t:=7) rfl<|ae (t:=19) rfl<|ae (t:=0) rfl<|ae (t:=1) rfl<|ae (t:=2) rfl<|aE)<|aH<|a8<|bm<|nq (ab rfl)<|bk<|aH<|eM<|dJ<|dJ<|cX<|dJ<| ?_
  refine gh trivial rfl rfl ⟨?_,rfl⟩
  rw[decide_eq_false h]
theorem pN(k m:Int)(w:World):
    Calls Tryz.prog 103 #[.iface 47 (.int .i64 k),.iface 47 (.int .i64 m)] w fun e w' =>e= .returned (.bool (decide (k=m)))∧w=w' :=by
  refine enter (N:=22) Tryz.func103 rfl rfl (by simp) ?_
  refine a8<|bm<|nq (ab rfl)<|bk<|aH<|a8<|a8<|bm<|nq (aa rfl)<|nq (((Aj rfl rfl (by kernel_rfl))))<|nq (aa rfl)<|ng rfl rfl rfl (aa rfl)<|ng rfl rfl rfl (((Aj rfl rfl (by kernel_rfl))))<|nq (bP rfl rfl)<|bk<|bS (ae (t:=11) rfl<|ae (t:=4) rfl<|ae (t:=0) rfl<|ae (t:=1) rfl<|aE)<|aH<| ?_
  refine uC rfl (rfl) ?_
  refine fk<|aH<|a8<|bm<|nq (aa rfl)<| ?_
  refine nq (vk rfl Tryz.func175 (by kernel_rfl) (by kernel_rfl) (by kernel_rfl) (show _=some Extern.ReflectliteType.typeOf by kernel_rfl) (yU _ _)) ?_
  refine nq (C1 rfl rfl (lx _ _) Tryz.func341 (by kernel_rfl) (by kernel_rfl) (by kernel_rfl) (g := Extern.ReflectliteType.method fun t => do Rtype.noPackHeld "Comparable" t; pure (.bool (← typeInfo t).comparable)) (by kernel_rfl) (q8 _)) ?_
  refine nq (ab rfl)<|bk<|bS (ae (t:=5) rfl<|ae (t:=11) rfl<|ae (t:=4) rfl<|ae (t:=0) rfl<|ae (t:=1) rfl<|aE)<|aH<|a8<|bm<|nq (aa rfl)<|nq (aa rfl)<|nq (aa rfl)<| ?_
  refine nx (eN rfl Tryz.call176 (EX k m w) ?_)
  rintro e_ w1 ⟨rfl,rfl⟩
  refine⟨_,rfl, ?_⟩
  refine nq (ab rfl)<|bk<|bS (ae (t:=4) rfl<|ae (t:=5) rfl<|ae (t:=11) rfl<|ae (t:=0) rfl<|ae (t:=1) rfl<|aE)<|aH<|eM<| ?_
  exact gh trivial rfl rfl ⟨rfl,rfl⟩
def cO(s:List UInt8):List UInt8×Int:=match unhex s with
 |none=>(List.replicate 32 0,2)
 |some x=>if x.length=32 then(x,0)else(List.replicate 32 0,3)
theorem j4(s:List UInt8):(cO s).1.length=32:=by
 unfold cO
 split
 ·simp
 ·split
  ·assumption
  ·simp
theorem Ba(s:List UInt8)(w:World)(hs:s.length≤140737488351232):
  Calls Tryz.prog 92 #[.string (strOf s)] w fun e w' =>e= .returned (.tuple #[.agg (aQ (cO s).1).toArray,.int .i64 (cO s).2])∧Fr No w w' :=by
 refine enter (N:=26) Tryz.func92 rfl rfl (by simp) ?_
 refine a8<|bm<| ?_
 refine nx (ve dL fun g1 w1 hg1 hf1 hb1=> ?_)
 rw[Ai]at hb1
 refine nq (ab rfl)<|bk<|aH<|a8<|bm<|nq (aa rfl)<| ?_
 refine nx (eN rfl Tryz.call166 (parse s w1 hs) ?_)
 rintro e_ w2 ⟨⟨v,rfl,hv⟩,hf2⟩
 refine⟨_,rfl, ?_⟩
 have h12:=hb1.pU hf2
 have z32:(aQ (List.replicate 32 (0:UInt8))).length=32:=by rw[az];simp
 unfold nb at hv
 split at hv
 ·rename_i x hx
  obtain⟨u,rfl,hu⟩:=hv
  obtain⟨Au,cu,rfl,hcu⟩:=hu.slice
  have ru:=(Own.rd hu).2.2
  have hxl:=jw s x hx
  refine nq (aa rfl)<|nq (au rfl rfl)<|nq (au rfl rfl)<|nq (ab rfl)<|nq (ab rfl)<|bk<|bS (ae (t:=5) rfl<|ae (t:=4) rfl<|ae (t:=3) rfl<|ae (t:=2) rfl<|ae (t:=0) rfl<|aE)<|aH<|a8<|db<|a8<|bm<|nq (aa rfl)<|nq (ke rfl Tryz.underlying47 (fun _ h=>by cases h))<|nq (ke rfl Tryz.underlying47 (fun _ h=>by cases h))<| ?_
  refine nx (eN rfl Tryz.call103 (pN 0 2 _) ?_)
  rintro e_ w3 ⟨rfl,rfl⟩
  refine⟨_,rfl, ?_⟩
  refine nq (ab rfl)<|bk<|bS (ae (t:=11) rfl<|ae (t:=5) rfl<|ae (t:=4) rfl<|ae (t:=3) rfl<|ae (t:=2) rfl<|ae (t:=0) rfl<|aE)<|aH<| ?_
  refine uC rfl ((decide_eq_false (by decide):decide ((0:Int)=2)=false)) ?_
  refine a8<|bm<|nq (aa rfl)<|nq (aX rfl Tryz.underlying27)<|nq (dN rfl rfl)<|nq (ab rfl)<|bk<|bS (ae (t:=18) rfl<|ae (t:=11) rfl<|ae (t:=5) rfl<|ae (t:=4) rfl<|ae (t:=3) rfl<|ae (t:=2) rfl<|ae (t:=0) rfl<|aE)<|aH<| ?_
  refine sd rfl (fun h=> ?_) (fun h=> ?_)
  ·refine a8<|bm<|nq (eC dL rfl (by kernel_rfl))<| ?_
   refine E0 (x9 rfl rfl bp (List.length_replicate ..) h12 z32 fun w3 hf3 h13 hs3=> ?_)
   refine nq (ab rfl)<|bk<|bS (ae (t:=3) rfl<|ae (t:=18) rfl<|ae (t:=11) rfl<|ae (t:=5) rfl<|ae (t:=4) rfl<|ae (t:=2) rfl<|ae (t:=0) rfl<|aE)<|aH<|eM<|dJ<|cX<| ?_
   refine vS trivial rfl rfl rfl cr bp z32 h13.ay ⟨?_,(hf1.dr hf2).new hf3 (fun i hi=>by omega)⟩
   rw[cO,hx]
   simp only
   rw[if_neg (fun e=>h (by rw[e];rfl))]
  ·have h32:x.length=32:=by omega
   rw[h32]at ru ⊢
   obtain⟨ad,rfl⟩:∃ad,Au=some ad:=⟨_,ru.some (by omega)⟩
   refine fk<|fI<|aH<|a8<|bm<|nq (aa rfl)<|nq (oq rfl Tryz.underlying53 (by omega))<|nq (a6 rfl cr bp ((by rw[az];exact h32)) ru.2.2)<| ?_
   refine E0 (x9 rfl rfl bp h32 h12 z32 fun w4 hf4 h14 hs4=> ?_)
   refine nq (ab rfl)<|bk<|bS (ae (t:=3) rfl<|ae (t:=18) rfl<|ae (t:=11) rfl<|ae (t:=5) rfl<|ae (t:=4) rfl<|ae (t:=2) rfl<|ae (t:=0) rfl<|aE)<|aH<|eM<| ?_
   refine vS trivial rfl rfl rfl cr bp (by rw[az];exact h32) h14.ay ⟨?_,(hf1.dr hf2).new hf4 (fun i hi=>by omega)⟩
   rw[cO,hx]
   simp only
   rw[if_pos h32]
 ·rename_i hx
  subst hv
  refine nq (aa rfl)<|nq (au rfl rfl)<|nq (au rfl rfl)<|nq (ab rfl)<|nq (ab rfl)<|bk<|bS (ae (t:=5) rfl<|ae (t:=4) rfl<|ae (t:=3) rfl<|ae (t:=2) rfl<|ae (t:=0) rfl<|aE)<|aH<|a8<|db<|a8<|bm<|nq (aa rfl)<|nq (ke rfl Tryz.underlying47 (fun _ h=>by cases h))<|nq (ke rfl Tryz.underlying47 (fun _ h=>by cases h))<| ?_
  refine nx (eN rfl Tryz.call103 (pN 2 2 _) ?_)
  rintro e_ w3 ⟨rfl,rfl⟩
  refine⟨_,rfl, ?_⟩
  refine nq (ab rfl)<|bk<|bS (ae (t:=11) rfl<|ae (t:=5) rfl<|ae (t:=4) rfl<|ae (t:=3) rfl<|ae (t:=2) rfl<|ae (t:=0) rfl<|aE)<|aH<| ?_
  refine AP rfl ((decide_eq_true rfl:decide ((2:Int)=2)=true)) ?_
  refine a8<|bm<|nq (eC dL rfl (by kernel_rfl))<|nq (aa rfl)<| ?_
  refine E0 (x9 rfl rfl bp (List.length_replicate ..) h12 z32 fun w3 hf3 h13 hs3=> ?_)
  refine nq (ab rfl)<|bk<|bS (ae (t:=3) rfl<|ae (t:=11) rfl<|ae (t:=5) rfl<|ae (t:=4) rfl<|ae (t:=2) rfl<|ae (t:=0) rfl<|aE)<|aH<|eM<|dJ<|cX<| ?_
  refine vS trivial rfl rfl rfl cr bp z32 h13.ay ⟨?_,(hf1.dr hf2).new hf3 (fun i hi=>by omega)⟩
  rw[cO,hx]
  rfl
def fill(l:List UInt8)(n:Nat):List UInt8:=(List.range n).map fun i=>l.getD (i % l.length) 0
theorem qz(l:List UInt8)(n:Nat):fill l (n+1)=fill l n++[l.getD (n % l.length) 0]:=by simp[fill,List.range_succ]
theorem Dp(A:Option Addr)(n c:Nat)(l:List UInt8)(m:Nat)(w:World)(hr:Rd w 1 A n (aQ l))(hn:n≤140737488351232)(hm:m≤1000000):
  Calls Tryz.prog 101 #[.slice A n c,.int .i64 (m:Int)] w fun e w' =>∃v,e= .returned v∧Go.Eng.Own w' w.heap.size 5 1 v m (aQ (fill l m))∧Fr No w w' :=by
 have hl:l.length=n:=by have:=hr.1;rw[az]at this;omega
 refine enter (N:=29) Tryz.func101 rfl rfl (by simp) ?_
 refine a8<|bm<|nq (ab rfl)<|bk<|aH<|a8<|bm<|nq (ab rfl)<|bk<|aH<|a8<|a8<|bm<|nq (ab rfl)<|bk<|aH<|db<| ?_
 refine q6 (fun k _=>m-k) (fun k v=>[(0,.slice A n c),(1,.int .i64 (m:Int)),(5,v),(6,.int .i64 (k:Nat))]) (fun k v w' =>k≤m∧Go.Eng.Own w' w.heap.size 5 1 v k (aQ (fill l k))∧Fr No w w') 0 (.slice none 0 0) (⟨Nat.zero_le _,Own.nil w w.heap.size _ 1,Fr.refl _ _⟩) (ae (t:=0) rfl<|ae (t:=1) rfl<|ae (t:=5) rfl<|ae (t:=6) rfl<|aE) (fun k v w2 ⟨hk,ho,hf⟩=> ?_)
 refine a8<|a8<|bm<|nq (aa rfl)<|nq (aa rfl)<|nq (bw rfl rfl)<|bk<|bS (ae (t:=9) rfl<|ae (t:=0) rfl<|ae (t:=1) rfl<|ae (t:=5) rfl<|ae (t:=6) rfl<|aE)<|aH<| ?_
 refine sd rfl (fun h=> ?_) (fun h=> ?_)
 ·refine fk<|aH<|a8<|db<|a8<|bm<|nq (aa rfl)<|nq (aX rfl Tryz.underlying27)<|nq (cR rfl rfl)<|bk<|bS (ae (t:=14) rfl<|ae (t:=9) rfl<|ae (t:=0) rfl<|ae (t:=1) rfl<|ae (t:=5) rfl<|ae (t:=6) rfl<|aE)<|aH<| ?_
  refine sd rfl (fun h2=> ?_) (fun h2=> ?_)
  ·have hkn:k % n<n:=Nat.mod_lt _ (by omega)
   have ga:=bI (l:=l) (i:=k % n) (by omega)
   have r2:=hr.pU hf
   refine bm<|nq (aa rfl)<|nq (aa rfl)<|nq (aa rfl)<|nq (aa rfl)<|nq (aX rfl Tryz.underlying27)<|nq (gC rfl rfl (by omega) (by omega))<|nq (aO rfl rfl Tryz.underlying27 dZ r2.2.1 (show((k % n:Nat):Int)=_ by omega) (by omega))<|nq (aw rfl jt (r2.cell ga))<| ?_
   refine nx (ny Tryz.underlying27 eP rfl rfl rfl (by simp[Value.cells,B8]) (by decide) (by decide) fun g w3 hg hf3 hb3=> ?_)
   refine nx (lr rfl rfl Tryz.underlying27 Tryz.underlying27 (by exact .inl rfl) eP rfl (ho.pU hf3) (Src.gv hb3 rfl) (aS (l:=[_])) (by unfold maxLen;omega) (by omega) (hf.dr hf3).size fun v4 w4 ho4 hf4 hv4=> ?_)
   refine nq (ab rfl)<|bk<|bS (ae (t:=5) rfl<|ae (t:=14) rfl<|ae (t:=9) rfl<|ae (t:=0) rfl<|ae (t:=1) rfl<|ae (t:=6) rfl<|aE)<|fI<|aH<|bm<|nq (aa rfl)<|nq (aM rfl rfl (bD (by omega) (by omega)))<|nq (ab rfl)<|bk<|bS (ae (t:=6) rfl<|ae (t:=5) rfl<|ae (t:=14) rfl<|ae (t:=9) rfl<|ae (t:=0) rfl<|ae (t:=1) rfl<|aE)<| ?_
   refine oP (k+1) v4 (ae (t:=0) rfl<|ae (t:=1) rfl<|ae (t:=5) rfl<|ae (t:=6) rfl<|aE) (⟨by omega,by rw[qz,bs,hl];exact ho4,(hf.dr hf3).new hf4 (fun i hi=>(ho.from hi).1)⟩) (by omega)
  ·have h0:l=[]:=List.eq_nil_of_length_eq_zero (by omega)
   refine bm<|nq (aa rfl)<| ?_
   refine nx (ny Tryz.underlying27 eP rfl rfl rfl (by simp[Value.cells,B8]) (by decide) (by decide) fun g w3 hg hf3 hb3=> ?_)
   refine nx (lr rfl rfl Tryz.underlying27 Tryz.underlying27 (by exact .inl rfl) eP rfl (ho.pU hf3) (Src.gv hb3 rfl) (aS (l:=[0])) (by unfold maxLen;omega) (by omega) (hf.dr hf3).size fun v4 w4 ho4 hf4 hv4=> ?_)
   refine nq (ab rfl)<|bk<|bS (ae (t:=5) rfl<|ae (t:=14) rfl<|ae (t:=9) rfl<|ae (t:=0) rfl<|ae (t:=1) rfl<|ae (t:=6) rfl<|aE)<|fI<|aH<|bm<|nq (aa rfl)<|nq (aM rfl rfl (bD (by omega) (by omega)))<|nq (ab rfl)<|bk<|bS (ae (t:=6) rfl<|ae (t:=5) rfl<|ae (t:=14) rfl<|ae (t:=9) rfl<|ae (t:=0) rfl<|ae (t:=1) rfl<|aE)<| ?_
   refine oP (k+1) v4 (ae (t:=0) rfl<|ae (t:=1) rfl<|ae (t:=5) rfl<|ae (t:=6) rfl<|aE) (⟨by omega,by rw[qz,bs,h0];rw[h0]at ho4;exact ho4,(hf.dr hf3).new hf4 (fun i hi=>(ho.from hi).1)⟩) (by omega)
 ·obtain rfl:k=m:=by omega
  refine j9<|b5<|b5<|da<|aH<|a8<|bm<|nq (aa rfl)<|nq (ab rfl)<|bk<|bS (ae (t:=4) rfl<|ae (t:=9) rfl<|ae (t:=0) rfl<|ae (t:=1) rfl<|ae (t:=5) rfl<|ae (t:=6) rfl<|aE)<|aH<|eM<| ?_
  exact gh trivial rfl rfl ⟨v,rfl,ho,hf⟩
theorem FM(a:List UInt8)(w:World)(ha:a.length=32):
  Calls Tryz.prog 111 #[.agg (aQ a).toArray] w fun e w' =>e= .returned (.string (strOf (bW a)))∧Fr No w w' :=by
 refine enter (N:=6) Tryz.func111 rfl rfl (by simp) ?_
 refine a8<|bm<| ?_
 refine nx (sG rfl fun g1 w1 hg1 hf1 hb1=> ?_)
 rw[bq]at hb1
 refine nq (ab rfl)<|bk<|aH<|a8<|bm<|nq (a6 rfl cr bp ((by rw[az];exact ha)) hb1.ay)<| ?_
 refine nx (eN rfl Tryz.call183 (bytes a _ ha) ?_)
 rintro e_ w2 ⟨v,rfl,hv,hf2⟩
 refine⟨_,rfl, ?_⟩
 obtain⟨Av,cv,rfl,hcv⟩:=hv.slice
 refine nx (eN rfl Tryz.call182 (E2 Av _ cv a _ ((Own.rd hv).2.2) (by omega)) ?_)
 rintro e_ w3 ⟨rfl,hf3⟩
 refine⟨_,rfl, ?_⟩
 refine nq (ab rfl)<|bk<|bS (ae (t:=2) rfl<|ae (t:=1) rfl<|ae (t:=0) rfl<|aE)<|aH<|eM<| ?_
 exact gh trivial rfl rfl ⟨rfl,(hf1.dr hf2).dr hf3⟩
theorem pS(d:List UInt8)(h:d.length=32):cO (bW d)=(d,0):=by
 rw[cO,jM]
 simp only
 rw[if_pos h]
end Go.Proofs.YtmibdabdlgmafaaGreatDoor
end
section
set_option maxRecDepth 20000
namespace Go.Proofs.YtmibdabdlgmafaaGreatDoor
open Go.Eng Go.Hx
theorem Aa{a:List UInt8}(ha:a.length=32):cf Tryz.prog 104 [.agg (aQ a).toArray] [] [] (fun v_ X_ S_=>v_=(.string (strOf (bW a)))∧X_=[]∧S_=[]):=by
 exact gT fun m=>Calls.mono (name a _ ha) (fun e w' ⟨h,hf⟩=>⟨_,h,⟨rfl,rfl,rfl⟩,hf⟩)
theorem wv{a:List UInt8}(ha:a.length=32):cf Tryz.prog 111 [.agg (aQ a).toArray] [] [] (fun v_ X_ S_=>v_=(.string (strOf (bW a)))∧X_=[]∧S_=[]):=by
 exact gT fun m=>Calls.mono (FM a _ ha) (fun e w' ⟨h,hf⟩=>⟨_,h,⟨rfl,rfl,rfl⟩,hf⟩)
theorem y6{s:List UInt8}(hs:s.length≤1000000):cf Tryz.prog 92 [.string (strOf s)] [] [] (fun v_ X_ S_=>v_=(.tuple #[.agg (aQ (cO s).1).toArray,.int .i64 (cO s).2])∧X_=[]∧S_=[]):=by
 exact gT fun m=>Calls.mono (Ba s _ (by omega)) (fun e w' ⟨h,hf⟩=>⟨_,h,⟨rfl,rfl,rfl⟩,hf⟩)
theorem Eh{k q:Int}:cf Tryz.prog 103 [.iface 47 (.int .i64 k),.iface 47 (.int .i64 q)] [] [] (fun v_ X_ S_=>v_=(.bool (decide (k=q)))∧X_=[]∧S_=[]):=by
 exact gT fun m=>Calls.mono (pN k q _) (fun e w' ⟨h,hw⟩=>⟨_,h,⟨rfl,rfl,rfl⟩,hw▸Fr.refl _ _⟩)
theorem Fo{A:Option Addr}{n c:Nat}{l:List UInt8}{k:Nat}(hn:n≤140737488351232)(hk:k≤1000000):cf Tryz.prog 101 [.slice A n c,.int .i64 (k:Nat)] [] [c6 1 A n (aQ l)] (fun v_ X_ S_=>∃v,v_=v∧X_=[aG 5 1 v k (aQ (fill l k))]∧S_=[]):=by
 exact ko fun m=>Calls.mono (Dp A n c l k _ (m.rd 0 rfl) hn hk) (fun e w' ⟨v,h,ho,hf⟩=>⟨v,v,_,_,_,_,h,⟨v,rfl,rfl,rfl⟩,ho,hf⟩)
end Go.Proofs.YtmibdabdlgmafaaGreatDoor
end
section
set_option maxRecDepth 20000
namespace Go.Proofs.YtmibdabdlgmafaaGreatDoor
open Go.Eng Go.Hx
theorem tu{l:List UInt8}{c:UInt8}:cf Tryz.prog 267 [.string (strOf l),B8 c] [] [] (fun v_ X_ S_=>v_=(.int .i64 (Lib.indexByte l c))∧X_=[]∧S_=[]):=by
 refine aP (N:=8) Tryz.func267 rfl rfl (by simp) fun b=> ?_
 refine ah<|aj<|hy (fun _=>ab rfl)<|ai<|ag<|ah<|aj<|hy (fun _=>aa rfl)<|hy (fun _=>aa rfl)<| ?_
 refine hx (lY (fun m=>vk rfl Tryz.func295 (by kernel_rfl) (by kernel_rfl) (by kernel_rfl) (show _=some Extern.BytealgIndexByte.indexByte by kernel_rfl) (Lib.run_indexByteString _ _ _)) ?_)
 refine hy (fun _=>ab rfl)<|ai<|al (ρ' :=[(4,_),(0,_),(1,_)]) ⟨rfl,rfl,rfl,trivial⟩<|ag<|aU<| ?_
 exact bc trivial rfl rfl [] rfl [] rfl ⟨(by congr 2;simp),rfl,rfl⟩
theorem wJ{l:List UInt8}{c:UInt8}:cf Tryz.prog 274 [.string (strOf l),.string (strOf [c])] [] [] (fun v_ X_ S_=>v_=(.int .i64 (Lib.indexByte l c))∧X_=[]∧S_=[]):=by
 refine aP (N:=143) Tryz.func274 rfl rfl (by simp) fun b=> ?_
 refine ah<|aj<|hy (fun _=>ab rfl)<|ai<|ag<|ah<|aj<|hy (fun _=>aa rfl)<|hy (fun _=>yV (cW rfl Tryz.underlying9) ((rfl:_=Value.int .i64 1)))<|hy (fun _=>ab rfl)<|ai<|al (ρ' :=[(5,_),(4,_),(0,_),(1,_)]) ⟨rfl,rfl,rfl,rfl,trivial⟩<|ag<|ah<|aK<|ah<|aj<|hy (fun _=>aa rfl)<|hy (fun _=>cH rfl rfl)<|hy (fun _=>aa rfl)<| ?_
 refine dQ (o:=_) rfl rfl rfl (fun _=>aa rfl)<|dQ (o:=_) rfl rfl rfl (fun _=>aa rfl)<|dQ (o:=_) rfl rfl rfl (fun _=>sv rfl rfl)<|hy (fun _=>bP rfl rfl)<|hy (fun _=>ab rfl)<|ai<|al (ρ' :=[(16,_),(5,_),(4,_),(0,_),(1,_)]) ⟨rfl,rfl,rfl,rfl,rfl,trivial⟩<|ag<| ?_
 refine cD rfl (fun h=> ?_) (fun h=> ?_)
 ·obtain rfl:=cA.1 h
  refine ah<|aj<|hy (fun _=>ab rfl)<|ai<|ag<|aU<|aW<|ax<| ?_
  exact bc trivial rfl rfl [] rfl [] rfl ⟨(by simp[Lib.indexByte]),rfl,rfl⟩
 ·refine ah<|aj<|hy (fun _=>aa rfl)<|hy (fun _=>cH rfl rfl)<|hy (fun _=>ab rfl)<|ai<|al (ρ' :=[(24,_),(16,_),(5,_),(4,_),(0,_),(1,_)]) ⟨rfl,rfl,rfl,rfl,rfl,rfl,trivial⟩<|ag<| ?_
  refine ib rfl (rfl) ?_
  refine ah<|aj<|hy (fun _=>aa rfl)<|hy (fun _=>aa rfl)<|hy (fun _=>yV (fq rfl rfl Tryz.underlying9 rfl (kn (by simp))) ((rfl:_=B8 c)))<| ?_
  refine hx (aq rfl Tryz.call267 (tu) [] rfl [] rfl ?_)
  rintro _ _ _ ⟨rfl,rfl,rfl⟩
  refine hy (fun _=>ab rfl)<|ai<|al (ρ' :=[(4,_),(24,_),(16,_),(5,_),(0,_),(1,_)]) ⟨rfl,rfl,rfl,rfl,rfl,rfl,trivial⟩<|ak (X' :=[]) (S' :=[]) (fun _ m=>m)<|ag<|aU<|aW<|ax<| ?_
  exact bc trivial rfl rfl [] rfl [] rfl ⟨rfl,rfl,rfl⟩
theorem ox{l:List UInt8}{c:UInt8}:cf Tryz.prog 233 [.string (strOf l),.string (strOf [c])] [] [] (fun v_ X_ S_=>v_=(.int .i64 (Lib.indexByte l c))∧X_=[]∧S_=[]):=by
 refine aP (N:=8) Tryz.func233 rfl rfl (by simp) fun b=> ?_
 refine ah<|aj<|hy (fun _=>ab rfl)<|ai<|ag<|ah<|aj<|hy (fun _=>aa rfl)<|hy (fun _=>aa rfl)<| ?_
 refine hx (aq rfl Tryz.call274 (wJ) [] rfl [] rfl ?_)
 rintro _ _ _ ⟨rfl,rfl,rfl⟩
 refine hy (fun _=>ab rfl)<|ai<|al (ρ' :=[(4,_),(0,_),(1,_)]) ⟨rfl,rfl,rfl,trivial⟩<|ak (X' :=[]) (S' :=[]) (fun _ m=>m)<|ag<|aU<| ?_
 exact bc trivial rfl rfl [] rfl [] rfl ⟨rfl,rfl,rfl⟩
theorem uT{l:List UInt8}{c:UInt8}:cf Tryz.prog 184 [.string (strOf l),.string (strOf [c])] [] [] (fun v_ X_ S_=>v_=(.bool (decide (c∈l)))∧X_=[]∧S_=[]):=by
 refine aP (N:=9) Tryz.func184 rfl rfl (by simp) fun b=> ?_
 refine ah<|aj<|hy (fun _=>ab rfl)<|ai<|ag<|ah<|aj<|hy (fun _=>aa rfl)<|hy (fun _=>aa rfl)<| ?_
 refine hx (aq rfl Tryz.call233 (ox) [] rfl [] rfl ?_)
 rintro _ _ _ ⟨rfl,rfl,rfl⟩
 refine hy (fun _=>jZ rfl rfl)<|hy (fun _=>ab rfl)<|ai<|al (ρ' :=[(4,_),(0,_),(1,_)]) ⟨rfl,rfl,rfl,trivial⟩<|ak (X' :=[]) (S' :=[]) (fun _ m=>m)<|ag<|aU<| ?_
 exact bc trivial rfl rfl [] rfl [] rfl ⟨(by congr 1;rw[←Lib.contains_iff_indexByte];simp),rfl,rfl⟩
def fB(p:List UInt8):Prop:=p≠ []∧p.length≤96∧¬(0:UInt8)∈p
instance(p:List UInt8):Decidable (fB p):=by unfold fB;infer_instance
theorem vx(p:List UInt8):strOf p≠⟨#[]⟩↔p≠ []:=by
 rw[show(⟨#[]⟩:ByteArray)=strOf []from rfl]
 simp only[ne_eq,cA]
theorem yu{p:List UInt8}:cf Tryz.prog 115 [.string (strOf p)] [] [] (fun v_ X_ S_=>v_=(.bool (decide (fB p)))∧X_=[]∧S_=[]):=by
 have hsz:=cY p
 refine aP (N:=15) Tryz.func115 rfl rfl (by simp) fun b=> ?_
 refine ah<|aj<|hy (fun _=>ab rfl)<|ai<|ag<|ah<|aj<|hy (fun _=>aa rfl)<|hy (fun _=>pb rfl rfl)<|hy (fun _=>aa rfl)<| ?_
 refine eE 5 rfl (fun h1=> ?_) (fun h1=> ?_)
 ·have h1' :=(vx p).1 h1
  refine dQ (o:=_) rfl rfl rfl (fun _=>aa rfl)<|dQ (o:=_) rfl rfl rfl (fun _=>cW rfl Tryz.underlying9)<|dQ (o:=_) rfl rfl rfl (fun _=>qJ rfl rfl)<|hy (fun _=>bU rfl rfl)<|hy (fun _=>aa rfl)<| ?_
  refine eE 10 rfl (fun h2=> ?_) (fun h2=> ?_)
  ·have h2' :p.length≤96:=by omega
   refine dQ (o:=_) rfl rfl rfl (fun _=>aa rfl)<| ?_
   refine GR (o:=_) rfl rfl rfl (aq rfl Tryz.call184 (uT) [] rfl [] rfl ?_)
   rintro _ _ _ ⟨rfl,rfl,rfl⟩
   refine dQ (o:=_) rfl rfl rfl (fun _=>iI rfl)<|hy (fun _=>bU rfl rfl)<|hy (fun _=>ab rfl)<|ai<|al (ρ' :=[(2,_),(0,_)]) ⟨rfl,rfl,trivial⟩<|ak (X' :=[]) (S' :=[]) (fun _ m=>m)<|ag<|aU<| ?_
   exact bc trivial rfl rfl [] rfl [] rfl ⟨(by congr 1;simp only[fB];simp[h1',h2']),rfl,rfl⟩
  ·have h2' :¬p.length≤96:=by omega
   refine bx rfl rfl rfl (by decide)<|bx rfl rfl rfl (by decide)<|bx rfl rfl rfl (by decide)<|hy (fun _=>bP rfl rfl)<|hy (fun _=>ab rfl)<|ai<|al (ρ' :=[(2,_),(0,_)]) ⟨rfl,rfl,trivial⟩<|ag<|aU<| ?_
   exact bc trivial rfl rfl [] rfl [] rfl ⟨(by congr 1;simp only[fB];simp[h2']),rfl,rfl⟩
 ·have h1' :¬p≠ []:=fun h=>h1 ((vx p).2 h)
  refine bx rfl rfl rfl (by decide)<|bx rfl rfl rfl (by decide)<|bx rfl rfl rfl (by decide)<|hy (fun _=>bP rfl rfl)<|hy (fun _=>aa rfl)<| ?_
  refine bx rfl rfl rfl (by decide)<|bx rfl rfl rfl (by decide)<|bx rfl rfl rfl (by decide)<|hy (fun _=>bP rfl rfl)<|hy (fun _=>ab rfl)<|ai<|al (ρ' :=[(2,_),(0,_)]) ⟨rfl,rfl,trivial⟩<|ag<|aU<| ?_
  exact bc trivial rfl rfl [] rfl [] rfl ⟨(by congr 1;simp only[fB];simp[h1']),rfl,rfl⟩
end Go.Proofs.YtmibdabdlgmafaaGreatDoor
end
section
set_option maxRecDepth 20000
namespace Go.Proofs.YtmibdabdlgmafaaGreatDoor
open Go.Eng Go.Hx
abbrev dB:=List (List UInt8×fu)
def dK(l:dB):List (List UInt8×Value):=l.map fun x=>(x.1,x.2.val)
def lO(l:dB):Nat:=(l.map fun x=>x.2.n).sum
theorem mq:∀(l:dB) (p:List UInt8),b4 (dK l) p=(b4 l p).map fu.val
 | [],p=>rfl
 |(k,r)::q,p=>by
  have:=mq q p
  simp only[dK,List.map_cons,b4]at this ⊢
  split <;> simp_all
theorem oO:∀(l:dB) (p:List UInt8) (r:fu),cL (dK l) p r.val=dK (cL l p r)
 | [],p,r=>rfl
 |(k,u)::q,p,r=>by
  have:=oO q p r
  simp only[dK,List.map_cons,cL]at this ⊢
  split <;> simp_all
theorem oA:∀(l:dB) (p:List UInt8),eu (dK l) p=dK (eu l p)
 | [],p=>rfl
 |(k,u)::q,p=>by
  have:=oA q p
  simp only[dK,List.map_cons,eu]at this ⊢
  split <;> simp_all
theorem vO{l:dB}{j:Nat}{p:List UInt8×Value}(h:(dK l)[j]? =some p):∃r,l[j]? =some (p.1,r)∧p.2=r.val:=by
 simp only[dK,List.getElem?_map]at h
 cases hl:l[j]? with
 |none=>rw[hl]at h;cases h
 |some x=>
  rw[hl]at h
  simp only[Option.map_some,Option.some.injEq]at h
  subst h
  exact⟨x.2,rfl,rfl⟩
theorem lC(l:dB)(j:Nat):(dK l).eraseIdx j=dK (l.eraseIdx j):=(map_eraseIdx _ l j).symm
theorem qv:∀{l:dB} {j:Nat} {x:List UInt8×fu},l[j]? =some x→lO (l.eraseIdx j)+x.2.n=lO l
 | [],j,x,h=>by simp at h
 |a::q,0,x,h=>by
  simp only[List.getElem?_cons_zero,Option.some.injEq]at h
  subst h
  simp[lO];omega
 |a::q,j+1,x,h=>by
  simp only[List.getElem?_cons_succ]at h
  have:=qv h
  simp only[lO,List.eraseIdx_cons_succ,List.map_cons,List.sum_cons]at this ⊢
  omega
inductive fS
 |written (p:List UInt8) (r:fu)
 |renamed (a b:List UInt8)
 |removed (p:List UInt8)
def fS.row:fS→Option fu
 | .written _ r=>some r
 |_=>none
def fS.val:fS→Value
 | .written p r=>.iface 189 (.agg [SV p,r.val].toArray)
 | .renamed a b=>.iface 257 (.agg [SV a,SV b].toArray)
 | .removed p=>.iface 237 (.agg [SV p].toArray)
structure cG where
 room:Int
 gs:Nat
 gl:Nat
 seen:dB
 ct:dB
 waits:List fS
 wA:Option Addr
 wc:Nat
 cj:Int
def rowsOf(st:cG):List fu:=st.seen.map (·.2)++st.ct.map (·.2)++st.waits.filterMap fS.row
def jS(st:cG):List Value:=[.int .i64 st.room,.map (some st.gs),.map (some st.gl),.slice st.wA st.waits.length st.wc,.int .i64 st.cj]
abbrev bn(g:Nat)(st:cG):bg:=fm [aI g 177 (jS st),c5 SV st.gs (dK st.seen),c5 SV st.gl (dK st.ct),aG 232 1 (.slice st.wA st.waits.length st.wc) st.waits.length (st.waits.map fS.val),im (rowsOf st)]
def lW(n:Int)(gs gl:Nat):cG:=⟨n,gs,gl,[],[],[],none,0,-1⟩
theorem Gc{n:Int}(h1:1≤n)(h2:n≤1048576):cf Tryz.prog 24 [.int .i64 n] [] [] (fun v_ X_ S_=>∃g gs gl,v_=(.tuple #[.pointer (some ⟨g,0,none⟩),.int .i64 0])∧X_=[bn g (lW n gs gl)]∧S_=[]):=by
 refine aP (N:=15) Tryz.func24 rfl rfl (by simp) fun b=> ?_
 refine ah<|aj<|hy (fun _=>ab rfl)<|hy (fun _=>ab rfl)<|ai<|ag<|ah<|ah<|aj<|hy (fun _=>aa rfl)<|hy (fun _=>bw rfl rfl)<|hy (fun _=>aa rfl)<| ?_
 refine eE 6 rfl (fun h=> ?_) (fun h=> ?_)
 ·exact absurd h (by omega)
 ·refine dQ (o:=_) rfl rfl rfl (fun _=>aa rfl)<|dQ (o:=_) rfl rfl rfl (fun _=>cR rfl rfl)<|hy (fun _=>bP rfl rfl)<|ai<|al (ρ' :=[(9,_),(3,_),(2,_),(0,_)]) ⟨rfl,rfl,rfl,rfl,trivial⟩<|ag<| ?_
  refine dP rfl (decide_eq_false (by omega)) ?_
  refine aD<|ag<|ah<|aj<|hy (fun _=>aa rfl)<| ?_
  refine hx (mg SV (fun g11=> ?_))
  refine hx (mg SV (fun g12=> ?_))
  refine hy (fun _=>yV (cn EU rfl rfl (by kernel_rfl) (.cons (o:=0) (sz:=1) (by kernel_rfl) rfl rfl (Nat.le_of_ble_eq_true rfl) (.cons (o:=1) (sz:=1) (by kernel_rfl) rfl rfl (Nat.le_of_ble_eq_true rfl) (.cons (o:=2) (sz:=1) (by kernel_rfl) rfl rfl (Nat.le_of_ble_eq_true rfl) (.cons (o:=4) (sz:=1) (by kernel_rfl) rfl rfl (Nat.le_of_ble_eq_true rfl) .nil))))) ((rfl:_=Value.agg (jS (lW n g11 g12)).toArray)))<| ?_
  refine hx (cy rfl (fun g14=> ?_))
  refine hy (fun _=>ab rfl)<|hy (fun _=>ab rfl)<|ai<|al (ρ' :=[(3,_),(2,_),(9,_),(0,_)]) ⟨rfl,rfl,rfl,rfl,trivial⟩<|ak (X' :=[_,_,_]) (S' :=[]) (fun _ m=>m)<|ag<|aU<| ?_
  refine ak (fun w m=>m.dx (r' :=aG 232 1 (.slice none 0 0) 0 []) (.refl _ _) (Own.nil _ _ _ _) (fun k hk=>hk.elim)) ?_
  refine ak (fun w m=>m.Dj) ?_
  refine ak (X' :=bn g14 (lW n g11 g12)::_) (fun w m=>(m.perm (ar [2,3,2,1,0] _ [_,_,_,_,_] _ rfl)).pack) ?_
  exact dg trivial rfl rfl rfl [0] rfl [] rfl ⟨_,_,_,rfl,rfl,rfl⟩
theorem FW{g:Nat}{st:cG}:cf Tryz.prog 87 [.pointer (some ⟨g,0,none⟩)] [bn g st] [] (fun v_ X_ S_=>v_=(.bool (decide (st.cj≠0)))∧X_=[bn g st]∧S_=[]):=by
 refine aP (N:=8) Tryz.func87 rfl rfl (by simp) fun b=> ?_
 refine bB (fun w m=>(m.perm (ar [0] _ [_] _ rfl)).unpack) ?_
 refine ah<|aj<|hy (fun _=>ab rfl)<|ai<|ag<|ah<|aj<|hy (fun _=>aa rfl)<|hy (fun _=>bh rfl)<|hy (fun _=>aL rfl ob (by decide))<|hy (fun m=>aw rfl fE (aA (m.aY 0 rfl) rfl))<|hy (fun _=>dN rfl rfl)<|hy (fun _=>ab rfl)<|ai<|al (ρ' :=[(2,_),(0,_)]) ⟨rfl,rfl,trivial⟩<|ag<|aU<| ?_
 refine ak (X' :=bn g st::_) (fun w m=>(m.perm (ar [0,0,0,0,0] _ [_,_,_,_,_] _ rfl)).pack) ?_
 exact bc trivial rfl rfl [0] rfl [] rfl ⟨rfl,rfl,rfl⟩
def cG.ez(st:cG):cG:={st with cj:=if 0<st.cj then st.cj-1 else st.cj}
theorem ry{g:Nat}{st:cG}(hp:st.cj≤1000000000000):cf Tryz.prog 181 [.pointer (some ⟨g,0,none⟩)] [bn g st] [] (fun v_ X_ S_=>v_=(.tuple #[])∧X_=[bn g st.ez]∧S_=[]):=by
 refine aP (N:=14) Tryz.func181 rfl rfl (by simp) fun b=> ?_
 refine bB (fun w m=>(m.perm (ar [0] _ [_] _ rfl)).unpack) ?_
 refine ah<|aj<|hy (fun _=>aa rfl)<|hy (fun _=>bh rfl)<|hy (fun _=>aL rfl ob (by decide))<|hy (fun m=>aw rfl fE (aA (m.aY 0 rfl) rfl))<|hy (fun _=>cR rfl rfl)<|ai<|al (ρ' :=[(6,_),(0,_)]) ⟨rfl,rfl,trivial⟩<|ag<| ?_
 refine cD rfl (fun h=> ?_) (fun h=> ?_)
 ·have e:st.ez={st with cj:=st.cj-1}:=by simp only[cG.ez,if_pos h]
  rw[e]
  refine aj<|hy (fun _=>aa rfl)<|hy (fun _=>bh rfl)<|hy (fun _=>aL rfl ob (by decide))<|hy (fun m=>aw rfl fE (aA (m.aY 0 rfl) rfl))<|hy (fun _=>ck rfl rfl (bD (by omega) (by omega)))<|hy (fun _=>bh rfl)<|hy (fun _=>aL rfl ob (by decide))<| ?_
  refine cI (cz 0 rfl rfl rfl tW rfl (by first|exact Nat.le_of_ble_eq_true rfl|simp) ?_)
  refine ai<|al (ρ' :=[(6,_),(0,_)]) ⟨rfl,rfl,trivial⟩<|ak (X' :=[_,_,_,_,_]) (S' :=[]) (fun _ m=>m)<| ?_
  refine ak (X' :=bn g {st with cj:=st.cj-1}::_) (fun w m=>(m.perm (ar [0,0,0,0,0] _ [_,_,_,_,_] _ rfl)).pack) ?_
  exact fD trivial rfl [0] rfl [] rfl ⟨rfl,rfl,rfl⟩
 ·have e:st.ez=st:=by simp only[cG.ez,if_neg h]
  rw[e]
  refine aD<| ?_
  refine ak (X' :=bn g st::_) (fun w m=>(m.perm (ar [0,0,0,0,0] _ [_,_,_,_,_] _ rfl)).pack) ?_
  exact fD trivial rfl [0] rfl [] rfl ⟨rfl,rfl,rfl⟩
theorem EY{g:Nat}{st:cG}(ht:lO st.seen≤1000000000000):cf Tryz.prog 88 [.pointer (some ⟨g,0,none⟩)] [bn g st] [] (fun v_ X_ S_=>v_=(.int .i64 (lO st.seen:Nat))∧X_=[bn g st]∧S_=[]):=by
 refine aP (N:=20) Tryz.func88 rfl rfl (by simp) fun b=> ?_
 refine bB (fun w m=>(m.perm (ar [0] _ [_] _ rfl)).unpack) ?_
 refine ah<|aj<|hy (fun _=>ab rfl)<|ai<|ag<|ah<|aj<|hy (fun _=>ab rfl)<|ai<|ag<|ah<|ah<|aj<|hy (fun _=>aa rfl)<|hy (fun _=>bh rfl)<|hy (fun _=>aL rfl gH (by decide))<|hy (fun m=>aw rfl mf (aA (m.aY 0 rfl) rfl))<| ?_
 refine hx (oF 1 rfl rfl Tryz.underlying174 (fun r10=> ?_))
 refine ai<|al (ρ' :=[(10,_),(3,_),(2,_),(0,_)]) ⟨rfl,rfl,rfl,rfl,trivial⟩<|ak (X' :=[_,_,_,_,_]) (S' :=[]) (fun _ m=>m)<|ag<|aK<| ?_
 refine fv (fun left n cur=>left.length) (fun left n cur=>[(3,.int .i64 (n:Nat))]) (fun left n cur=>[iY SV r10 st.gs (dK st.seen) (dK left) cur]) (fun left n cur=>[]) (fun left n cur=>n+lO left=lO st.seen) st.seen 0 none [(10,_),(2,_),(0,_)] ⟨rfl,rfl,rfl,trivial⟩ [0] rfl [] rfl (Nat.zero_add _) ⟨rfl,trivial⟩ (fun left n cur hI=> ?_)
 refine ah<|aj<| ?_
 refine hx (rJ 0 rfl rfl (fun h0=> ?_) (fun j p hp=> ?_))
 ·obtain rfl:left=[]:=List.map_eq_nil_iff.1 h0
  have hn:n=lO st.seen:=by simpa[lO]using hI
  subst hn
  refine hy (fun _=>au rfl rfl)<|ai<|al (ρ' :=[(12,_),(3,_),(10,_),(2,_),(0,_)]) ⟨rfl,rfl,rfl,rfl,rfl,trivial⟩<|ag<|ah<| ?_
  refine dP rfl (rfl) ?_
  refine bK<|ao<|ao<|aC<|ag<|ah<|aj<|hy (fun _=>aa rfl)<|hy (fun _=>ab rfl)<|ai<|al (ρ' :=[(2,_),(12,_),(3,_),(10,_),(0,_)]) ⟨rfl,rfl,rfl,rfl,rfl,trivial⟩<|ag<|aU<| ?_
  refine ak (fun w m=>m.uP 0 rfl) ?_
  refine ak (X' :=bn g st::_) (fun w m=>(m.perm (ar [1,0,0,0,0] _ [_,_,_,_,_] _ rfl)).pack) ?_
  exact bc trivial rfl rfl [0] rfl [] rfl ⟨rfl,rfl,rfl⟩
 ·obtain⟨k,v⟩:=p
  obtain⟨r,hr,e⟩:=vO hp
  obtain rfl:v=r.val:=e
  have ht:=qv hr
  have hlt:=(List.getElem?_eq_some_iff.1 hr).1
  simp only at ht
  refine hy (fun _=>au rfl rfl)<|ai<|al (ρ' :=[(12,_),(3,_),(10,_),(2,_),(0,_)]) ⟨rfl,rfl,rfl,rfl,rfl,trivial⟩<|ag<|ah<| ?_
  refine ib rfl (rfl) ?_
  refine aD<|ag<|aK<|ah<|aj<|hy (fun m=>pa rfl (m.DH 0 rfl))<|hy (fun _=>yV (au rfl rfl) ((rfl:_=Value.slice r.A r.n r.c)))<|hy (fun _=>ab rfl)<|ai<|al (ρ' :=[(5,_),(12,_),(3,_),(10,_),(2,_),(0,_)]) ⟨rfl,rfl,rfl,rfl,rfl,rfl,trivial⟩<|ag<|aj<|hy (fun _=>aa rfl)<|hy (fun _=>aa rfl)<|hy (fun _=>aX rfl Tryz.underlying27)<|hy (fun _=>aM rfl rfl (bD (by omega) (by omega)))<|hy (fun _=>ab rfl)<|ai<|al (ρ' :=[(3,_),(5,_),(12,_),(10,_),(2,_),(0,_)]) ⟨rfl,rfl,rfl,rfl,rfl,rfl,trivial⟩<|aT<| ?_
  refine ak (fun w m=>m.bO 0 rfl (show _=iY SV r10 st.gs (dK st.seen) (dK (left.eraseIdx j)) (some (k,r.val))from congrArg (fun q=>iY SV r10 st.gs (dK st.seen) q (some (k,r.val))) (lC left j))) ?_
  refine eZ (left.eraseIdx j) (n+r.n) (some (k,r.val)) ⟨rfl,rfl,rfl,rfl,trivial⟩ [0,0,0,0,0] rfl [] rfl (by omega) (by rw[List.length_eraseIdx,if_pos hlt];omega)
theorem o5{l:dB}(p:List UInt8):(b4 l p=none∧b4 (dK l) p=none)∨∃r,b4 l p=some r∧b4 (dK l) p=some r.val:=by
 rw[mq]
 cases b4 l p with
 |none=>exact .inl ⟨rfl,rfl⟩
 |some r=>exact .inr ⟨r,rfl,rfl⟩
def dF(st:cG)(p:List UInt8):Int:=if st.cj=0 then 6 else if b4 st.seen p=none then 4 else 0
theorem ux{g:Nat}{st:cG}{p:List UInt8}:cf Tryz.prog 158 [.pointer (some ⟨g,0,none⟩),.string (strOf p)] [bn g st] [] (fun v_ X_ S_=>v_=(.int .i64 (dF st p))∧X_=[bn g st]∧S_=[]):=by
 have hf:dF st p=dF st p:=rfl
 refine aP (N:=23) Tryz.func158 rfl rfl (by simp) fun b=> ?_
 refine bB (fun w m=>(m.perm (ar [0] _ [_] _ rfl)).unpack) ?_
 have hh:(b4 (dK st.seen) p).isSome=decide (b4 st.seen p≠none):=by
  rcases o5 (l:=st.seen) p with⟨h1,h2⟩|⟨r,h1,h2⟩ <;> simp[h1,h2]
 refine ah<|aj<|hy (fun _=>ab rfl)<|ai<|ag<|ah<|aj<|hy (fun _=>aa rfl)<|hy (fun _=>bh rfl)<|hy (fun _=>aL rfl gH (by decide))<|hy (fun m=>aw rfl mf (aA (m.aY 0 rfl) rfl))<|hy (fun _=>aa rfl)<|hy (fun m=>jV (enc:=SV) rfl rfl Tryz.underlying174 sk (jB Tryz.underlying9) (m.pM 1 rfl))<|hy (fun _=>aa rfl)<|hy (fun _=>au rfl rfl)<|hy (fun _=>yV (au rfl rfl) ((show Value.bool (b4 (dK st.seen) p).isSome= .bool (decide (b4 st.seen p≠none)) by rw[hh])))<|hy (fun _=>ab rfl)<|hy (fun _=>ab rfl)<|ai<|al (ρ' :=[(6,_),(4,_),(0,_),(1,_)]) ⟨rfl,rfl,rfl,rfl,trivial⟩<|ag<|ah<|aK<|ah<|aj<| ?_
 refine aR (X' :=bn g st::_) (fun w m=>(m.perm (ar [0,0,0,0,0] _ [_,_,_,_,_] _ rfl)).pack) ?_
 refine hy (fun _=>aa rfl)<| ?_
 refine hx (aq rfl Tryz.call87 (FW) [0] rfl [] rfl ?_)
 rintro _ _ _ ⟨rfl,rfl,rfl⟩
 refine hy (fun _=>iI rfl)<|hy (fun _=>ab rfl)<|ai<|al (ρ' :=[(16,_),(6,_),(4,_),(0,_),(1,_)]) ⟨rfl,rfl,rfl,rfl,rfl,trivial⟩<|ak (X' :=[_]) (S' :=[]) (fun _ m=>m)<|ag<| ?_
 refine cD rfl (fun h1=> ?_) (fun h1=> ?_)
 ·refine ah<|aj<|hy (fun _=>ab rfl)<|ai<|ag<|aU<|aW<|ax<| ?_
  exact bc trivial rfl rfl [0] rfl [] rfl ⟨(by rw[dF,if_pos (by omega)]),rfl,rfl⟩
 ·refine ah<|aj<|hy (fun _=>aa rfl)<|hy (fun _=>iI rfl)<|hy (fun _=>ab rfl)<|ai<|al (ρ' :=[(20,_),(16,_),(6,_),(4,_),(0,_),(1,_)]) ⟨rfl,rfl,rfl,rfl,rfl,rfl,trivial⟩<|ag<| ?_
  refine cD rfl (fun h2=> ?_) (fun h2=> ?_)
  ·refine ah<|aj<|hy (fun _=>ab rfl)<|ai<|ag<|aU<|aW<|ax<| ?_
   exact bc trivial rfl rfl [0] rfl [] rfl ⟨(by rw[dF,if_neg (by omega),if_pos (Decidable.not_not.1 h2)]),rfl,rfl⟩
  ·refine aD<|aT<|ag<|ah<|aj<|hy (fun _=>ab rfl)<|ai<|ag<|aU<| ?_
   exact bc trivial rfl rfl [0] rfl [] rfl ⟨(by rw[dF,if_neg (by omega),if_neg (fun e=>h2 (fun h=>h e))]),rfl,rfl⟩
end Go.Proofs.YtmibdabdlgmafaaGreatDoor
end
