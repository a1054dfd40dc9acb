/- Part. -/
import Derived.Test.YtmibdabdlgmafaaGreatDoorSTP1
import Derived.Test.YtmibdabdlgmafaaGreatDoorProg
import Derived.KernelRfl
import Derived.Lib.Bytealg
import Derived.Test.YtmibdabdlgmafaaGreatDoorRows
import Derived.ProofKit
import Derived.LaidMore
import Derived.OpenShut
import Derived.MakeChecks
import Derived.LaidHandle
import Derived.LaidLaws
import Derived.Lib.BytesEntry
import Derived.Lib.IndexAny
import Derived.ShutString
import Derived.ChangeOld
import Derived.SizedLaws
import Derived.ChangeSame
set_option linter.all false
section
namespace Go.Hx
open Go.Eng
def kA(n:Nat)(x:UInt32):UInt32:=.ofNat (x.toNat/2 ^ n+x.toNat % 2 ^ n*2 ^ (32-n))
theorem l0{n:Nat}(hn:n≤32)(x:UInt32):(kA n x).toNat=x.toNat/2 ^ n+x.toNat % 2 ^ n*2 ^ (32-n):=by
 rw[kA,UInt32.toNat_ofNat',Nat.mod_eq_of_lt]
 have h1:=x.toNat_lt
 have h2:2 ^ n*2 ^ (32-n)=2 ^ 32:=by rw[←Nat.pow_add];congr 1;omega
 have h3:x.toNat % 2 ^ n<2 ^ n:=Nat.mod_lt _ (Nat.two_pow_pos n)
 have h4:x.toNat/2 ^ n<2 ^ (32-n):=Nat.div_lt_of_lt_mul (by omega)
 have h5:x.toNat % 2 ^ n*2 ^ (32-n)≤(2 ^ n-1)*2 ^ (32-n):=Nat.mul_le_mul_right _ (by omega)
 have h6:(2 ^ n-1)*2 ^ (32-n)+2 ^ (32-n)=2 ^ 32:=by
  rw[←h2,Nat.sub_mul,Nat.one_mul]
  have:=Nat.le_mul_of_pos_left (2 ^ (32-n)) (Nat.two_pow_pos n)
  omega
 omega
def s6(x:UInt32):UInt32:=x/2+x % 2*2147483648
theorem wi(x:UInt32):(s6 x).toNat=x.toNat/2+x.toNat % 2*2147483648:=by
 have h1:=x.toNat_lt
 rw[s6,UInt32.toNat_add,UInt32.toNat_mul,UInt32.toNat_div,UInt32.toNat_mod]
 show(x.toNat/2+x.toNat % 2*2147483648 % 4294967296) % 4294967296=_
 have:x.toNat % 2<2:=Nat.mod_lt _ (by decide)
 omega
theorem wj(x:UInt32):kA 0 x=x:=by
 apply UInt32.toNat_inj.1
 rw[l0 (by decide)]
 simp[Nat.mod_one]
theorem vy{n:Nat}(hn:n<32)(x:UInt32):kA (n+1) x=s6 (kA n x):=by
 apply UInt32.toNat_inj.1
 rw[wi,l0 (by omega),l0 (by omega)]
 obtain⟨k,hk⟩:∃k,32-n=k+1:=⟨31-n,by omega⟩
 have hk2:32-(n+1)=k:=by omega
 rw[hk,hk2,Nat.pow_succ 2 k,Nat.pow_succ 2 n]
 have hq:x.toNat/(2 ^ n*2)=x.toNat/2 ^ n/2:=(Nat.div_div_eq_div_mul ..).symm
 have hm:x.toNat % (2 ^ n*2)=x.toNat % 2 ^ n+2 ^ n*(x.toNat/2 ^ n % 2):=Nat.mod_mul ..
 rw[hq,hm]
 generalize x.toNat/2 ^ n=q
 generalize x.toNat % 2 ^ n=m
 have h31:2 ^ n*2 ^ k=2147483648:=by rw[←Nat.pow_add,show n+k=31 by omega]
 have e1:(q+m*(2 ^ k*2))/2=q/2+m*2 ^ k:=by
  rw[show m*(2 ^ k*2)=(m*2 ^ k)*2 by rw[Nat.mul_assoc]];omega
 have e2:(q+m*(2 ^ k*2)) % 2=q % 2:=by
  rw[show m*(2 ^ k*2)=(m*2 ^ k)*2 by rw[Nat.mul_assoc]];omega
 rw[e1,e2,Nat.add_mul,Nat.mul_right_comm (2 ^ n),h31]
 omega
theorem zL{n:Nat}(h0:0<n)(hn:n<32)(x:UInt32):UInt32.ofNat (x.toNat*2 ^ (32-n)) ||| UInt32.ofNat (x.toNat/2 ^ n)=kA n x:=by
 apply UInt32.toNat_inj.1
 have h1:=x.toNat_lt
 rw[l0 (by omega),UInt32.toNat_or,UInt32.toNat_ofNat',UInt32.toNat_ofNat']
 have h2:2 ^ n*2 ^ (32-n)=2 ^ 32:=by rw[←Nat.pow_add];congr 1;omega
 have h4:x.toNat/2 ^ n<2 ^ (32-n):=Nat.div_lt_of_lt_mul (by omega)
 have h5:x.toNat/2 ^ n≤x.toNat:=Nat.div_le_self ..
 rw[Nat.mod_eq_of_lt (a:=x.toNat/2 ^ n) (by omega)]
 have h6:x.toNat*2 ^ (32-n) % 2 ^ 32=2 ^ (32-n)*(x.toNat % 2 ^ n):=by
  rw[←h2,Nat.mul_mod_mul_right,Nat.mul_comm]
 rw[h6,←Nat.two_pow_add_eq_or_of_lt h4,Nat.mul_comm,Nat.add_comm]
def gO:List UInt32:=[1116352408,1899447441,3049323471,3921009573,961987163,1508970993,2453635748,2870763221,3624381080,310598401,607225278,1426881987,1925078388,2162078206,2614888103,3248222580,3835390401,4022224774,264347078,604807628,770255983,1249150122,1555081692,1996064986,2554220882,2821834349,2952996808,3210313671,3336571891,3584528711,113926993,338241895,666307205,773529912,1294757372,1396182291,1695183700,1986661051,2177026350,2456956037,2730485921,2820302411,3259730800,3345764771,3516065817,3600352804,4094571909,275423344,430227734,506948616,659060556,883997877,958139571,1322822218,1537002063,1747873779,1955562222,2024104815,2227730452,2361852424,2428436474,2756734187,3204031479,3329325298]
def pC:List UInt32:=[1779033703,3144134277,1013904242,2773480762,1359893119,2600822924,528734635,1541459225]
def turns(a b c:Nat)(x:UInt32):UInt32:=kA a x ^^^ kA b x ^^^ kA c x
def at8(b:List UInt8)(i:Nat):Nat:=(b.getD i 0).toNat
def mE(b:List UInt8)(i:Nat):UInt32:=.ofNat (at8 b i*16777216+at8 b (i+1)*65536+at8 b (i+2)*256+at8 b (i+3))
def wp(b:List UInt8)(i:Nat):Nat→Nat
 |0=>0
 |j+1=>wp b i j*256+at8 b (i+j)
theorem mG(b:List UInt8)(i:Nat):at8 b i<256:=(b.getD i 0).toNat_lt
theorem AW(b:List UInt8)(i:Nat):∀j,wp b i j<256 ^ j
 |0=>Nat.one_pos
 |j+1=>by
  have h1:=AW b i j
  have h2:=mG b (i+j)
  rw[wp,Nat.pow_succ]
  omega
theorem AJ{b:List UInt8}{i j:Nat}(hj:j<4):(UInt32.ofNat (wp b i j)*256) ||| (b.getD (i+j) 0).toUInt32=UInt32.ofNat (wp b i (j+1)):=by
 apply UInt32.toNat_inj.1
 have h1:=AW b i j
 have h0:256 ^ j≤256 ^ 3:=Nat.pow_le_pow_right (by decide) (by omega)
 have h2:=mG b (i+j)
 have h3:wp b i j<16777216:=Nat.lt_of_lt_of_le h1 h0
 rw[UInt32.toNat_or,UInt32.toNat_mul,UInt32.toNat_ofNat',UInt8.toNat_toUInt32,UInt32.toNat_ofNat',wp]
 show(wp b i j % 4294967296*256 % 4294967296 ||| at8 b (i+j))=_
 rw[Nat.mod_eq_of_lt (a:=wp b i j) (by omega),Nat.mod_eq_of_lt (a:=wp b i j*256) (by omega),Nat.mod_eq_of_lt (a:=wp b i j*256+_) (by omega),show wp b i j*256=2 ^ 8*wp b i j by omega,Nat.two_pow_add_eq_or_of_lt (i:=8) h2]
theorem Cb(b:List UInt8)(i:Nat):wp b i 4=at8 b i*16777216+at8 b (i+1)*65536+at8 b (i+2)*256+at8 b (i+3):=by
 have e1:wp b i 1=wp b i 0*256+at8 b (i+0):=rfl
 have e2:wp b i 2=wp b i 1*256+at8 b (i+1):=rfl
 have e3:wp b i 3=wp b i 2*256+at8 b (i+2):=rfl
 have e4:wp b i 4=wp b i 3*256+at8 b (i+3):=rfl
 have e0:wp b i 0=0:=rfl
 rw[Nat.add_zero]at e1
 rw[e4,e3,e2,e1,e0]
 generalize at8 b i=p
 generalize at8 b (i+1)=q
 generalize at8 b (i+2)=r
 generalize at8 b (i+3)=s
 omega
theorem Ap(b:List UInt8)(i:Nat):UInt32.ofNat (wp b i 4)=mE b i:=congrArg UInt32.ofNat (Cb b i)
theorem vV(b:List UInt8)(i:Nat):(b.getD i 0).toUInt32*16777216+(b.getD (i+1) 0).toUInt32*65536+(b.getD (i+2) 0).toUInt32*256+(b.getD (i+3) 0).toUInt32=mE b i:=by
 apply UInt32.toNat_inj.1
 have h0:(b.getD i 0).toNat<256:=mG b i
 have h1:(b.getD (i+1) 0).toNat<256:=mG b (i+1)
 have h2:(b.getD (i+2) 0).toNat<256:=mG b (i+2)
 have h3:(b.getD (i+3) 0).toNat<256:=mG b (i+3)
 have k1:(16777216:UInt32).toNat=16777216:=rfl
 have k2:(65536:UInt32).toNat=65536:=rfl
 have k3:(256:UInt32).toNat=256:=rfl
 simp only[mE,at8,UInt32.toNat_add,UInt32.toNat_mul,UInt8.toNat_toUInt32,UInt32.toNat_ofNat',k1,k2,k3]
 generalize(b.getD i 0).toNat=p at*
 generalize(b.getD (i+1) 0).toNat=q at*
 generalize(b.getD (i+2) 0).toNat=r at*
 generalize(b.getD (i+3) 0).toNat=s at*
 omega
def Ek(x:UInt32):UInt32:=kA 7 x ^^^ kA 18 x ^^^ (x/8)
def Dt(x:UInt32):UInt32:=kA 17 x ^^^ kA 19 x ^^^ (x/1024)
def pT(w:List UInt32)(i:Nat):UInt32:=w.getD (i-16) 0+Ek (w.getD (i-15) 0)+w.getD (i-7) 0+Dt (w.getD (i-2) 0)
def wl(b:List UInt8):Nat→List UInt32
 |0=>[]
 |i+1=>wl b i++[if i<16 then mE b (4*i)else pT (wl b i) i]
theorem fy(b:List UInt8):∀i,(wl b i).length=i
 |0=>rfl
 |i+1=>by rw[wl,List.length_append,fy b i];rfl
def v_(v:List UInt32)(i:Nat):UInt32:=v.getD i 0
def rt(v:List UInt32)(k w:UInt32):UInt32:=v_ v 7+turns 6 11 25 (v_ v 4)+((v_ v 4 &&& v_ v 5) ^^^ (~~~(v_ v 4) &&& v_ v 6))+k+w
def ru(v:List UInt32):UInt32:=turns 2 13 22 (v_ v 0)+((v_ v 0 &&& v_ v 1) ^^^ (v_ v 0 &&& v_ v 2) ^^^ (v_ v 1 &&& v_ v 2))
def EG(v:List UInt32)(k w:UInt32):List UInt32:=[rt v k w+ru v,v_ v 0,v_ v 1,v_ v 2,v_ v 3+rt v k w,v_ v 4,v_ v 5,v_ v 6]
def mP(w v:List UInt32):Nat→List UInt32
 |0=>v
 |i+1=>EG (mP w v i) (gO.getD i 0) (w.getD i 0)
theorem kx{w v:List UInt32}(h:v.length=8):∀i,(mP w v i).length=8
 |0=>h
 |i+1=>rfl
def fX(v h:List UInt32)(i:Nat):List UInt32:=(List.range v.length).map fun j=>if j<i then v_ v j+v_ h j else v_ v j
def eX(h:List UInt32)(b:List UInt8):List UInt32:=fX (mP (wl b 64) h 64) h 8
theorem ji{h:List UInt32}(hl:h.length=8)(b:List UInt8):(eX h b).length=8:=by simp[eX,fX,kx hl]
theorem qq{v h:List UInt32}:fX v h 0=v:=by
 apply List.ext_getElem?
 intro i
 simp only[fX,Nat.not_lt_zero,if_false,List.getElem?_map]
 by_cases hi:i<v.length
 ·simp[hi,v_,List.getD]
 ·rw[List.getElem?_eq_none (by simpa using hi),List.getElem?_eq_none (by omega)];rfl
theorem pX{v h:List UInt32}{i:Nat}(hi:i<v.length):fX v h (i+1)=(fX v h i).set i (v_ (fX v h i) i+v_ h i):=by
 apply List.ext_getElem?
 intro j
 have e:v_ (fX v h i) i=v_ v i:=by simp[fX,v_,List.getD,hi]
 rw[e]
 by_cases hj:j<v.length
 ·by_cases hij:i=j
  ·subst hij
   simp[fX,hi]
  ·rw[List.getElem?_set_ne hij]
   simp only[fX,List.getElem?_map,List.getElem?_range hj,Option.map_some]
   congr 1
   by_cases h1:j<i
   ·rw[if_pos h1,if_pos (by omega)]
   ·rw[if_neg h1,if_neg (by omega)]
 ·rw[List.getElem?_eq_none (by simp[fX];omega),List.getElem?_eq_none (by simp[fX];omega)]
def pA:Nat→List UInt32→List UInt8→List UInt32
 |0,h,_=>h
 |n+1,h,l=>pA n (eX h (l.take 64)) (l.drop 64)
def fP(h:List UInt32)(l:List UInt8):List UInt32:=pA (l.length/64) h l
theorem oH:∀(n:Nat) (h:List UInt32) (l b:List UInt8),l.length=64*n→b.length=64→pA (n+1) h (l++b)=eX (pA n h l) b
 |0,h,l,b,hl,hb=>by
  obtain rfl:=List.eq_nil_of_length_eq_zero hl
  simp only[pA,List.nil_append]
  rw[List.take_of_length_le (by omega)]
 |n+1,h,l,b,hl,hb=>by
  have h1:(l++b).take 64=l.take 64:=by rw[List.take_append_of_le_length (by omega)]
  have h2:(l++b).drop 64=l.drop 64++b:=by rw[List.drop_append_of_le_length (by omega)]
  rw[pA,h1,h2,oH n _ (l.drop 64) b (by rw[List.length_drop];omega) hb]
  rfl
theorem o3{h:List UInt32}{l b:List UInt8}(hl:l.length % 64=0)(hb:b.length=64):fP h (l++b)=eX (fP h l) b:=by
 unfold fP
 rw[List.length_append,hb,show(l.length+64)/64=l.length/64+1 by omega]
 exact oH _ h l b (by omega) hb
theorem lW:∀(n:Nat) (h:List UInt32) (l:List UInt8),h.length=8→(pA n h l).length=8
 |0,h,l,hl=>hl
 |n+1,h,l,hl=>lW n _ _ (ji hl _)
theorem lQ{h:List UInt32}(l:List UInt8)(hl:h.length=8):(fP h l).length=8:=lW _ _ _ hl
def y0(x:UInt32):List UInt8:=[.ofNat (x/16777216).toNat,.ofNat (x/65536).toNat,.ofNat (x/256).toNat,.ofNat x.toNat]
def eV(h:List UInt32):List UInt8:=h.flatMap y0
def rC(n:Nat):List UInt8:=(List.range 8).map fun i=>.ofNat (n/256 ^ (7-i))
def iC(n:Nat):Nat:=(119-n % 64) % 64
def jo(b:List UInt8):List UInt8:=b++(128::List.replicate (iC b.length) 0)++rC (8*b.length)
theorem nv(b:List UInt8):(jo b).length % 64=0:=by
 simp only[jo,List.length_append,List.length_cons,List.length_replicate,rC,List.length_map,List.length_range,iC]
 omega
def bF(b:List UInt8):List UInt8:=eV (fP pC (jo b))
theorem l8{h:List UInt32}(hl:h.length=8):(eV h).length=32:=by
 match h,hl with
 | [a,b,c,d,e,f,g,i],_=>rfl
theorem bC(b:List UInt8):(bF b).length=32:=l8 (lQ _ rfl)
end Go.Hx
end
section
namespace Go.Proofs.YtmibdabdlgmafaaGreatDoor
open Go.Eng
theorem eY:dL Tryz.prog 3=some false:=by kernel_rfl
theorem tf:fM Tryz.prog 3=some 1:=by kernel_rfl
theorem CZ:TI Tryz.prog 3 (.int .i64 0) 1 8:=by unfold TI;kernel_rfl
theorem DB:dL Tryz.prog 4=some false:=by kernel_rfl
theorem Bz:fM Tryz.prog 4=some 1:=by kernel_rfl
theorem iN:dL Tryz.prog 5=some false:=by kernel_rfl
theorem eg:fM Tryz.prog 5=some 1:=by kernel_rfl
theorem eO:TI Tryz.prog 5 (.int .u8 0) 1 1:=by unfold TI;kernel_rfl
theorem gU:dL Tryz.prog 9=some false:=by kernel_rfl
theorem yB:fM Tryz.prog 9=some 1:=by kernel_rfl
theorem CW:TI Tryz.prog 9 (.string ⟨#[]⟩) 1 16:=by unfold TI;kernel_rfl
theorem dY:dL Tryz.prog 27=some false:=by kernel_rfl
theorem nM:fM Tryz.prog 27=some 1:=by kernel_rfl
theorem rH:TI Tryz.prog 27 (.slice none 0 0) 1 24:=by unfold TI;kernel_rfl
theorem xe:dL Tryz.prog 28=some false:=by kernel_rfl
theorem Ey:fM Tryz.prog 28=some 1:=by kernel_rfl
theorem Ev:dL Tryz.prog 30=some true:=by kernel_rfl
theorem DA:fM Tryz.prog 30=some 5:=by kernel_rfl
theorem Ch:jB Tryz.prog 30 0=some (0,1,3):=by kernel_rfl
theorem qy:jB Tryz.prog 30 1=some (1,1,3):=by kernel_rfl
theorem ky:jB Tryz.prog 30 2=some (2,1,3):=by kernel_rfl
theorem Cf:jB Tryz.prog 30 3=some (3,1,27):=by kernel_rfl
theorem yP:jB Tryz.prog 30 4=some (4,1,28):=by kernel_rfl
theorem ia:dL Tryz.prog 35=some false:=by kernel_rfl
theorem j1:dL Tryz.prog 36=some false:=by kernel_rfl
theorem tX:fM Tryz.prog 36=some 1:=by kernel_rfl
theorem AI:dL Tryz.prog 37=some false:=by kernel_rfl
theorem BC:fM Tryz.prog 37=some 1:=by kernel_rfl
theorem ca:dL Tryz.prog 39=some true:=by kernel_rfl
theorem bf:fM Tryz.prog 39=some 5:=by kernel_rfl
theorem fN:TI Tryz.prog 39 (.agg (([.int .i64 0])++([.slice none 0 0])++([.slice none 0 0])++([.slice none 0 0])++([.int .i64 0]):List Value).toArray) 5 88:=by unfold TI;kernel_rfl
theorem xO:jB Tryz.prog 39 0=some (0,1,3):=by kernel_rfl
theorem fl:jB Tryz.prog 39 1=some (1,1,36):=by kernel_rfl
theorem jj:jB Tryz.prog 39 2=some (2,1,36):=by kernel_rfl
theorem lL:jB Tryz.prog 39 3=some (3,1,37):=by kernel_rfl
theorem gL:jB Tryz.prog 39 4=some (4,1,3):=by kernel_rfl
theorem EA:TI Tryz.prog 41 (.agg (([.pointer none])++(([.int .i64 0])++([.slice none 0 0])++([.slice none 0 0])++([.slice none 0 0])++([.int .i64 0])):List Value).toArray) 6 96:=by unfold TI;kernel_rfl
theorem eZ:jB Tryz.prog 41 0=some (0,1,35):=by kernel_rfl
theorem CB:rD Tryz.prog 41 0=some (0,1):=by kernel_rfl
theorem ek:jB Tryz.prog 41 1=some (1,5,39):=by kernel_rfl
theorem CA:rD Tryz.prog 41 1=some (1,5):=by kernel_rfl
theorem Bu:TI Tryz.prog 44 (.slice none 0 0) 1 24:=by unfold TI;kernel_rfl
theorem lh:dL Tryz.prog 47=some false:=by kernel_rfl
theorem vO:fM Tryz.prog 47=some 1:=by kernel_rfl
theorem Eh:TI Tryz.prog 47 (.int .i64 0) 1 8:=by unfold TI;kernel_rfl
theorem ct:dL Tryz.prog 53=some true:=by kernel_rfl
theorem bn:fM Tryz.prog 53=some 32:=by kernel_rfl
theorem cX:TI Tryz.prog 53 (.agg (aZ (List.replicate 32 0):List Value).toArray) 32 32:=by unfold TI;kernel_rfl
theorem uR{l:List UInt8}(h:l.length=32):Tryz.prog.keyLits 2 53 (aZ l)=some (l.map fun b=>Lit.int .u8 (b.toNat:Int)):=jT (D:=0) Tryz.underlying53 Tryz.underlying5 (by kernel_rfl) (by kernel_rfl) h
theorem rp{N:Nat}{D:List Deferred}{ρ:Env}{w:World}{ty t' :TypeId}{x y:Operand}{l m:List UInt8}(hx:ev ρ x=some (.agg (aZ l).toArray))(hy:ev ρ y=some (.agg (aZ m).toArray))(hl:l.length=32)(hm:m.length=32):Yl Tryz.prog N D ρ w (.binOp .eql 53 x y t') ty (.bool (decide (l=m))):=
 Dw (m:=5) hx hy (by decide) (by kernel_rfl) (by kernel_rfl) ct (by rw[aF,hl];kernel_rfl) (by rw[aF,hm];kernel_rfl) (uR hl) (uR hm) kc
theorem qU{N:Nat}{D:List Deferred}{ρ:Env}{w:World}{ty t' :TypeId}{x y:Operand}{l m:List UInt8}(hx:ev ρ x=some (.agg (aZ l).toArray))(hy:ev ρ y=some (.agg (aZ m).toArray))(hl:l.length=32)(hm:m.length=32):Yl Tryz.prog N D ρ w (.binOp .neq 53 x y t') ty (.bool (decide (¬l=m))):=
 D5 (m:=5) hx hy (by decide) (by kernel_rfl) (by kernel_rfl) ct (by rw[aF,hl];kernel_rfl) (by rw[aF,hm];kernel_rfl) (uR hl) (uR hm) kc
theorem p4:dL Tryz.prog 156=some true:=by kernel_rfl
theorem dZ:fM Tryz.prog 156=some 2:=by kernel_rfl
theorem iY:TI Tryz.prog 156 (.agg (([.string ⟨#[]⟩])++([.string ⟨#[]⟩]):List Value).toArray) 2 32:=by unfold TI;kernel_rfl
theorem dB:jB Tryz.prog 156 0=some (0,1,9):=by kernel_rfl
theorem nX:jB Tryz.prog 156 1=some (1,1,9):=by kernel_rfl
theorem bW:dL Tryz.prog 166=some false:=by kernel_rfl
theorem bN:fM Tryz.prog 166=some 1:=by kernel_rfl
theorem m9:TI Tryz.prog 166 (.int .u32 0) 1 4:=by unfold TI;kernel_rfl
theorem iU:dL Tryz.prog 174=some false:=by kernel_rfl
theorem Bc:fM Tryz.prog 174=some 1:=by kernel_rfl
theorem r3:dL Tryz.prog 175=some false:=by kernel_rfl
theorem rF:fM Tryz.prog 175=some 1:=by kernel_rfl
theorem C4:TI Tryz.prog 177 (.agg (([.int .i64 0])++([.map none])++([.map none])++([.slice none 0 0])++([.int .i64 0]):List Value).toArray) 5 56:=by unfold TI;kernel_rfl
theorem AA:jB Tryz.prog 177 0=some (0,1,3):=by kernel_rfl
theorem gp:jB Tryz.prog 177 1=some (1,1,174):=by kernel_rfl
theorem kM:jB Tryz.prog 177 2=some (2,1,174):=by kernel_rfl
theorem gy:jB Tryz.prog 177 3=some (3,1,175):=by kernel_rfl
theorem kN:jB Tryz.prog 177 4=some (4,1,3):=by kernel_rfl
theorem pg:dL Tryz.prog 186=some true:=by kernel_rfl
theorem lU:fM Tryz.prog 186=some 4:=by kernel_rfl
theorem nH:TI Tryz.prog 186 (.agg (([.int .i64 0])++([.string ⟨#[]⟩])++([.string ⟨#[]⟩])++([.string ⟨#[]⟩]):List Value).toArray) 4 56:=by unfold TI;kernel_rfl
theorem qW:jB Tryz.prog 186 0=some (0,1,3):=by kernel_rfl
theorem nY:jB Tryz.prog 186 1=some (1,1,9):=by kernel_rfl
theorem zD:jB Tryz.prog 186 2=some (2,1,9):=by kernel_rfl
theorem jL:jB Tryz.prog 186 3=some (3,1,9):=by kernel_rfl
theorem Bj:dL Tryz.prog 189=some true:=by kernel_rfl
theorem xQ:fM Tryz.prog 189=some 2:=by kernel_rfl
theorem Bk:TI Tryz.prog 189 (.agg (([.string ⟨#[]⟩])++([.slice none 0 0]):List Value).toArray) 2 40:=by unfold TI;kernel_rfl
theorem z7:jB Tryz.prog 189 0=some (0,1,9):=by kernel_rfl
theorem nR:jB Tryz.prog 189 1=some (1,1,27):=by kernel_rfl
theorem C9:dL Tryz.prog 232=some false:=by kernel_rfl
theorem Eb:fM Tryz.prog 232=some 1:=by kernel_rfl
theorem qf:TI Tryz.prog 232 (.nilIface) 1 16:=by unfold TI;kernel_rfl
theorem Di:TI Tryz.prog 237 (.agg (([.string ⟨#[]⟩]):List Value).toArray) 1 16:=by unfold TI;kernel_rfl
theorem y9:jB Tryz.prog 237 0=some (0,1,9):=by kernel_rfl
theorem C6:TI Tryz.prog 257 (.agg (([.string ⟨#[]⟩])++([.string ⟨#[]⟩]):List Value).toArray) 2 32:=by unfold TI;kernel_rfl
theorem qz:jB Tryz.prog 257 0=some (0,1,9):=by kernel_rfl
theorem zr:jB Tryz.prog 257 1=some (1,1,9):=by kernel_rfl
theorem Bm:fM Tryz.prog 288=some 1:=by kernel_rfl
theorem uq:TI Tryz.prog 288 (.agg (([.int .i64 0]):List Value).toArray) 1 8:=by unfold TI;kernel_rfl
theorem zk:jB Tryz.prog 288 0=some (0,1,47):=by kernel_rfl
theorem pS:dL Tryz.prog 295=some true:=by kernel_rfl
theorem jy:fM Tryz.prog 295=some 3:=by kernel_rfl
theorem nt:TI Tryz.prog 295 (.agg (([.slice none 0 0])++([.int .i64 0])++([.int .i64 0]):List Value).toArray) 3 40:=by unfold TI;kernel_rfl
theorem AQ:jB Tryz.prog 295 0=some (0,1,27):=by kernel_rfl
theorem AR:jB Tryz.prog 295 2=some (2,1,47):=by kernel_rfl
theorem uX:dL Tryz.prog 298=some true:=by kernel_rfl
theorem lx:fM Tryz.prog 298=some 2:=by kernel_rfl
theorem p7:TI Tryz.prog 298 (.agg (([.int .i64 0])++([.int .i64 0]):List Value).toArray) 2 16:=by unfold TI;kernel_rfl
theorem kO:jB Tryz.prog 298 0=some (0,1,3):=by kernel_rfl
theorem ui:jB Tryz.prog 298 1=some (1,1,3):=by kernel_rfl
theorem qe:dL Tryz.prog 306=some true:=by kernel_rfl
theorem lu:fM Tryz.prog 306=some 8:=by kernel_rfl
theorem uL:TI Tryz.prog 306 (.agg ((List.replicate 8 ([.int .u32 0])).flatten:List Value).toArray) 8 32:=by unfold TI;kernel_rfl
theorem AY:TI Tryz.prog 308 (.agg (((List.replicate 8 ([.int .u32 0])).flatten)++([.int .i64 0])++([.slice none 0 0]):List Value).toArray) 10 64:=by unfold TI;kernel_rfl
theorem n7:jB Tryz.prog 308 0=some (0,8,306):=by kernel_rfl
theorem mA:jB Tryz.prog 308 1=some (8,1,3):=by kernel_rfl
theorem jW:jB Tryz.prog 308 2=some (9,1,27):=by kernel_rfl
theorem nG:dL Tryz.prog 322=some false:=by kernel_rfl
theorem Ba:dL Tryz.prog 354=some true:=by kernel_rfl
theorem uw:fM Tryz.prog 354=some 64:=by kernel_rfl
theorem xw:TI Tryz.prog 354 (.agg ((List.replicate 64 ([.int .u32 0])).flatten:List Value).toArray) 64 256:=by unfold TI;kernel_rfl
theorem wJ:dL Tryz.prog 357=some false:=by kernel_rfl
theorem C3:TI Tryz.prog 359 (.agg (([.slice none 0 0])++([.map none])++([.int .i64 0]):List Value).toArray) 3 40:=by unfold TI;kernel_rfl
theorem jO:jB Tryz.prog 359 0=some (0,1,27):=by kernel_rfl
theorem qX:jB Tryz.prog 359 1=some (1,1,357):=by kernel_rfl
theorem hZ:jB Tryz.prog 359 2=some (2,1,3):=by kernel_rfl
theorem uJ:dL Tryz.prog 364=some true:=by kernel_rfl
theorem rZ:fM Tryz.prog 364=some 4:=by kernel_rfl
theorem DK:TI Tryz.prog 364 (.agg (aZ (List.replicate 4 0):List Value).toArray) 4 4:=by unfold TI;kernel_rfl
end Go.Proofs.YtmibdabdlgmafaaGreatDoor
end
section
namespace Go.Hx
open Go.Eng
def lV(x:Nat):Nat:=if x % 2=1 then(x/2) ^^^ 2197175160 else x/2
theorem xz{x:Nat}(h:x<4294967296):lV x<4294967296:=by
 unfold lV
 split
 ·exact Nat.xor_lt_two_pow (n:=32) (by omega) (by decide)
 ·omega
def fW:Nat→Nat→Nat
 |0,x=>x
 |n+1,x=>lV (fW n x)
theorem kZ{x:Nat}(h:x<4294967296):∀n,fW n x<4294967296
 |0=>h
 |n+1=>xz (kZ h n)
def j0(n:Nat)(l:List UInt8):Nat:=l.foldl (fun n b=>fW 8 (n ^^^ b.toNat)) n
theorem mf{n:Nat}(h:n<4294967296):∀l:List UInt8,j0 n l<4294967296:=by
 intro l
 induction l generalizing n with
 |nil=>exact h
 |cons a r ih=>exact ih (kZ (Nat.xor_lt_two_pow (n:=32) h (by have:=a.toNat_lt;omega)) 8)
theorem oW(n:Nat)(l:List UInt8)(b:UInt8):j0 n (l++[b])=fW 8 (j0 n l ^^^ b.toNat):=by simp[j0]
theorem s9{m:Nat}(h:m<4294967296):4294967295 ^^^ m=4294967295-m:=by
 have h1:(BitVec.allOnes 32 ^^^ BitVec.ofNat 32 m)= ~~~ BitVec.ofNat 32 m:=BitVec.allOnes_xor
 have h2:=congrArg BitVec.toNat h1
 rw[BitVec.toNat_xor,BitVec.toNat_not,BitVec.toNat_allOnes,BitVec.toNat_ofNat,Nat.mod_eq_of_lt h]at h2
 exact h2
def cV(l:List UInt8):Nat:=4294967295-j0 4294967295 l
theorem jk(l:List UInt8):cV l<4294967296:=by unfold cV;omega
def gz(n:Nat):List UInt8:=[UInt8.ofNat n,UInt8.ofNat (n/256),UInt8.ofNat (n/65536),UInt8.ofNat (n/16777216)]
def qE:Nat→Nat→Nat
 |0,n=>n
 |k+1,n=>qE k n/256
def BA(k n:Nat):List UInt8:=(List.range k).map fun i=>UInt8.ofNat (qE i n)
theorem x9(k n:Nat):BA (k+1) n=BA k n++[UInt8.ofNat (qE k n)]:=by simp[BA,List.range_succ]
theorem yD(n:Nat):BA 4 n=gz n:=by
 simp only[BA,List.range_succ,List.range_zero,List.nil_append,List.cons_append,List.map_cons,List.map_nil,qE,gz,Nat.div_div_eq_div_mul]
theorem uB{n b:Nat}(h:n<b):∀k,qE k n<b
 |0=>h
 |k+1=>by have:=uB h k;simp only[qE];omega
theorem fk(n:Nat):(gz n).length=4:=rfl
def xf(l:List UInt8):List UInt8:=l++gz (cV l)
theorem vI(x:Nat)(h:x<4294967296):(x/2) ^^^ (2197175160*(x % 2))=lV x:=by
 unfold lV
 split
 ·rename_i h1;rw[h1]
 ·rename_i h1
  have:x % 2=0:=by omega
  rw[this];simp
theorem gV(n:Nat):IntKind.u8.wrap (n:Int)=((UInt8.ofNat n).toNat:Int):=by
 simp[IntKind.wrap,IntKind.signed,IntKind.bits]
theorem EE(x:Nat)(h:x<4294967296):bits .and .u32 (x:Int) 1=((x % 2:Nat):Int):=by
 have:=u32_and_nat x 1 h (by decide)
 rw[Nat.and_one_is_mod]at this
 exact this
theorem xv(x:Nat)(h:x<4294967296):bits .xor .u32 ((x:Int)/2) (2197175160*((x % 2:Nat):Int))=((lV x:Nat):Int):=by
 have h2:x % 2=0∨x % 2=1:=by omega
 have h3:2197175160*(x % 2)<4294967296:=by rcases h2 with h2|h2 <;> rw[h2] <;> decide
 have:=u32_xor_nat (x/2) (2197175160*(x % 2)) (by omega) h3
 rw[vI x h]at this
 rw[←this]
 congr 1
theorem s3(x:Nat)(h:x<4294967296)(b:UInt8):bits .xor .u32 (x:Int) (b.toNat:Int)=((x ^^^ b.toNat:Nat):Int):=u32_xor_nat x b.toNat h (by have:=b.toNat_lt;omega)
theorem xH(x:Nat)(h:x<4294967296):bits .xor .u32 ((x:Int)/2) 2197175160=(((x/2) ^^^ 2197175160:Nat):Int):=u32_xor_nat (x/2) 2197175160 (by omega) (by decide)
theorem nC{x:Nat}(h:x<4294967296)(b:UInt8):x ^^^ b.toNat<4294967296:=Nat.xor_lt_two_pow (n:=32) h (by have:=b.toNat_lt;omega)
end Go.Hx
end
section
namespace Go.Hx
open Go.Eng
def jU:List UInt8:=[48,49,50,51,52,53,54,55,56,57,97,98,99,100,101,102]
def pj(b:UInt8):List UInt8:=[jU.getD (b.toNat/16) 0,jU.getD (b.toNat % 16) 0]
def b9(l:List UInt8):List UInt8:=l.flatMap pj
theorem dh(l:List UInt8):(b9 l).length=2*l.length:=by
 induction l with
 |nil=>rfl
 |cons a r ih=>simp only[b9,List.flatMap_cons,List.length_append,List.length_cons]at ih ⊢;rw[ih];simp[pj];omega
theorem sD(l m:List UInt8):b9 (l++m)=b9 l++b9 m:=by simp[b9]
theorem dX{l:List UInt8}{k:Nat}(h:k<l.length):l.take (k+1)=l.take k++[l.getD k 0]:=by
 rw[List.take_succ_eq_append_getElem h];simp[List.getD,List.getElem?_eq_getElem h]
theorem ql{l:List UInt8}{k:Nat}(h:k<l.length):b9 (l.take (k+1))=b9 (l.take k)++pj (l.getD k 0):=by
 rw[dX h,sD];simp[b9]
theorem sX(j:Nat)(h:j<16):((bytesOf ⟨#[48,49,50,51,52,53,54,55,56,57,97,98,99,100,101,102]⟩).take (j+1)).drop j=[jU.getD j 0]:=by
 revert j;decide
theorem vr{l:List UInt8}{k:Nat}(h:k<l.length):strOf (b9 (l.take k))++strOf (((bytesOf ⟨#[48,49,50,51,52,53,54,55,56,57,97,98,99,100,101,102]⟩).take ((l.getD k 0).toNat/16+1)).drop ((l.getD k 0).toNat/16))++
  strOf (((bytesOf ⟨#[48,49,50,51,52,53,54,55,56,57,97,98,99,100,101,102]⟩).take ((l.getD k 0).toNat % 16+1)).drop ((l.getD k 0).toNat % 16))=strOf (b9 (l.take (k+1))):=by
 have hb:=(l.getD k 0).toNat_lt
 rw[sX _ (by omega),sX _ (by omega),bQ,bQ,ql h]
 simp[pj]
theorem uo(i:Int)(h0:0≤i)(h:i<16):(#[48,49,50,51,52,53,54,55,56,57,97,98,99,100,101,102]:Array UInt8)[i.toNat]? =some (jU.getD i.toNat 0):=by
 have:i.toNat<16:=by omega
 generalize i.toNat=j at this
 revert j
 decide
theorem Ak(x:UInt8):(#[48,49,50,51,52,53,54,55,56,57,97,98,99,100,101,102]:Array UInt8)[((x.toNat:Int)/16).toNat]? =some (jU.getD (x.toNat/16) 0):=by
 have h:=x.toNat_lt
 rw[uo _ (by omega) (by omega)]
 rfl
theorem zG(x:UInt8):(#[48,49,50,51,52,53,54,55,56,57,97,98,99,100,101,102]:Array UInt8)[((x.toNat % 16:Nat):Int).toNat]? =some (jU.getD (x.toNat % 16) 0):=by
 rw[uo _ (by omega) (by omega)]
 rfl
theorem Db(x:UInt8):bits .and .u8 (x.toNat:Int) 15=((x.toNat % 16:Nat):Int):=by
 have:=u8_and_nat x.toNat 15 (by have:=x.toNat_lt;omega) (by decide)
 rw[show((15:Nat):Int)=15 from rfl]at this
 rw[this]
 congr 1
 exact Nat.and_two_pow_sub_one_eq_mod x.toNat 4
end Go.Hx
end
section
namespace Go.Hx
open Go.Eng
def j3(c:UInt8):Int:=if 48≤c.toNat∧c.toNat≤57 then(c.toNat:Int)-48 else if 97≤c.toNat∧c.toNat≤102 then(c.toNat:Int)-87 else-1
theorem iv(c:UInt8):-1≤j3 c∧j3 c≤15:=by unfold j3;split <;> (try split) <;> omega
def unhex:List UInt8→Option (List UInt8)
 | []=>some []
 | [_]=>none
 |a::b::r=>if j3 a<0∨j3 b<0 then none else(unhex r).map (UInt8.ofNat (16*(j3 a).toNat+(j3 b).toNat)::·)
theorem lJ:∀(l:List UInt8) (n:Nat) (a b:UInt8) (x:List UInt8),l.length=2*n→unhex l=some x→unhex (l++[a,b])=if j3 a<0∨j3 b<0 then none else some (x++[UInt8.ofNat (16*(j3 a).toNat+(j3 b).toNat)])
 | [],n,a,b,x,_,h=>by
  simp only[unhex,Option.some.injEq]at h
  subst h
  simp[unhex]
 | [c],n,a,b,x,hl,h=>by simp at hl;omega
 |c::d::r,n,a,b,x,hl,h=>by
  simp only[unhex]at h
  simp only[List.cons_append,unhex]
  split at h
  ·cases h
  ·rename_i hcd
   rw[if_neg hcd]
   simp only[Option.map_eq_some_iff]at h
   obtain⟨y,hy,rfl⟩:=h
   rw[lJ r (n-1) a b y (by simp at hl;omega) hy]
   split <;> simp
theorem fJ:∀(l m:List UInt8) (n:Nat),l.length=2*n→unhex l=none→unhex (l++m)=none
 | [],m,n,_,h=>by simp[unhex]at h
 | [c],m,n,hl,h=>by simp at hl;omega
 |c::d::r,m,n,hl,h=>by
  simp only[unhex]at h
  simp only[List.cons_append,unhex]
  split at h
  ·rename_i hcd;rw[if_pos hcd]
  ·rename_i hcd
   rw[if_neg hcd]
   simp only[Option.map_eq_none_iff]at h
   rw[fJ r m (n-1) (by simp at hl;omega) h]
   rfl
theorem mR:∀(l:List UInt8),l.length % 2=1→unhex l=none
 | [],h=>by simp at h
 | [_],_=>rfl
 |a::b::r,h=>by
  simp only[unhex]
  split
  ·rfl
  ·rw[mR r (by simp at h;omega)];rfl
theorem fI:∀(l x:List UInt8),unhex l=some x→l.length=2*x.length
 | [],x,h=>by simp[unhex]at h;subst h;rfl
 | [_],x,h=>by simp[unhex]at h
 |a::b::r,x,h=>by
  simp only[unhex]at h
  split at h
  ·cases h
  ·simp only[Option.map_eq_some_iff]at h
   obtain⟨y,hy,rfl⟩:=h
   have:=fI r y hy
   simp;omega
theorem rM(k:Nat)(h:k<16):j3 (jU.getD k 0)=k:=by
 revert k;decide
theorem oB:∀(l:List UInt8),unhex (b9 l)=some l
 | []=>rfl
 |a::r=>by
  have ih:=oB r
  have ha:=a.toNat_lt
  have h1:=rM (a.toNat/16) (by omega)
  have h2:=rM (a.toNat % 16) (by omega)
  have e:b9 (a::r)=jU.getD (a.toNat/16) 0::jU.getD (a.toNat % 16) 0::b9 r:=by simp[b9,pj]
  rw[e,unhex,h1,h2,if_neg (by omega),ih]
  simp only[Option.map_some,Int.toNat_natCast]
  congr 2
  have e2:16*(a.toNat/16)+a.toNat % 16=a.toNat:=by omega
  rw[e2]
  simp
theorem wB(a b:UInt8)(ha:0≤j3 a)(hb:0≤j3 b):16*j3 a+j3 b=((UInt8.ofNat (16*(j3 a).toNat+(j3 b).toNat)).toNat:Int):=by
 have h1:=iv a
 have h2:=iv b
 rw[UInt8.toNat_ofNat',Nat.mod_eq_of_lt (by omega)]
 omega
theorem rP{l:List UInt8}{k:Nat}(h:2*k+1<l.length):l.take (2*(k+1))=l.take (2*k)++[l.getD (2*k) 0,l.getD (2*k+1) 0]:=by
 have e:2*(k+1)=2*k+1+1:=by omega
 rw[e,dX h,dX (by omega)]
 simp
theorem o8(c:UInt8):Lib.indexByte jU c=j3 c:=by
 have h:∀n,n<256→Lib.indexByte jU (UInt8.ofNat n)=j3 (UInt8.ofNat n):=by decide+kernel
 have:=h c.toNat c.toNat_lt
 rwa [UInt8.ofNat_toNat]at this
theorem BS(a b:Int)(ha:0≤a)(ha' :a<16)(hb:0≤b)(hb' :b<16):bits .or .i64 (a*16) b=16*a+b:=by
 have h:∀n,n<16→∀m,m<16→bits .or .i64 (((n:Nat):Int)*16) ((m:Nat):Int)=16*((n:Nat):Int)+((m:Nat):Int):=by decide+kernel
 have:=h a.toNat (by omega) b.toNat (by omega)
 rwa [Int.toNat_of_nonneg ha,Int.toNat_of_nonneg hb]at this
end Go.Hx
end
section
set_option maxRecDepth 20000
namespace Go.Proofs.YtmibdabdlgmafaaGreatDoor
open Go.Eng Go.Hx
theorem zm(g:Nat)(bt:TypeId)(x:Nat)(hx:x<4294967296)(w:World)(hb:eU w g bt [.int .u32 (x:Int)]):
  Calls Tryz.prog 298 #[.pointer (some ⟨g,0,none⟩)] w fun e w' =>e= .returned (.tuple #[])∧Fr (fun i=>i=g) w w' ∧eU w' g bt [.int .u32 (lV x:Nat)]:=by
 have hc:w.cell? ⟨g,0,none⟩=some (.int .u32 (x:Int)):=hb.cell rfl
 have h3:(0:Int)≤2197175160*((x % 2:Nat):Int)∧2197175160*((x % 2:Nat):Int)<4294967296:=by omega
 refine enter (N:=9) Tryz.func298 rfl rfl (by simp) ?_
 refine aS<|a8<|nq (ar rfl bW hc)<|nq (gR (by simp) rfl rfl (EE x hx))<|nq (ab rfl)<|a7<|bx (ae (t:=1) rfl<|ae (t:=0) rfl<|aA)<|aE<|a8<|nq (ar rfl bW hc)<|nq (ny (p:=2) rfl rfl (by decide) (by decide) (by decide))<|nq (aa rfl)<|nq (fD rfl rfl (uY h3.1 h3.2))<|nq (gR (by simp) rfl rfl (xv x hx))<| ?_
 refine yY (ux rfl rfl bN rfl hb (by simp) fun w1 hf1 hb1 hs1=> ?_)
 refine a7<|bx (ae (t:=1) rfl<|ae (t:=0) rfl<|aA)<| ?_
 exact DZ trivial rfl ⟨rfl,hf1,hb1⟩
theorem yA(x n:Nat)(hx:x<4294967296)(hn:n≤1000000)(w:World):
  Calls Tryz.prog 273 #[.int .u32 (x:Int),.int .i64 (n:Int)] w fun e w' =>e= .returned (.int .u32 (fW n x:Nat))∧Fr No w w' :=by
 refine enter (N:=14) Tryz.func273 rfl rfl (by simp) ?_
 refine aS<|a8<| ?_
 refine nx (oZ rfl fun g w1 hg hf1 hb1=> ?_)
 refine nq (ab rfl)<|a7<|aE<|aS<|a8<|nq (gA rfl rfl)<|nq (ab rfl)<|a7<|bx (ae (t:=5) rfl<|ae (t:=4) rfl<|ae (t:=2) rfl<|ae (t:=0) rfl<|ae (t:=1) rfl<|aA)<|aE<|aS<|aS<|a8<|nq (aa rfl)<|nq (aa rfl)<|a7<|aE<|cR<| ?_
 refine kl (fun k=>n-k) (fun k=>[(2,.pointer (some ⟨g,0,none⟩)),(5,.func (.func 298) #[] #[.pointer (some ⟨g,0,none⟩)]),(7,.int .i64 (n:Int)),(8,.int .i64 (k:Nat))]) (fun k w' =>k≤n∧Fr No w w' ∧eU w' g 166 [.int .u32 (fW k x:Nat)]) 0 (⟨Nat.zero_le _,hf1,hb1⟩) (ae (t:=2) rfl<|ae (t:=5) rfl<|ae (t:=7) rfl<|ae (t:=8) rfl<|aA) (fun k w2 ⟨hk,hf2,hb2⟩=> ?_)
 refine aS<|a8<|nq (br rfl rfl)<|a7<|aE<|aS<| ?_
 refine ma rfl (fun h=> ?_) (fun h=> ?_)
 ·refine dA<|aE<|aS<|cR<|a8<|nq (aa rfl)<| ?_
  refine nx (vj rfl rfl Tryz.call298 (first:=[]) (cap:=[_]) (zm g _ _ (kZ hx k) _ hb2) ?_)
  rintro e_ w3 ⟨rfl,hf3,hb3⟩
  refine⟨_,rfl, ?_⟩
  refine a7<|bx (ae (t:=9) rfl<|ae (t:=2) rfl<|ae (t:=5) rfl<|ae (t:=7) rfl<|ae (t:=8) rfl<|aA)<|fb<|aE<|a8<|nq (aJ rfl rfl (bA (by omega) (by omega)))<|nq (aa rfl)<|a7<|bx (ae (t:=8) rfl<|ae (t:=9) rfl<|ae (t:=2) rfl<|ae (t:=5) rfl<|ae (t:=7) rfl<|aA)<| ?_
  refine kF (k+1) (ae (t:=2) rfl<|ae (t:=5) rfl<|ae (t:=7) rfl<|ae (t:=8) rfl<|aA) (⟨by omega,hf2.new hf3 (fun i hi=>by omega),hb3⟩) (by omega)
 ·obtain rfl:k=n:=by omega
  refine iW<|bO<|bO<|cP<|aE<|aS<|a8<|nq (ar rfl bW ((hb2.cell rfl)))<|nq (ab rfl)<|a7<|bx (ae (t:=4) rfl<|ae (t:=9) rfl<|ae (t:=2) rfl<|ae (t:=5) rfl<|ae (t:=7) rfl<|ae (t:=8) rfl<|aA)<|aE<|dI<| ?_
  exact eT trivial rfl rfl ⟨rfl,hf2⟩
theorem zH(A:Option Addr)(n c:Nat)(l:List UInt8)(s:Nat)(hs:s<4294967296)(w:World)(hr:Rd w 1 A n (aZ l))(hn:n≤140737488351232):
  Calls Tryz.prog 232 #[.int .u32 (s:Int),.slice A n c] w fun e w' =>e= .returned (.int .u32 (4294967295-j0 (4294967295-s) l:Nat))∧Fr No w w' :=by
 have hl:l.length=n:=by have:=hr.1;rw[aF]at this;omega
 refine enter (N:=25) Tryz.func232 rfl rfl (by simp) ?_
 refine aS<|a8<|nq (ab rfl)<|a7<|aE<|aS<|a8<|nq (aa rfl)<|nq (yV (qJ rfl hs) (congrArg (fun n:Nat=>Value.int .u32 (n:Int)) (s9 hs)))<|nq (ab rfl)<|a7<|bx (ae (t:=5) rfl<|ae (t:=4) rfl<|ae (t:=0) rfl<|ae (t:=1) rfl<|aA)<|aE<|aS<|aS<|a8<|nq (aa rfl)<|nq (aR rfl Tryz.underlying27)<|nq (aa rfl)<|a7<|bx (ae (t:=11) rfl<|ae (t:=10) rfl<|ae (t:=5) rfl<|ae (t:=4) rfl<|ae (t:=0) rfl<|ae (t:=1) rfl<|aA)<|aE<|cR<| ?_
 refine kl (fun k=>n-k) (fun k=>[(1,.slice A n c),(5,.int .u32 (j0 (4294967295-s) (l.take k):Nat)),(10,.int .i64 (n:Int)),(11,.int .i64 (k:Nat))]) (fun k w' =>k≤n∧Fr No w w') 0 (⟨Nat.zero_le _,Fr.refl _ _⟩) (ae (t:=1) rfl<|ae (t:=5) rfl<|ae (t:=10) rfl<|ae (t:=11) rfl<|aA) (fun k w2 ⟨hk,hf2⟩=> ?_)
 refine aS<|a8<|nq (br rfl rfl)<|a7<|aE<|aS<| ?_
 refine ma rfl (fun h=> ?_) (fun h=> ?_)
 ·have hkn:k<l.length:=by omega
  have hm:=mf (n:=4294967295-s) (by omega) (l.take k)
  have hbt:=(l.getD k 0).toNat_lt
  have r2:=hr.nu hf2
  refine dA<|aE<|aS<|cR<|aS<|a8<|nq (aa rfl)<|nq (ab rfl)<|a7<|bx (ae (t:=6) rfl<|ae (t:=12) rfl<|ae (t:=1) rfl<|ae (t:=5) rfl<|ae (t:=10) rfl<|ae (t:=11) rfl<|aA)<|aE<|a8<|nq (aa rfl)<|nq (aa rfl)<|nq (aa rfl)<|nq (aK rfl rfl Tryz.underlying27 eg r2.2.1 rfl (by omega))<|nq (ar rfl iN (r2.cell (bJ hkn)))<|nq (bU rfl Tryz.underlying5 Tryz.underlying166 ((uY (by omega) (by omega))))<|nq (gR (by simp) rfl rfl (s3 _ hm _))<| ?_
  refine nx (ey rfl Tryz.call273 (yA _ 8 (nC hm _) (by decide) _) ?_)
  rintro e_ w3 ⟨rfl,hf3⟩
  refine⟨_,rfl, ?_⟩
  rw[←oW,←Go.Hx.dX hkn]
  refine nq (ab rfl)<|a7<|bx (ae (t:=5) rfl<|ae (t:=6) rfl<|ae (t:=12) rfl<|ae (t:=1) rfl<|ae (t:=10) rfl<|ae (t:=11) rfl<|aA)<|fb<|aE<|a8<|nq (aJ rfl rfl (bA (by omega) (by omega)))<|nq (aa rfl)<|a7<|bx (ae (t:=11) rfl<|ae (t:=5) rfl<|ae (t:=6) rfl<|ae (t:=12) rfl<|ae (t:=1) rfl<|ae (t:=10) rfl<|aA)<| ?_
  refine kF (k+1) (ae (t:=1) rfl<|ae (t:=5) rfl<|ae (t:=10) rfl<|ae (t:=11) rfl<|aA) (⟨by omega,hf2.cB hf3⟩) (by omega)
 ·obtain rfl:k=n:=by omega
  have hm:=mf (n:=4294967295-s) (by omega) (l.take k)
  refine iW<|bO<|bO<|cP<|aE<|aS<|a8<|nq (aa rfl)<|nq (qJ rfl hm)<|nq (ab rfl)<|a7<|bx (ae (t:=4) rfl<|ae (t:=12) rfl<|ae (t:=1) rfl<|ae (t:=5) rfl<|ae (t:=10) rfl<|ae (t:=11) rfl<|aA)<|aE<|dI<| ?_
  rw[List.take_of_length_le (by omega)]at hm ⊢
  rw[s9 hm]
  exact eT trivial rfl rfl ⟨rfl,hf2⟩
theorem xr(A:Option Addr)(n c:Nat)(l:List UInt8)(w:World)(hr:Rd w 1 A n (aZ l))(hn:n≤140737488351232):
  Calls Tryz.prog 180 #[.slice A n c] w fun e w' =>e= .returned (.int .u32 (cV l:Nat))∧Fr No w w' :=by
 refine enter (N:=5) Tryz.func180 rfl rfl (by simp) ?_
 refine aS<|a8<|nq (ab rfl)<|a7<|aE<|aS<|a8<|nq (aa rfl)<| ?_
 refine nx (ey rfl Tryz.call232 (zH A n c l 0 (by decide) w hr hn) ?_)
 rintro e_ w1 ⟨rfl,hf1⟩
 refine⟨_,rfl, ?_⟩
 refine nq (ab rfl)<|a7<|bx (ae (t:=2) rfl<|ae (t:=0) rfl<|aA)<|aE<|dI<| ?_
 exact eT trivial rfl rfl ⟨rfl,hf1⟩
theorem clone(A:Option Addr)(n c:Nat)(l:List UInt8)(w:World)(hr:Rd w 1 A n (aZ l))(hn:n≤140737488351232):
  Calls Tryz.prog 117 #[.slice A n c] w fun e w' =>∃v,e= .returned v∧Go.Eng.Own w' w.heap.size 5 1 v n (aZ l)∧Fr No w w' :=by
 have hl:l.length=n:=by have:=hr.1;rw[aF]at this;omega
 refine enter (N:=8) Tryz.func117 rfl rfl (by simp) ?_
 refine aS<|a8<|nq (ab rfl)<|a7<|aE<|aS<|aS<|a8<|nq (aa rfl)<|nq (CQ rfl rfl Tryz.underlying27)<|a7<|bx (ae (t:=4) rfl<|ae (t:=2) rfl<|ae (t:=0) rfl<|aA)<|aE<| ?_
 cases A with
 |none=>
  have h0:n=0:=by
   rcases Nat.eq_zero_or_pos n with h|h
   ·exact h
   ·exact absurd rfl (hr.2.1 h)
  subst h0
  obtain rfl:l=[]:=List.eq_nil_of_length_eq_zero hl
  refine vC rfl (rfl) ?_
  refine aS<|a8<|nq (ab rfl)<|a7<|aE<|dI<|bz<| ?_
  exact eT trivial rfl rfl ⟨_,rfl,Own.nil _ _ _ _,Fr.refl _ _⟩
 |some a=>
  refine pr rfl (rfl) ?_
  refine dA<|aE<|aS<|a8<| ?_
  refine nx (Cp Tryz.underlying27 eO fun g w1 hg hf1 hb1=> ?_)
  refine nq (aa rfl)<| ?_
  refine nx (j8 rfl rfl Tryz.underlying27 Tryz.underlying27 (by exact .inl rfl) eO rfl (Own.Dn hb1 hg) (Src.bT (hr.nu hf1)) nr (by unfold maxLen;omega) (by omega) hf1.size fun v w2 ho hf2 hv=> ?_)
  refine nq (ab rfl)<|a7<|bx (ae (t:=2) rfl<|ae (t:=4) rfl<|ae (t:=0) rfl<|aA)<|aE<|dI<| ?_
  refine eT trivial rfl rfl ⟨v,rfl, ?_,hf1.new hf2 (fun i hi=>by have:i=g:=hi;omega)⟩
  simpa using ho
theorem xR(A:Option Addr)(n c:Nat)(l:List UInt8)(s:Nat)(hs:s<4294967296)(w:World)(hr:Rd w 1 A n (aZ l))(hn:n≤140737488351232):
  Calls Tryz.prog 243 #[.int .u32 (s:Int),.slice A n c] w fun e w' =>e= .returned (.int .u32 (4294967295-j0 (4294967295-s) l:Nat))∧w=w' :=by
 have hl:l.length=n:=by have:=hr.1;rw[aF]at this;omega
 refine enter (N:=37) Tryz.func243 rfl rfl (by simp) ?_
 refine aS<|a8<|nq (ab rfl)<|a7<|aE<|aS<|a8<|nq (aa rfl)<|nq (cm rfl rfl ((show IntKind.u32.wrap (4294967295-(s:Int))=((4294967295-s:Nat):Int) by rw[uY (by omega) (by omega)];omega)))<|nq (ab rfl)<|a7<|bx (ae (t:=5) rfl<|ae (t:=4) rfl<|ae (t:=0) rfl<|ae (t:=1) rfl<|aA)<|aE<|aS<|aS<|a8<|nq (ab rfl)<|a7<|aE<|cR<| ?_
 refine kl (fun k=>n-k) (fun k=>[(1,.slice A n c),(5,.int .u32 (j0 (4294967295-s) (l.take k):Nat)),(6,.int .i64 (k:Nat))]) (fun k w' =>k≤n∧w=w') 0 (⟨Nat.zero_le _,rfl⟩) (ae (t:=1) rfl<|ae (t:=5) rfl<|ae (t:=6) rfl<|aA) (fun k w2 ⟨hk,hw⟩=> ?_)
 obtain rfl:=hw
 refine aS<|aS<|a8<|nq (aa rfl)<|nq (aa rfl)<|nq (aR rfl Tryz.underlying27)<|nq (br rfl rfl)<|a7<|bx (ae (t:=13) rfl<|ae (t:=1) rfl<|ae (t:=5) rfl<|ae (t:=6) rfl<|aA)<|aE<| ?_
 refine ma rfl (fun h=> ?_) (fun h=> ?_)
 ·have hkn:k<l.length:=by omega
  have hm:=mf (n:=4294967295-s) (by omega) (l.take k)
  have hbt:=(l.getD k 0).toNat_lt
  have hx:=nC hm (l.getD k 0)
  refine dA<|aE<|aS<|cR<|aS<|a8<|nq (aa rfl)<|nq (aa rfl)<|nq (aa rfl)<|nq (aK rfl rfl Tryz.underlying27 eg hr.2.1 rfl (by omega))<|nq (ar rfl iN (hr.cell (bJ hkn)))<|nq (bU rfl Tryz.underlying5 Tryz.underlying166 ((uY (by omega) (by omega))))<|nq (gR (by simp) rfl rfl (s3 _ hm _))<|nq (ab rfl)<|a7<|bx (ae (t:=5) rfl<|ae (t:=13) rfl<|ae (t:=1) rfl<|ae (t:=6) rfl<|aA)<|aE<|aS<|a8<|nq (ab rfl)<|a7<|aE<|cR<| ?_
  generalize hX:j0 (4294967295-s) (l.take k) ^^^ (l.getD k 0).toNat=X at hx
  refine kl (fun q=>8-q) (fun q=>[(1,.slice A n c),(5,.int .u32 (fW q X:Nat)),(6,.int .i64 (k:Nat)),(7,.int .i64 (q:Nat))]) (fun q w' =>q≤8∧w=w') 0 (⟨Nat.zero_le _,rfl⟩) (ae (t:=1) rfl<|ae (t:=5) rfl<|ae (t:=6) rfl<|ae (t:=7) rfl<|aA) (fun q w3 ⟨hq,hw⟩=> ?_)
  obtain rfl:=hw
  have hc:=kZ hx q
  refine aS<|aS<|a8<|nq (aa rfl)<|nq (br rfl rfl)<|a7<|bx (ae (t:=24) rfl<|ae (t:=1) rfl<|ae (t:=5) rfl<|ae (t:=6) rfl<|ae (t:=7) rfl<|aA)<|aE<| ?_
  refine ma rfl (fun h2=> ?_) (fun h2=> ?_)
  ·refine dA<|aE<|aS<|cR<|aS<|a8<|nq (aa rfl)<|nq (gC rfl rfl (by omega) (by omega))<|nq (b7 rfl rfl)<|a7<|bx (ae (t:=29) rfl<|ae (t:=24) rfl<|ae (t:=1) rfl<|ae (t:=5) rfl<|ae (t:=6) rfl<|ae (t:=7) rfl<|aA)<|aE<| ?_
   refine ma rfl (fun h3=> ?_) (fun h3=> ?_)
   ·refine a8<|nq (aa rfl)<|nq (iI rfl rfl (by omega) (by omega) (uY (by omega) (by omega)))<|nq (gR (by simp) rfl rfl (xH _ hc))<|nq (ab rfl)<|a7<|bx (ae (t:=5) rfl<|ae (t:=29) rfl<|ae (t:=24) rfl<|ae (t:=1) rfl<|ae (t:=6) rfl<|ae (t:=7) rfl<|aA)<|fb<|aE<|a8<|nq (aa rfl)<|nq (aJ rfl rfl (bA (by omega) (by omega)))<|nq (ab rfl)<|a7<|bx (ae (t:=7) rfl<|ae (t:=5) rfl<|ae (t:=29) rfl<|ae (t:=24) rfl<|ae (t:=1) rfl<|ae (t:=6) rfl<|aA)<| ?_
    rw[show fW q X/2 ^^^ 2197175160=fW (q+1) X by rw[fW,lV,if_pos (by omega)]]
    refine kF (q+1) (ae (t:=1) rfl<|ae (t:=5) rfl<|ae (t:=6) rfl<|ae (t:=7) rfl<|aA) (⟨by omega,rfl⟩) (by omega)
   ·refine a8<|nq (aa rfl)<|nq (iI rfl rfl (by omega) (by omega) (uY (by omega) (by omega)))<|nq (ab rfl)<|a7<|bx (ae (t:=5) rfl<|ae (t:=29) rfl<|ae (t:=24) rfl<|ae (t:=1) rfl<|ae (t:=6) rfl<|ae (t:=7) rfl<|aA)<|fb<|aE<|a8<|nq (aa rfl)<|nq (aJ rfl rfl (bA (by omega) (by omega)))<|nq (ab rfl)<|a7<|bx (ae (t:=7) rfl<|ae (t:=5) rfl<|ae (t:=29) rfl<|ae (t:=24) rfl<|ae (t:=1) rfl<|ae (t:=6) rfl<|aA)<| ?_
    rw[show(fW q X:Int)/2=((fW (q+1) X:Nat):Int) by rw[fW,lV,if_neg (by omega)];omega]
    refine kF (q+1) (ae (t:=1) rfl<|ae (t:=5) rfl<|ae (t:=6) rfl<|ae (t:=7) rfl<|aA) (⟨by omega,rfl⟩) (by omega)
  ·obtain rfl:q=8:=by omega
   refine iW<|bO<|bO<|cP<|fb<|aE<|a8<|nq (aa rfl)<|nq (aJ rfl rfl (bA (by omega) (by omega)))<|nq (ab rfl)<|a7<|bx (ae (t:=6) rfl<|ae (t:=24) rfl<|ae (t:=1) rfl<|ae (t:=5) rfl<|ae (t:=7) rfl<|aA)<| ?_
   rw[←hX,←oW,←Go.Hx.dX hkn]
   refine kF (k+1) (ae (t:=1) rfl<|ae (t:=5) rfl<|ae (t:=6) rfl<|aA) (⟨by omega,rfl⟩) (by omega)
 ·obtain rfl:k=n:=by omega
  have hm:=mf (n:=4294967295-s) (by omega) (l.take k)
  refine iW<|bO<|bO<|cP<|aE<|aS<|a8<|nq (aa rfl)<|nq (cm rfl rfl ((show IntKind.u32.wrap (4294967295-((j0 (4294967295-s) (l.take k):Nat):Int))=((4294967295-j0 (4294967295-s) (l.take k):Nat):Int) by rw[uY (by omega) (by omega)];omega)))<|nq (ab rfl)<|a7<|bx (ae (t:=4) rfl<|ae (t:=13) rfl<|ae (t:=1) rfl<|ae (t:=5) rfl<|ae (t:=6) rfl<|aA)<|aE<|dI<| ?_
  rw[List.take_of_length_le (by omega)]
  exact eT trivial rfl rfl ⟨rfl,rfl⟩
theorem Ae(A:Option Addr)(n c:Nat)(l:List UInt8)(w:World)(hr:Rd w 1 A n (aZ l))(hn:n≤70368744177664):
  Calls Tryz.prog 189 #[.slice A n c] w fun e w' =>∃v,e= .returned v∧Go.Eng.Own w' w.heap.size 5 1 v (n+4) (aZ (xf l))∧Fr No w w' :=by
 have hl:l.length=n:=by have:=hr.1;rw[aF]at this;omega
 refine enter (N:=24) Tryz.func189 rfl rfl (by simp) ?_
 refine aS<|a8<|nq (ab rfl)<|a7<|aE<|aS<|a8<|nq (aa rfl)<| ?_
 refine nx (ey rfl Tryz.call243 (xR A n c l 0 (by decide) w hr (by omega)) ?_)
 rintro e_ w1 ⟨rfl,rfl⟩
 refine⟨_,rfl, ?_⟩
 refine nq (ab rfl)<|a7<|bx (ae (t:=3) rfl<|ae (t:=2) rfl<|ae (t:=0) rfl<|aA)<|aE<|aS<|a8<|nq (ab rfl)<|a7<|aE<|aS<|a8<|nq (aa rfl)<|nq (aa rfl)<| ?_
 refine nx (j8 rfl rfl Tryz.underlying27 Tryz.underlying27 (by exact .inl rfl) eO rfl (Own.nil w w.heap.size _ 1) (Src.bT hr) nr (by unfold maxLen;omega) (by omega) (Nat.le_refl _) fun v w2 hv hf2 hvv=> ?_)
 have hlt:=jk l
 have f2:Fr No w w2:=hf2.mono (fun _ _ e=>e.elim)
 refine nq (ab rfl)<|a7<|bx (ae (t:=4) rfl<|ae (t:=3) rfl<|ae (t:=2) rfl<|ae (t:=0) rfl<|aA)<|aE<|aS<|aS<|a8<|nq (ab rfl)<|a7<|aE<|cR<| ?_
 refine ry (fun k _=>4-k) (fun k v=>[(3,.int .u32 (qE k (cV l):Nat)),(4,v),(5,.int .i64 (k:Nat))]) (fun k v w' =>k≤4∧Go.Eng.Own w' w.heap.size 5 1 v (n+k) (aZ (l++BA k (cV l)))∧Fr No w w') 0 v (⟨Nat.zero_le _,by simpa[BA]using hv,f2⟩) (ae (t:=3) rfl<|ae (t:=4) rfl<|ae (t:=5) rfl<|aA) (fun k v w3 ⟨hk,ho,hf⟩=> ?_)
 refine aS<|aS<|a8<|nq (aa rfl)<|nq (br rfl rfl)<|a7<|bx (ae (t:=12) rfl<|ae (t:=3) rfl<|ae (t:=4) rfl<|ae (t:=5) rfl<|aA)<|aE<| ?_
 refine ma rfl (fun h=> ?_) (fun h=> ?_)
 ·have hs8:=uB hlt k
  refine dA<|aE<|aS<|cR<|aS<|a8<|nq (aa rfl)<|nq (aa rfl)<|nq (gC rfl rfl (by omega) (by omega))<|nq (bU rfl Tryz.underlying166 Tryz.underlying5 ((show IntKind.u8.wrap (((qE k (cV l):Nat):Int) % 256)=((UInt8.ofNat (qE k (cV l))).toNat:Int) by simp[IntKind.wrap,IntKind.signed,IntKind.bits])))<| ?_
  refine nx (lY Tryz.underlying27 eO rfl rfl rfl (by simp[Value.cells,B8]) (by decide) (by decide) fun g w4 hg hf4 hb4=> ?_)
  refine nx (j8 rfl rfl Tryz.underlying27 Tryz.underlying27 (by exact .inl rfl) eO rfl (ho.nu hf4) (Src.iH hb4 rfl) (aY (l:=[_])) (by unfold maxLen;omega) (by omega) (hf.cB hf4).size fun v5 w5 ho5 hf5 hv5=> ?_)
  refine nq (ab rfl)<|a7<|bx (ae (t:=4) rfl<|ae (t:=12) rfl<|ae (t:=3) rfl<|ae (t:=5) rfl<|aA)<|aE<|a8<|nq (aa rfl)<|nq (iI rfl rfl (by omega) (by omega) (uY (by omega) (by omega)))<|nq (ab rfl)<|a7<|bx (ae (t:=3) rfl<|ae (t:=4) rfl<|ae (t:=12) rfl<|ae (t:=5) rfl<|aA)<|fb<|aE<|a8<|nq (aa rfl)<|nq (aJ rfl rfl (bA (by omega) (by omega)))<|nq (ab rfl)<|a7<|bx (ae (t:=5) rfl<|ae (t:=3) rfl<|ae (t:=4) rfl<|ae (t:=12) rfl<|aA)<| ?_
  refine oC (k+1) v5 (ae (t:=3) rfl<|ae (t:=4) rfl<|ae (t:=5) rfl<|aA) (⟨by omega,by rw[x9,←List.append_assoc,bD];exact ho5,(hf.cB hf4).new hf5 (fun i hi=>(ho.from hi).1)⟩) (by omega)
 ·obtain rfl:k=4:=by omega
  refine iW<|bO<|bO<|cP<|aE<|aS<|a8<|nq (aa rfl)<|nq (ab rfl)<|a7<|bx (ae (t:=2) rfl<|ae (t:=12) rfl<|ae (t:=3) rfl<|ae (t:=4) rfl<|ae (t:=5) rfl<|aA)<|aE<|dI<| ?_
  rw[yD]at ho
  exact eT trivial rfl rfl ⟨v,rfl,ho,hf⟩
end Go.Proofs.YtmibdabdlgmafaaGreatDoor
end
section
set_option maxRecDepth 20000
namespace Go.Proofs.YtmibdabdlgmafaaGreatDoor
open Go.Eng Go.Hx
theorem tP(A:Option Addr)(n c:Nat)(l:List UInt8)(A' :Option Addr)(n' c' :Nat)(l' :List UInt8)(w:World)(hr:Rd w 1 A n (aZ l))(hr' :Rd w 1 A' n' (aZ l')):
  Calls Tryz.prog 215 #[.slice A n c,.slice A' n' c'] w fun e w' =>e= .returned (.bool (decide (l=l')))∧w=w' :=by
 refine enter (N:=10) Tryz.func215 rfl rfl (by simp) ?_
 refine aS<|a8<|nq (ab rfl)<|a7<|aE<|aS<|a8<|nq (aa rfl)<|nq (jq rfl Tryz.underlying27 Tryz.underlying5 Tryz.underlying9 hr)<|nq (aa rfl)<|nq (jq rfl Tryz.underlying27 Tryz.underlying5 Tryz.underlying9 hr')<|nq (me rfl rfl)<|nq (ab rfl)<|a7<|bx (ae (t:=4) rfl<|ae (t:=0) rfl<|ae (t:=1) rfl<|aA)<|aE<|dI<| ?_
 refine eT trivial rfl rfl ⟨?_,rfl⟩
 simp only[cD]
end Go.Proofs.YtmibdabdlgmafaaGreatDoor
end
section
set_option maxRecDepth 20000
namespace Go.Proofs.YtmibdabdlgmafaaGreatDoor
open Go.Eng Go.Hx
theorem na{A A1:Option Addr}{n c n1 c1:Nat}{l l1:List UInt8}:cj Tryz.prog 215 [.slice A n c,.slice A1 n1 c1] [] [dr 1 A n (aZ l),dr 1 A1 n1 (aZ l1)] (fun v_ X_ S_=>v_=(.bool (decide (l=l1)))∧X_=[]∧S_=[]):=by
 exact ff fun m=>Calls.mono (tP A n c l A1 n1 c1 l1 _ (m.rd 0 rfl) (m.rd 1 rfl)) (fun e w' ⟨h,hw⟩=>⟨_,h,⟨rfl,rfl,rfl⟩,hw▸Fr.refl _ _⟩)
theorem rq{A:Option Addr}{n c:Nat}{l:List UInt8}(hn:n≤140737488351232):cj Tryz.prog 117 [.slice A n c] [] [dr 1 A n (aZ l)] (fun v_ X_ S_=>∃v,v_=v∧X_=[aH 5 1 v n (aZ l)]∧S_=[]):=by
 exact kE fun m=>Calls.mono (clone A n c l _ (m.rd 0 rfl) hn) (fun e w' ⟨v,h,ho,hf⟩=>⟨v,v,_,_,_,_,h,⟨v,rfl,rfl,rfl⟩,ho,hf⟩)
end Go.Proofs.YtmibdabdlgmafaaGreatDoor
end
section
set_option maxRecDepth 20000
namespace Go.Proofs.YtmibdabdlgmafaaGreatDoor
open Go.Eng Go.Hx
def fm:bh:=dr 1 (some ⟨1,0,none⟩) 64 (ei gO)
theorem CC{n:Nat}(h0:0<n)(hn:n<32):IntKind.u64.wrap (-(n:Int))=((18446744073709551616-n:Nat):Int):=by
 simp[IntKind.wrap,IntKind.signed,IntKind.bits]
 omega
theorem wG{n:Nat}(h0:0<n)(hn:n<32):bits .and .u64 ((18446744073709551616-n:Nat):Int) 31=((32-n:Nat):Int):=by
 have h:=u64_and_nat (18446744073709551616-n) 31 (by omega) (by decide)
 rw[show((31:Nat):Int)=31 from rfl]at h
 rw[h,show(31:Nat)=2 ^ 5-1 from rfl,Nat.and_two_pow_sub_one_eq_mod]
 congr 1
 show(18446744073709551616-n) % 32=32-n
 omega
theorem tT{x:UInt32}{n:Nat}(h0:0<n)(hn:n<32):cj Tryz.prog 296 [Wd x,.int .i64 (-(n:Int))] [] [] (fun v_ X_ S_=>v_=(Wd (kA n x))∧X_=[]∧S_=[]):=by
 refine aO (N:=17) Tryz.func296 rfl rfl (by simp) fun b=> ?_
 have hs:IntKind.u64.wrap (32-((32-n:Nat):Int))=(n:Int):=by
  rw[show(32:Int)-((32-n:Nat):Int)=(n:Int) by omega]
  simp[IntKind.wrap,IntKind.signed,IntKind.bits]
  omega
 refine ah<|aj<|hy (fun _=>ab rfl)<|ai<|ag<|ah<|aj<|hy (fun _=>aa rfl)<|hy (fun _=>bU rfl Tryz.underlying3 Tryz.underlying263 (CC h0 hn))<|hy (fun _=>gR (by simp) rfl rfl (wG h0 hn))<|hy (fun _=>ab rfl)<|ai<|al (ρ' :=[(5,_),(4,_),(0,_),(1,_)]) ⟨rfl,rfl,rfl,rfl,trivial⟩<|ag<|ah<|aj<|hy (fun _=>aa rfl)<|hy (fun _=>aa rfl)<|hy (fun _=>(yw (k:=32-n) (by omega) rfl rfl))<|hy (fun _=>aa rfl)<|hy (fun _=>aa rfl)<|hy (fun _=>cm rfl rfl hs)<|hy (fun _=>(xq (k:=n) hn rfl rfl))<|hy (fun _=>yV (A7 rfl rfl) ((show Wd (UInt32.ofNat (x.toNat*2 ^ (32-n)) ||| UInt32.ofNat (x.toNat/2 ^ n))=Wd (kA n x) by rw[zL h0 hn])))<|hy (fun _=>ab rfl)<|ai<|al (ρ' :=[(4,_),(5,_),(0,_),(1,_)]) ⟨rfl,rfl,rfl,rfl,trivial⟩<|ag<|aU<| ?_
 exact bc trivial rfl rfl [] rfl [] rfl ⟨rfl,rfl,rfl⟩
theorem vk{x:UInt32}{n1 n2 n3:Nat}(h1:0<n1∧n1<32)(h2:0<n2∧n2<32)(h3:0<n3∧n3<32):cj Tryz.prog 269 [Wd x,.int .i64 (n1:Int),.int .i64 (n2:Int),.int .i64 (n3:Int)] [] [] (fun v_ X_ S_=>v_=(Wd (turns n1 n2 n3 x))∧X_=[]∧S_=[]):=by
 refine aO (N:=23) Tryz.func269 rfl rfl (by simp) fun b=> ?_
 refine ah<|aj<|hy (fun _=>ab rfl)<|ai<|ag<|ah<|aj<|hy (fun _=>aa rfl)<|hy (fun _=>aa rfl)<|hy (fun _=>uM rfl (bA (by omega) (by omega)))<| ?_
 refine hx (ao rfl Tryz.call296 (tT h1.1 h1.2 (n:=n1)) [] rfl [] rfl ?_)
 rintro _ _ _ ⟨rfl,rfl,rfl⟩
 refine hy (fun _=>aa rfl)<|hy (fun _=>aa rfl)<|hy (fun _=>uM rfl (bA (by omega) (by omega)))<| ?_
 refine hx (ao rfl Tryz.call296 (tT h2.1 h2.2 (n:=n2)) [] rfl [] rfl ?_)
 rintro _ _ _ ⟨rfl,rfl,rfl⟩
 refine hy (fun _=>en rfl rfl)<|hy (fun _=>aa rfl)<|hy (fun _=>aa rfl)<|hy (fun _=>uM rfl (bA (by omega) (by omega)))<| ?_
 refine hx (ao rfl Tryz.call296 (tT h3.1 h3.2 (n:=n3)) [] rfl [] rfl ?_)
 rintro _ _ _ ⟨rfl,rfl,rfl⟩
 refine hy (fun _=>en rfl rfl)<|hy (fun _=>ab rfl)<|ai<|al (ρ' :=[(8,_),(0,_),(1,_),(2,_),(3,_)]) ⟨rfl,rfl,rfl,rfl,rfl,trivial⟩<|ak (X' :=[]) (S' :=[]) (fun _ m=>m)<|ag<|aU<| ?_
 exact bc trivial rfl rfl [] rfl [] rfl ⟨rfl,rfl,rfl⟩
theorem my{a:List UInt32}{i k n:Nat}(ha:a.length=i)(hk:k<i):(ei (a++List.replicate n 0))[k]? =some (Wd (a.getD k 0)):=by
 rw[bk (by simp;omega)]
 simp[List.getD,List.getElem?_append_left (show k<a.length by omega)]
theorem zR{a r:List UInt32}{i:Nat}{x:UInt32}(ha:a.length=i):(ei (a++x::r))[i]? =some (Wd x):=by
 subst ha
 simp[ei]
theorem uQ{a r:List UInt32}{i:Nat}{x y:UInt32}(ha:a.length=i):(ei (a++x::r)).set i (Wd y)=ei (a++y::r):=by
 subst ha
 simp[ei,List.set_append]
theorem uk{a r:List UInt32}{y:UInt32}:a++y::r=(a++[y])++r:=by simp
theorem Cv{A:Option Addr}{c:Nat}{l:List UInt8}(hc:64≤c):cj Tryz.prog 268 [.slice A 64 c] [] [dr 1 A 64 (aZ l)] (fun v_ X_ S_=>v_=(.agg (ei (wl l 64)).toArray)∧X_=[]∧S_=[]):=by
 refine aO (N:=75) Tryz.func268 rfl rfl (by simp) fun b=> ?_
 refine ba (fun m=>gK (m.rd 0 rfl)) ?_
 rintro⟨hl_r,hA_r⟩
 have hl:l.length=64:=hl_r
 refine ah<|aj<| ?_
 refine hx (aM xw (fun g2=> ?_))
 refine ai<|ak (X' :=[_]) (S' :=[_]) (fun _ m=>m)<|ag<|ah<|aj<| ?_
 refine hx (aM xw (fun g3=> ?_))
 refine aL (fun w m=>m.bM 0 rfl (show _=aG g3 354 (ei (wl l 0++List.replicate (64-0) 0))from rfl)) ?_
 refine ai<|ak (X' :=[_,_]) (S' :=[_]) (fun _ m=>m)<|ag<|ah<|ah<|aj<|hy (fun _=>aa rfl)<|ai<|ag<|aN<| ?_
 refine dR (fun i=>64-i) (fun i=>[(9,.int .i64 (i:Nat))]) (fun i=>[aG g3 354 (ei (wl l i++List.replicate (64-i) 0))]) (fun i=>[]) (fun i=>i≤64) 0 [(3,_),(2,_),(0,_)] ⟨rfl,rfl,rfl,trivial⟩ [0] rfl [] rfl (Nat.zero_le _) ⟨rfl,trivial⟩ (fun i hI=> ?_)
 have hwl:=fy l i
 refine ah<|aj<|hy (fun _=>br rfl rfl)<|ai<|ag<|ah<| ?_
 refine cL rfl (fun h=> ?_) (fun h=> ?_)
 ·have hr64:(List.replicate (64-i) (0:UInt32))=0::List.replicate (63-i) 0:=by rw[show 64-i=(63-i)+1 by omega,List.replicate_succ]
  have hr63:(64-(i+1))=63-i:=by omega
  refine aB<|ag<|ah<|aN<|ah<|aj<|hy (fun _=>aa rfl)<|hy (fun _=>ab rfl)<|ai<|al (ρ' :=[(4,_),(10,_),(9,_),(3,_),(2,_),(0,_)]) ⟨rfl,rfl,rfl,rfl,rfl,rfl,trivial⟩<|ag<|ah<|ah<|aj<|hy (fun _=>aa rfl)<|hy (fun _=>br rfl rfl)<|ai<|al (ρ' :=[(13,_),(4,_),(10,_),(9,_),(3,_),(2,_),(0,_)]) ⟨rfl,rfl,rfl,rfl,rfl,rfl,rfl,trivial⟩<|ag<| ?_
  refine cL rfl (fun h16=> ?_) (fun h16=> ?_)
  ·have hws:wl l (i+1)=wl l i++[mE l (4*i)]:=by rw[wl,if_pos (by omega)]
   refine bu (fun w m=>m.gX 0 rfl (View.sub (k:=4*i) (m:=4) hc (by omega))) ?_
   refine ba (fun m=>gK (m.rd 0 rfl)) ?_
   rintro⟨hl_r4,hA_r4⟩
   refine ah<|ah<|aj<|hy (fun _=>aa rfl)<|hy (fun _=>aa rfl)<|hy (fun _=>fD rfl rfl (bA (by omega) (by omega)))<|hy (fun _=>aa rfl)<|hy (fun _=>fD rfl rfl (bA (by omega) (by omega)))<|hy (fun _=>aJ rfl rfl (bA (by omega) (by omega)))<|hy (fun _=>yV (eH rfl rfl rfl Tryz.underlying27 eg (show((4*i:Nat):Int)=_ by omega) (show((4*i+4:Nat):Int)=_ by omega) (by omega) (by omega)) ((show Value.slice (if c=4*i then A else A.map (·.add (4*i*1))) (4*i+4-4*i) (c-4*i)= .slice (if c=4*i then A else A.map (·.add (4*i*1))) 4 (c-4*i) by rw[Nat.add_sub_cancel_left])))<|hy (fun _=>aR rfl Tryz.underlying27)<|hy (fun _=>aa rfl)<|ai<|al (ρ' :=[(22,_),(21,_),(20,_),(13,_),(4,_),(10,_),(9,_),(3,_),(2,_),(0,_)]) ⟨rfl,rfl,rfl,rfl,rfl,rfl,rfl,rfl,rfl,rfl,trivial⟩<|ag<|aN<| ?_
   refine bu (fun w m=>m.bM 0 rfl (show _=aG g3 354 (ei (wl l i++UInt32.ofNat (wp l (4*i) 0)::List.replicate (63-i) 0))from by rw[hr64];rfl)) ?_
   refine dR (fun j=>4-j) (fun j=>[(22,.int .i64 (j:Nat))]) (fun j=>[aG g3 354 (ei (wl l i++UInt32.ofNat (wp l (4*i) j)::List.replicate (63-i) 0))]) (fun j=>[]) (fun j=>j≤4) 0 [(21,_),(20,_),(13,_),(4,_),(10,_),(9,_),(3,_),(2,_),(0,_)] ⟨rfl,rfl,rfl,rfl,rfl,rfl,rfl,rfl,rfl,trivial⟩ [0] rfl [] rfl (Nat.zero_le _) ⟨rfl,trivial⟩ (fun j hj4=> ?_)
   refine ah<|aj<|hy (fun _=>br rfl rfl)<|ai<|ag<|ah<| ?_
   refine cL rfl (fun hj=> ?_) (fun hj=> ?_)
   ·have hgl:((l.drop (4*i)).take 4).getD j 0=l.getD (4*i+j) 0:=by
     simp[List.getD,List.getElem?_take,List.getElem?_drop,show j<4 by omega]
    refine aB<|ag<|ah<|aN<|ah<|aj<|hy (fun _=>aK rfl rfl Tryz.underlying27 eg hA_r4 rfl (by omega))<|hy (fun m=>ar rfl iN ((m.rd 0 rfl).cell (bJ (by omega))))<|hy (fun _=>ab rfl)<|ai<|al (ρ' :=[(6,_),(23,_),(22,_),(21,_),(20,_),(13,_),(4,_),(10,_),(9,_),(3,_),(2,_),(0,_)]) ⟨rfl,rfl,rfl,rfl,rfl,rfl,rfl,rfl,rfl,rfl,rfl,rfl,trivial⟩<|ag<|aj<|hy (fun _=>aa rfl)<|hy (fun _=>aa rfl)<|hy (fun _=>bY rfl rfl Tryz.underlying354 bN rfl (by omega))<|hy (fun m=>ar rfl bW ((m.aT 0 rfl).ay i _ (zR hwl)))<|hy (fun _=>AO (k:=8) (b:=256) (by decide) rfl rfl rfl)<|hy (fun _=>aa rfl)<|hy (fun _=>xh rfl Tryz.underlying5 Tryz.underlying166)<|hy (fun _=>yV (A7 rfl rfl) ((show Wd ((UInt32.ofNat (wp l (4*i) j)*256) ||| (((l.drop (4*i)).take 4).getD j 0).toUInt32)=Wd (UInt32.ofNat (wp l (4*i) (j+1))) by rw[hgl,AJ (by omega)])))<|hy (fun _=>bY rfl rfl Tryz.underlying354 bN rfl (by omega))<| ?_
    refine cI (bR 0 rfl rfl rfl bN rfl (by rw[bw];simp only[List.length_append,List.length_cons,List.length_replicate,hwl];omega) ?_)
    refine ai<|al (ρ' :=[(6,_),(23,_),(22,_),(21,_),(20,_),(13,_),(4,_),(10,_),(9,_),(3,_),(2,_),(0,_)]) ⟨rfl,rfl,rfl,rfl,rfl,rfl,rfl,rfl,rfl,rfl,rfl,rfl,trivial⟩<|ak (X' :=[_,_]) (S' :=[_,_]) (fun _ m=>m)<|aQ<|ag<|aj<|hy (fun _=>aJ rfl rfl (bA (by omega) (by omega)))<|hy (fun _=>aa rfl)<|ai<|al (ρ' :=[(22,_),(6,_),(23,_),(21,_),(20,_),(13,_),(4,_),(10,_),(9,_),(3,_),(2,_),(0,_)]) ⟨rfl,rfl,rfl,rfl,rfl,rfl,rfl,rfl,rfl,rfl,rfl,rfl,trivial⟩<| ?_
    refine ak (fun w m=>m.bM 0 rfl (show _=aG g3 354 (ei (wl l i++UInt32.ofNat (wp l (4*i) (j+1))::List.replicate (63-i) 0))from by rw[Nat.zero_add,uQ hwl])) ?_
    refine cZ (j+1) ⟨rfl,rfl,rfl,rfl,rfl,rfl,rfl,rfl,rfl,rfl,trivial⟩ [0,0] rfl [0,1] rfl (by omega) (by omega)
   ·obtain rfl:j=4:=by omega
    refine bP<|au<|au<|aC<|ag<|bP<|au<|aC<|ag<|aj<|hy (fun _=>aJ rfl rfl (bA (by omega) (by omega)))<|hy (fun _=>aa rfl)<|ai<|al (ρ' :=[(9,_),(23,_),(22,_),(21,_),(20,_),(13,_),(4,_),(10,_),(3,_),(2,_),(0,_)]) ⟨rfl,rfl,rfl,rfl,rfl,rfl,rfl,rfl,rfl,rfl,rfl,trivial⟩<| ?_
    refine ak (fun w m=>m.bM 0 rfl (show _=aG g3 354 (ei (wl l (i+1)++List.replicate (64-(i+1)) 0))from by rw[Ap,uk,hws,hr63])) ?_
    refine cZ (i+1) ⟨rfl,rfl,rfl,rfl,trivial⟩ [0,0] rfl [1] rfl (by omega) (by omega)
  ·have hws:wl l (i+1)=wl l i++[pT (wl l i) i]:=by rw[wl,if_neg (by omega)]
   refine aB<|ag<|ah<|cK [] [(0,some 0),(1,some 0),(2,some 0),(3,some 0),(4,some 0),(5,some 0),(6,some 0),(7,some 0),(8,some 0),(9,some 0)] (by kernel_rfl) (by kernel_rfl) rfl 99<|an (aa rfl)<|an (cm rfl rfl (bA (by omega) (by omega)))<|an (bY rfl rfl Tryz.underlying354 bN (show((i-15:Nat):Int)=_ by omega) (by omega))<|cd (fun m=>ar rfl bW ((m.aT 0 rfl).ay (i-15) _ (my hwl (by omega))))<|an (aa rfl)<|an (cm rfl rfl (bA (by omega) (by omega)))<|an (bY rfl rfl Tryz.underlying354 bN (show((i-2:Nat):Int)=_ by omega) (by omega))<|cd (fun m=>ar rfl bW ((m.aT 0 rfl).ay (i-2) _ (my hwl (by omega))))<|an (ab rfl)<|an (ab rfl)<|bq<|al (ρ' :=[(8,_),(7,_),(13,_),(4,_),(10,_),(9,_),(3,_),(2,_),(0,_)]) ⟨rfl,rfl,rfl,rfl,rfl,rfl,rfl,rfl,rfl,trivial⟩<|ag<|cK [6,8,20,22,29] [(0,some 4),(1,some 4),(2,some 4),(3,some 4),(4,some 4),(5,some 0),(7,some 1),(10,some 4),(11,some 4),(14,some 4),(15,some 4),(16,some 4),(17,some 4),(19,some 2),(21,some 3),(24,some 4),(25,some 4),(6,none),(8,none),(9,some 4),(12,some 4),(13,some 4),(18,some 4),(20,none),(22,none),(23,some 4),(26,some 4),(27,some 4),(28,some 4),(29,none)] (by kernel_rfl) (by kernel_rfl) rfl 4<|an (aa rfl)<|an (aa rfl)<|an (cm rfl rfl (bA (by omega) (by omega)))<|an (bY rfl rfl Tryz.underlying354 bN (show((i-16:Nat):Int)=_ by omega) (by omega))<|cd (fun m=>ar rfl bW ((m.aT 0 rfl).ay (i-16) _ (my hwl (by omega))))<|an (aa rfl)<|an (aa rfl)<|an (aa rfl)<|an (lT (k:=3) (b:=8) (by decide) rfl rfl rfl)<|an (aa rfl)<|an (cm rfl rfl (bA (by omega) (by omega)))<|an (bY rfl rfl Tryz.underlying354 bN (show((i-7:Nat):Int)=_ by omega) (by omega))<|cd (fun m=>ar rfl bW ((m.aT 0 rfl).ay (i-7) _ (my hwl (by omega))))<|an (aa rfl)<|an (aa rfl)<|an (aa rfl)<|an (lT (k:=10) (b:=1024) (by decide) rfl rfl rfl)<| ?_
   refine ee (ao rfl Tryz.call296 (tT (by decide) (by decide) (n:=7)) [] rfl [] rfl ?_)
   rintro _ _ _ ⟨rfl,rfl,rfl⟩
   refine⟨(fun _=>wk [0,0] [0] rfl rfl), ?_⟩
   refine ee (ao rfl Tryz.call296 (tT (by decide) (by decide) (n:=18)) [] rfl [] rfl ?_)
   rintro _ _ _ ⟨rfl,rfl,rfl⟩
   refine⟨(fun _=>wk [0,0] [0] rfl rfl), ?_⟩
   refine an (en rfl rfl)<|an (en rfl rfl)<|an (dy rfl rfl)<|an (dy rfl rfl)<| ?_
   refine ee (ao rfl Tryz.call296 (tT (by decide) (by decide) (n:=17)) [] rfl [] rfl ?_)
   rintro _ _ _ ⟨rfl,rfl,rfl⟩
   refine⟨(fun _=>wk [0,0] [0] rfl rfl), ?_⟩
   refine ee (ao rfl Tryz.call296 (tT (by decide) (by decide) (n:=19)) [] rfl [] rfl ?_)
   rintro _ _ _ ⟨rfl,rfl,rfl⟩
   refine⟨(fun _=>wk [0,0] [0] rfl rfl), ?_⟩
   refine an (en rfl rfl)<|an (en rfl rfl)<|an (yV (dy rfl rfl) ((rfl:_=Wd (pT (wl l i) i))))<|an (bY rfl rfl Tryz.underlying354 bN rfl (by omega))<| ?_
   refine j5 (bR 0 rfl rfl rfl bN rfl (by rw[bw];simp only[List.length_append,List.length_replicate,hwl];omega) ⟨(fun h=>absurd h (by decide)), ?_⟩)
   refine bq<|al (ρ' :=[(8,_),(7,_),(13,_),(4,_),(10,_),(9,_),(3,_),(2,_),(0,_)]) ⟨rfl,rfl,rfl,rfl,rfl,rfl,rfl,rfl,rfl,trivial⟩<|ak (X' :=[_,_]) (S' :=[_]) (fun _ m=>m)<|aQ<|ag<|aj<|hy (fun _=>aJ rfl rfl (bA (by omega) (by omega)))<|hy (fun _=>aa rfl)<|ai<|al (ρ' :=[(9,_),(8,_),(7,_),(13,_),(4,_),(10,_),(3,_),(2,_),(0,_)]) ⟨rfl,rfl,rfl,rfl,rfl,rfl,rfl,rfl,rfl,trivial⟩<| ?_
   refine ak (fun w m=>m.bM 0 rfl (show _=aG g3 354 (ei (wl l (i+1)++List.replicate (64-(i+1)) 0))from by rw[Nat.zero_add,hr64,uQ hwl,uk,hws,hr63])) ?_
   refine cZ (i+1) ⟨rfl,rfl,rfl,rfl,trivial⟩ [0,0] rfl [0] rfl (by omega) (by omega)
 ·obtain rfl:i=64:=by omega
  refine bu (fun w m=>m.bM 0 rfl (show _=aG g3 354 (ei (wl l 64))from by rw[Nat.sub_self];simp)) ?_
  refine bP<|au<|au<|aC<|ag<|ah<|aj<|hy (fun m=>yV (aX rfl Ba uw (by rw[bw,fy]) ((m.aT 0 rfl).ay)) ((rfl:_=Value.agg (ei (wl l 64)).toArray)))<| ?_
  refine cI (aI 1 rfl rfl rfl uw (by rw[bw,fy]) ij rfl ?_)
  refine ai<|al (ρ' :=[(10,_),(9,_),(3,_),(2,_),(0,_)]) ⟨rfl,rfl,rfl,rfl,rfl,trivial⟩<|ak (X' :=[_,_]) (S' :=[_]) (fun _ m=>m)<|ag<|aU<| ?_
  exact fC trivial rfl rfl Ba uw (by rw[bw,fy]) (fun m=>(m.aT 0 rfl).ay) [] rfl [] rfl ⟨rfl,rfl,rfl⟩
theorem s7(v h:List UInt32)(i:Nat):(fX v h i).length=v.length:=by simp[fX]
theorem Ex{A:Option Addr}{c:Nat}{l:List UInt8}{h:List UInt32}(hc:64≤c)(hh:h.length=8):cj Tryz.prog 227 [.agg (ei h).toArray,.slice A 64 c] [] [dr 1 A 64 (aZ l),fm] (fun v_ X_ S_=>v_=(.agg (ei (eX h l)).toArray)∧X_=[]∧S_=[]):=by
 refine aO (N:=99) Tryz.func227 rfl rfl (by simp) fun b=> ?_
 refine ba (fun m=>gK (m.rd 0 rfl)) ?_
 rintro⟨hl_r,hA_r⟩
 refine ah<|aj<| ?_
 refine hx (cz rfl (fun g2=> ?_))
 refine aL (fun w m=>m.bM 0 rfl (show _=aG g2 306 (ei h)from congrArg (aG _ _) (bG _))) ?_
 refine hx (aM uL (fun g4=> ?_))
 refine ai<|ak (X' :=[_,_]) (S' :=[_,_]) (fun _ m=>m)<|ag<|ah<|aj<|hy (fun _=>aa rfl)<| ?_
 refine hx (ao rfl Tryz.call268 (Cv (by omega)) [] rfl [0] rfl ?_)
 rintro _ _ _ ⟨rfl,rfl,rfl⟩
 obtain⟨W,hW⟩:∃W,wl l 64=W:=⟨_,rfl⟩
 have hw64:W.length=64:=by rw[←hW];exact fy l 64
 rw[hW]
 refine hx (aM xw (fun g5=> ?_))
 refine cI (aI 0 rfl rfl rfl uw (by rw[bw,hw64]) ij rfl ?_)
 refine ai<|al (ρ' :=[(5,_),(4,_),(2,_),(0,_),(1,_)]) ⟨rfl,rfl,rfl,rfl,rfl,trivial⟩<|ak (X' :=[_,_,_]) (S' :=[_,_]) (fun _ m=>m)<|ag<|ah<|aj<|hy (fun m=>yV (aX rfl qe lu (by rw[bw,hh]) ((m.aT 2 rfl).ay)) ((rfl:_=Value.agg (ei h).toArray)))<| ?_
 refine hx (aM uL (fun g6=> ?_))
 refine cI (aI 0 rfl rfl rfl lu (by rw[bw,hh]) ij rfl ?_)
 refine ai<|al (ρ' :=[(6,_),(5,_),(4,_),(2,_),(0,_),(1,_)]) ⟨rfl,rfl,rfl,rfl,rfl,rfl,trivial⟩<|ak (X' :=[_,_,_,_]) (S' :=[_,_]) (fun _ m=>m)<|ag<|ah<|ah<|aj<|hy (fun _=>aa rfl)<|ai<|ag<|aN<| ?_
 refine dR (fun i=>64-i) (fun i=>[(16,.int .i64 (i:Nat))]) (fun i=>[aG g6 306 (ei (mP W h i))]) (fun i=>[]) (fun i=>i≤64) 0 [(6,_),(5,_),(4,_),(2,_),(0,_),(1,_)] ⟨rfl,rfl,rfl,rfl,rfl,rfl,trivial⟩ [0] rfl [] rfl (Nat.zero_le _) ⟨rfl,trivial⟩ (fun i hI=> ?_)
 have hv:=kx (w:=W) hh i
 have hro:gO.length=64:=rfl
 refine ah<|aj<|hy (fun _=>br rfl rfl)<|ai<|ag<|ah<| ?_
 refine cL rfl (fun hlt=> ?_) (fun hlt=> ?_)
 ·generalize hvd:mP W h i=v at hv ⊢
  refine aB<|ag<|ah<|aN<|ah<|aj<|hy (fun _=>aa rfl)<|hy (fun _=>ab rfl)<|ai<|al (ρ' :=[(7,_),(17,_),(16,_),(6,_),(5,_),(4,_),(2,_),(0,_),(1,_)]) ⟨rfl,rfl,rfl,rfl,rfl,rfl,rfl,rfl,rfl,trivial⟩<|ag<|ah<|cK [] [(0,some 0),(1,some 0),(2,some 0),(3,some 0),(4,some 0),(5,some 0)] (by kernel_rfl) (by kernel_rfl) rfl 99<|an (bY rfl rfl Tryz.underlying306 bN (show((4:Nat):Int)=4 from rfl) (by omega))<|cd (fun m=>ar rfl bW ((m.aT 0 rfl).ay 4 _ (bk (by omega))))<|an (bY rfl rfl Tryz.underlying306 bN (show((0:Nat):Int)=0 from rfl) (by omega))<|cd (fun m=>ar rfl bW ((m.aT 0 rfl).ay 0 _ (bk (by omega))))<|an (ab rfl)<|an (ab rfl)<|bq<|al (ρ' :=[(9,_),(8,_),(7,_),(17,_),(16,_),(6,_),(5,_),(4,_),(2,_),(0,_),(1,_)]) ⟨rfl,rfl,rfl,rfl,rfl,rfl,rfl,rfl,rfl,rfl,rfl,trivial⟩<|ag<|ah<|cK [3] [(0,some 1),(1,some 1),(2,some 0),(5,some 1),(6,some 1),(7,some 1),(8,some 1),(9,some 1),(10,some 1),(11,some 1),(12,some 1),(13,some 1),(14,some 1),(16,some 1),(17,some 1),(18,some 1),(20,some 1),(21,some 1),(22,some 1),(3,none),(4,some 1),(15,some 1),(19,some 1),(23,some 1),(24,some 1)] (by kernel_rfl) (by kernel_rfl) rfl 99<|an (bY rfl rfl Tryz.underlying306 bN (show((7:Nat):Int)=7 from rfl) (by omega))<|cd (fun m=>ar rfl bW ((m.aT 0 rfl).ay 7 _ (bk (by omega))))<|an (aa rfl)<|an (aa rfl)<|an (bY rfl rfl Tryz.underlying306 bN (show((5:Nat):Int)=5 from rfl) (by omega))<|cd (fun m=>ar rfl bW ((m.aT 0 rfl).ay 5 _ (bk (by omega))))<|an (jc rfl rfl)<|an (aa rfl)<|an (CV rfl)<|an (bY rfl rfl Tryz.underlying306 bN (show((6:Nat):Int)=6 from rfl) (by omega))<|cd (fun m=>ar rfl bW ((m.aT 0 rfl).ay 6 _ (bk (by omega))))<|an (jc rfl rfl)<|an (en rfl rfl)<|an (aa rfl)<|an (bY rfl rfl Tryz.underlying354 bN rfl (by omega))<|cd (fun m=>ar rfl bW ((show Rd _ 1 _ 64 (ei gO)from m.Cd 1 rfl).cell (j:=i) (bk (by omega))))<|an (aa rfl)<|an (bY rfl rfl Tryz.underlying354 bN rfl (by omega))<|cd (fun m=>ar rfl bW ((m.aT 1 rfl).ay i _ (bk (by omega))))<| ?_
  refine ee (ao rfl Tryz.call269 (vk (by decide) (by decide) (by decide) (n1:=6) (n2:=11) (n3:=25)) [] rfl [] rfl ?_)
  rintro _ _ _ ⟨rfl,rfl,rfl⟩
  refine⟨(fun _=>wk [0,0,0,0] [0,1] rfl rfl), ?_⟩
  refine an (dy rfl rfl)<|an (dy rfl rfl)<|an (dy rfl rfl)<| ?_
  generalize hk:gO.getD i 0=k
  refine an (yV (dy rfl rfl) ((rfl:_=Wd (rt v k (W.getD i 0)))))<|an (ab rfl)<|bq<|al (ρ' :=[(10,_),(9,_),(8,_),(7,_),(17,_),(16,_),(6,_),(5,_),(4,_),(2,_),(0,_),(1,_)]) ⟨rfl,rfl,rfl,rfl,rfl,rfl,rfl,rfl,rfl,rfl,rfl,rfl,trivial⟩<|ak (X' :=[_,_,_,_]) (S' :=[_,_]) (fun _ m=>m)<|ag<|ah<|cK [1] [(0,some 0),(2,some 1),(3,some 1),(4,some 1),(5,some 1),(6,some 1),(7,some 1),(8,some 1),(9,some 1),(10,some 1),(11,some 1),(12,some 1),(13,some 1),(14,some 1),(15,some 1),(16,some 1),(1,none),(17,some 1),(18,some 1)] (by kernel_rfl) (by kernel_rfl) rfl 99<|an (aa rfl)<|an (aa rfl)<|an (bY rfl rfl Tryz.underlying306 bN (show((1:Nat):Int)=1 from rfl) (by omega))<|cd (fun m=>ar rfl bW ((m.aT 0 rfl).ay 1 _ (bk (by omega))))<|an (jc rfl rfl)<|an (aa rfl)<|an (bY rfl rfl Tryz.underlying306 bN (show((2:Nat):Int)=2 from rfl) (by omega))<|cd (fun m=>ar rfl bW ((m.aT 0 rfl).ay 2 _ (bk (by omega))))<|an (jc rfl rfl)<|an (en rfl rfl)<|an (bY rfl rfl Tryz.underlying306 bN (show((1:Nat):Int)=1 from rfl) (by omega))<|cd (fun m=>ar rfl bW ((m.aT 0 rfl).ay 1 _ (bk (by omega))))<|an (bY rfl rfl Tryz.underlying306 bN (show((2:Nat):Int)=2 from rfl) (by omega))<|cd (fun m=>ar rfl bW ((m.aT 0 rfl).ay 2 _ (bk (by omega))))<|an (jc rfl rfl)<|an (en rfl rfl)<| ?_
  refine ee (ao rfl Tryz.call269 (vk (by decide) (by decide) (by decide) (n1:=2) (n2:=13) (n3:=22)) [] rfl [] rfl ?_)
  rintro _ _ _ ⟨rfl,rfl,rfl⟩
  refine⟨(fun _=>wk [0,0,0,0] [0,1] rfl rfl), ?_⟩
  refine an (yV (dy rfl rfl) ((rfl:_=Wd (ru v))))<|an (ab rfl)<|bq<|al (ρ' :=[(11,_),(10,_),(9,_),(8,_),(7,_),(17,_),(16,_),(6,_),(5,_),(4,_),(2,_),(0,_),(1,_)]) ⟨rfl,rfl,rfl,rfl,rfl,rfl,rfl,rfl,rfl,rfl,rfl,rfl,rfl,trivial⟩<|ak (X' :=[_,_,_,_]) (S' :=[_,_]) (fun _ m=>m)<|ag<|aj<|hy (fun _=>aa rfl)<|hy (fun _=>aa rfl)<|hy (fun _=>dy rfl rfl)<|hy (fun _=>bY rfl rfl Tryz.underlying306 bN (show((0:Nat):Int)=0 from rfl) (by omega))<|hy (fun m=>ar rfl bW ((m.aT 0 rfl).ay 0 _ (bk (by omega))))<|hy (fun _=>bY rfl rfl Tryz.underlying306 bN (show((1:Nat):Int)=1 from rfl) (by omega))<|hy (fun m=>ar rfl bW ((m.aT 0 rfl).ay 1 _ (bk (by omega))))<|hy (fun _=>bY rfl rfl Tryz.underlying306 bN (show((2:Nat):Int)=2 from rfl) (by omega))<|hy (fun m=>ar rfl bW ((m.aT 0 rfl).ay 2 _ (bk (by omega))))<|hy (fun _=>bY rfl rfl Tryz.underlying306 bN (show((3:Nat):Int)=3 from rfl) (by omega))<|hy (fun m=>ar rfl bW ((m.aT 0 rfl).ay 3 _ (bk (by omega))))<|hy (fun _=>aa rfl)<|hy (fun _=>dy rfl rfl)<|hy (fun _=>bY rfl rfl Tryz.underlying306 bN (show((4:Nat):Int)=4 from rfl) (by omega))<|hy (fun m=>ar rfl bW ((m.aT 0 rfl).ay 4 _ (bk (by omega))))<|hy (fun _=>bY rfl rfl Tryz.underlying306 bN (show((5:Nat):Int)=5 from rfl) (by omega))<|hy (fun m=>ar rfl bW ((m.aT 0 rfl).ay 5 _ (bk (by omega))))<|hy (fun _=>bY rfl rfl Tryz.underlying306 bN (show((6:Nat):Int)=6 from rfl) (by omega))<|hy (fun m=>ar rfl bW ((m.aT 0 rfl).ay 6 _ (bk (by omega))))<|hy (fun _=>yV (sC (n:=8) uL (by kernel_rfl) rfl (by kernel_rfl) rfl (by kernel_rfl) (by kernel_rfl) (qa (l:=[_,_,_,_,_,_,_,_]))) ((rfl:_=Value.agg (ei (EG v k (W.getD i 0))).toArray)))<| ?_
  refine cI (aI 0 rfl rfl rfl lu rfl ij (by rw[bw,hv]) ?_)
  refine ai<|al (ρ' :=[(11,_),(10,_),(9,_),(8,_),(7,_),(17,_),(16,_),(6,_),(5,_),(4,_),(2,_),(0,_),(1,_)]) ⟨rfl,rfl,rfl,rfl,rfl,rfl,rfl,rfl,rfl,rfl,rfl,rfl,rfl,trivial⟩<|ak (X' :=[_,_,_,_]) (S' :=[_,_]) (fun _ m=>m)<|aQ<|ag<|aj<|hy (fun _=>aJ rfl rfl (bA (by omega) (by omega)))<|hy (fun _=>aa rfl)<|ai<|al (ρ' :=[(16,_),(11,_),(10,_),(9,_),(8,_),(7,_),(17,_),(6,_),(5,_),(4,_),(2,_),(0,_),(1,_)]) ⟨rfl,rfl,rfl,rfl,rfl,rfl,rfl,rfl,rfl,rfl,rfl,rfl,rfl,trivial⟩<| ?_
  refine ak (fun w m=>m.bM 0 rfl (show _=aG g6 306 (ei (mP W h (i+1)))from by rw[←hvd,←hk];rfl)) ?_
  refine cZ (i+1) ⟨rfl,rfl,rfl,rfl,rfl,rfl,rfl,trivial⟩ [0,0,0,0] rfl [0,1] rfl (by omega) (by omega)
 ·obtain rfl:i=64:=by omega
  generalize hvv:mP W h 64=v at hv ⊢
  refine bu (fun w m=>m.bM 0 rfl (show _=aG g6 306 (ei (fX v h 0))from by rw[qq])) ?_
  refine bP<|au<|au<|aC<|ag<|ah<|ah<|aj<|hy (fun _=>aa rfl)<|ai<|ag<|aN<| ?_
  refine dR (fun j=>8-j) (fun j=>[(86,.int .i64 (j:Nat))]) (fun j=>[aG g6 306 (ei (fX v h j))]) (fun j=>[]) (fun j=>j≤8) 0 [(17,_),(16,_),(6,_),(5,_),(4,_),(2,_),(0,_),(1,_)] ⟨rfl,rfl,rfl,rfl,rfl,rfl,rfl,rfl,trivial⟩ [0] rfl [] rfl (Nat.zero_le _) ⟨rfl,trivial⟩ (fun j hj8=> ?_)
  have hsl:=s7 v h j
  refine ah<|aj<|hy (fun _=>br rfl rfl)<|ai<|ag<|ah<| ?_
  refine cL rfl (fun hj=> ?_) (fun hj=> ?_)
  ·refine aB<|ag<|ah<|aN<|ah<|aj<|hy (fun _=>aa rfl)<|hy (fun _=>ab rfl)<|ai<|al (ρ' :=[(12,_),(87,_),(86,_),(17,_),(16,_),(6,_),(5,_),(4,_),(2,_),(0,_),(1,_)]) ⟨rfl,rfl,rfl,rfl,rfl,rfl,rfl,rfl,rfl,rfl,rfl,trivial⟩<|ag<|cK [8] [(0,some 0),(1,some 0),(2,some 0),(3,some 0),(4,some 0),(5,some 0),(6,some 0),(7,some 0),(8,none)] (by kernel_rfl) (by kernel_rfl) rfl 0<|an (aa rfl)<|an (bY rfl rfl Tryz.underlying306 bN rfl (by omega))<|cd (fun m=>ar rfl bW ((m.aT 0 rfl).ay j _ (bk (by omega))))<|an (aa rfl)<|an (bY rfl rfl Tryz.underlying306 bN rfl (by omega))<|cd (fun m=>ar rfl bW ((m.aT 3 rfl).ay j _ (bk (by omega))))<|an (yV (dy rfl rfl) ((rfl:_=Wd (v_ (fX v h j) j+v_ h j))))<|an (bY rfl rfl Tryz.underlying306 bN rfl (by omega))<| ?_
   refine j5 (bR 0 rfl rfl rfl bN rfl (by rw[bw];omega) ⟨(fun h=>absurd h (by decide)), ?_⟩)
   refine bq<|al (ρ' :=[(12,_),(87,_),(86,_),(17,_),(16,_),(6,_),(5,_),(4,_),(2,_),(0,_),(1,_)]) ⟨rfl,rfl,rfl,rfl,rfl,rfl,rfl,rfl,rfl,rfl,rfl,trivial⟩<|ak (X' :=[_,_,_,_]) (S' :=[_,_]) (fun _ m=>m)<|aQ<|ag<|aj<|hy (fun _=>aJ rfl rfl (bA (by omega) (by omega)))<|hy (fun _=>aa rfl)<|ai<|al (ρ' :=[(86,_),(12,_),(87,_),(17,_),(16,_),(6,_),(5,_),(4,_),(2,_),(0,_),(1,_)]) ⟨rfl,rfl,rfl,rfl,rfl,rfl,rfl,rfl,rfl,rfl,rfl,trivial⟩<| ?_
   refine ak (fun w m=>m.bM 0 rfl (show _=aG g6 306 (ei (fX v h (j+1)))from by rw[Nat.zero_add,uf,pX (by omega)])) ?_
   refine cZ (j+1) ⟨rfl,rfl,rfl,rfl,rfl,rfl,rfl,rfl,rfl,trivial⟩ [0,0,0,0] rfl [0,1] rfl (by omega) (by omega)
  ·obtain rfl:j=8:=by omega
   have hB:fX v h 8=eX h l:=by rw[eX,hW,hvv]
   rw[hB]
   have hbl:=ji hh l
   refine bP<|au<|au<|aC<|ag<|ah<|aj<|hy (fun m=>yV (aX rfl qe lu (by rw[bw,hbl]) ((m.aT 0 rfl).ay)) ((rfl:_=Value.agg (ei (eX h l)).toArray)))<| ?_
   refine cI (aI 2 rfl rfl rfl lu (by rw[bw,hbl]) ij rfl ?_)
   refine ai<|al (ρ' :=[(87,_),(86,_),(17,_),(16,_),(6,_),(5,_),(4,_),(2,_),(0,_),(1,_)]) ⟨rfl,rfl,rfl,rfl,rfl,rfl,rfl,rfl,rfl,rfl,trivial⟩<|ak (X' :=[_,_,_,_]) (S' :=[_,_]) (fun _ m=>m)<|ag<|aU<| ?_
   exact fC trivial rfl rfl qe lu (by rw[bw,hbl]) (fun m=>(m.aT 0 rfl).ay) [] rfl [] rfl ⟨rfl,rfl,rfl⟩
end Go.Proofs.YtmibdabdlgmafaaGreatDoor
end
section
set_option maxRecDepth 100000
namespace Go.Proofs.YtmibdabdlgmafaaGreatDoor
open Go.Eng Go.Hx Go.ChangeShapes Go.WideShapes Go.ChangeAt Go.WideMaps Go.WideElems Go.RowKit
theorem Bx : Tryz.prog.globalNamed "lighterage/sha.roots" = some 1 := by kernel_rfl
theorem BQ:(Tryz.prog.globals[1]?).map (·.type)=some 354:=by kernel_rfl
theorem tQ:(Rows.laid_lighterage_sha_roots:DataW Unit)= .agg (gO.map fun x=>.lit (.int .u32 (x.toNat:Int))):=by kernel_rfl
theorem yN (os : Os) (args : Array Value) : laidMetH Tryz.prog [("lighterage/sha.roots", Rows.laid_lighterage_sha_roots)] ((World.doorLaid Tryz.prog 400 os).forCall (fun _ _ => 0) ⟨#[], args, []⟩).memory :=
  laidMetH_of_parts3 (fuel:=8) (laidMet_of_run' 8 (by kernel_rfl) (by kernel_rfl)) (by kernel_rfl) (by kernel_rfl)
theorem pI {W : World} (h : laidMetH Tryz.prog [("lighterage/sha.roots", Rows.laid_lighterage_sha_roots)] W) : fm.holds W := by
  rw[MakeChecks.laidMetH_plain _ _ _ (by kernel_rfl)]at h
  obtain⟨ps,⟨g0,t0,cs0,f0,p0,q0,hg0,ht0,hv0,hd0,_,_⟩,_,_⟩:=h
  obtain rfl:=Option.some.inj (Bx.symm.trans hg0)
  obtain rfl:=Option.some.inj (BQ.symm.trans ht0)
  rw[tQ]at hd0
  obtain⟨xs,m1,rfl,hx1,hlen,hn,hel⟩:=DataW.trod_array Tryz.underlying354 hd0
  have c3:Tryz.prog.cellsOf 166=1:=by kernel_rfl
  simp only[Prod.mk.injEq,DataW.agg.injEq]at hx1
  refine⟨by rw[bw];rfl,fun _=>by simp,fun j u hu=> ?_⟩
  have hj:j<64:=by
    obtain⟨h1,_⟩:=List.getElem?_eq_some_iff.1 hu
    rw[bw]at h1
    exact h1
  have h0:=hel j hj
  have hxj:(xs.map (·.1))[j]? =(gO.map fun x=>DataW.lit (Lit.int .u32 (x.toNat:Int)))[j]? :=by rw[←hx1.1]
  obtain⟨y,hy⟩:∃y,xs[j]? =some y:=⟨_,List.getElem?_eq_getElem (by omega)⟩
  rw[hy]at h0
  obtain⟨n,e1,e2,_⟩:=DataW.trod_int Tryz.underlying166 h0
  rw[List.getElem?_map,hy,List.getElem?_map]at hxj
  rw[ei,List.getElem?_map]at hu
  cases hr:gO[j]? with
  |none=>rw[hr]at hu;cases hu
  |some r=>
    rw[hr]at hu hxj
    rw[e2]at hxj
    have hn2:n=(r.toNat:Int):=by simpa using hxj
    have hu2:u= .int .u32 (r.toNat:Int):=by simpa using hu.symm
    have h5:=World.var?_cell hg0 hv0 j
    rw[c3,Nat.mul_one]at e1
    have h6:cs0[j]? =some (.int .u32 n):=by
      have h7:(List.take 1 (List.drop j cs0.toList))[0]? =some (.int .u32 n):=by rw[e1];rfl
      rw[List.getElem?_take,if_pos (by decide),List.getElem?_drop,Nat.add_zero]at h7
      simpa using h7
    show W.cell? ((Option.getD (some _) d0).add j)=some u
    rw[hu2,←hn2,←h6,←h5]
    have e:(⟨1,0,none⟩:Addr).add j=⟨1,j,none⟩:=by simp[Addr.add];omega
    exact congrArg W.cell? e
end Go.Proofs.YtmibdabdlgmafaaGreatDoor
end
section
namespace Go.Hx
open Go.Eng
abbrev cb:=Lib.compareBytes
theorem Cu(a b:UInt8):a<b∨a=b∨b<a:=by
 rcases Nat.lt_trichotomy a.toNat b.toNat with h|h|h
 ·exact .inl h
 ·exact .inr (.inl (UInt8.toNat_inj.1 h))
 ·exact .inr (.inr h)
theorem uG:∀a:List UInt8,cb a a=0
 | []=>rfl
 |x::a=>by simp[cb,Lib.compareBytes,UInt8.lt_irrefl];exact uG a
theorem k5(x y:UInt8)(a b:List UInt8):cb (x::a) (y::b)=if x<y then-1 else if y<x then 1 else cb a b:=rfl
theorem yL{x y:UInt8}(h:x<y):¬y<x:=by
 have:x.toNat<y.toNat:=h
 intro h'
 have:y.toNat<x.toNat:=h'
 omega
theorem yU:∀(a b:List UInt8) (k:Nat),a.take k=b.take k→k<a.length→k<b.length→cb a b=if a.getD k 0<b.getD k 0 then-1 else if b.getD k 0<a.getD k 0 then 1 else cb (a.drop (k+1)) (b.drop (k+1))
 | [],b,k,_,h,_=>by simp at h
 |_::_,[],k,_,_,h=>by simp at h
 |x::a,y::b,0,_,_,_=>by rw[k5];simp
 |x::a,y::b,k+1,h,h1,h2=>by
  simp only[List.take_succ_cons,List.cons.injEq]at h
  obtain⟨rfl,h⟩:=h
  rw[k5]
  simp only[UInt8.lt_irrefl,if_false,List.getD_cons_succ,List.drop_succ_cons]
  exact yU a b k h (by simpa using h1) (by simpa using h2)
theorem Dd{a b:List UInt8}{k:Nat}(h:a.take k=b.take k)(h1:k<a.length)(h2:k<b.length)(hlt:a.getD k 0<b.getD k 0):cb a b=-1:=by rw[yU a b k h h1 h2,if_pos hlt]
theorem De{a b:List UInt8}{k:Nat}(h:a.take k=b.take k)(h1:k<a.length)(h2:k<b.length)(hlt:b.getD k 0<a.getD k 0):cb a b=1:=by rw[yU a b k h h1 h2,if_neg (yL hlt),if_pos hlt]
theorem wb{a b:List UInt8}{k:Nat}(h:a.take k=b.take k)(h1:k<a.length)(h2:k<b.length)(n1:¬a.getD k 0<b.getD k 0)(n2:¬b.getD k 0<a.getD k 0):a.take (k+1)=b.take (k+1):=by
 rw[dX h1,dX h2,h]
 rcases Cu (a.getD k 0) (b.getD k 0)with h|h|h
 ·exact absurd h n1
 ·rw[h]
 ·exact absurd h n2
theorem n8:∀i j:Nat,i<16→j<16→(jU.getD i 0<jU.getD j 0↔i<j):=by
 have:∀i,i<16→∀j,j<16→(jU.getD i 0<jU.getD j 0↔i<j):=by decide+kernel
 exact fun i j hi hj=>this i hi j hj
theorem uT:∀a b:List UInt8,cb (b9 a) (b9 b)=cb a b
 | [],[]=>rfl
 | [],y::b=>by simp[b9,pj,cb,Lib.compareBytes]
 |x::a,[]=>by simp[b9,pj,cb,Lib.compareBytes]
 |x::a,y::b=>by
  have e:∀(a:UInt8) (r:List UInt8),b9 (a::r)=jU.getD (a.toNat/16) 0::jU.getD (a.toNat % 16) 0::b9 r:=by intro a r;simp[b9,pj]
  have hx:=x.toNat_lt
  have hy:=y.toNat_lt
  rw[e,e,k5,k5,k5,uT a b]
  have l1:=n8 (x.toNat/16) (y.toNat/16) (by omega) (by omega)
  have l2:=n8 (y.toNat/16) (x.toNat/16) (by omega) (by omega)
  have l3:=n8 (x.toNat % 16) (y.toNat % 16) (by omega) (by omega)
  have l4:=n8 (y.toNat % 16) (x.toNat % 16) (by omega) (by omega)
  have m1:(x<y)↔x.toNat<y.toNat:=Iff.rfl
  have m2:(y<x)↔y.toNat<x.toNat:=Iff.rfl
  simp only[l1,l2,l3,l4,m1,m2]
  split
  ·rw[if_pos (by omega)]
  ·split
   ·rw[if_neg (by omega),if_pos (by omega)]
   ·split
    ·rw[if_pos (by omega)]
    ·split
     ·rw[if_neg (by omega),if_pos (by omega)]
     ·rw[if_neg (by omega),if_neg (by omega)]
end Go.Hx
end
section
set_option maxRecDepth 20000
namespace Go.Proofs.YtmibdabdlgmafaaGreatDoor
open Go.Eng Go.Hx
theorem EO(A:Option Addr)(n c:Nat)(l:List UInt8)(m:Nat)(w:World)(hr:Rd w 1 A n (aZ l))(hc:n≤c)(hn:n≤140737488351232):
  Calls Tryz.prog 32 #[.slice A n c,.int .i64 (m:Int)] w fun e w' =>∃v,e= .returned v∧Go.Eng.Own w' w.heap.size 5 1 v (min n m) (aZ (l.take m))∧Fr No w w' :=by
 have hl:l.length=n:=by have:=hr.1;rw[aF]at this;omega
 have hrd:Rd w 1 A (min n m) (aZ (l.take m)):=by
  have:=hr.take (k:=min n m) (by omega)
  have e:(aZ l).take (min n m*1)=aZ (l.take m):=by
   rw[aZ,aZ,←List.map_take,Nat.mul_one]
   congr 1
   by_cases h:m≤n
   ·congr 1;omega
   ·rw[List.take_of_length_le (by omega),List.take_of_length_le (by omega)]
  rw[e]at this
  exact this
 refine enter (N:=14) Tryz.func32 rfl rfl (by simp) ?_
 refine aS<|a8<|nq (ab rfl)<|a7<|aE<|aS<|a8<|nq (ab rfl)<|a7<|aE<|aS<|a8<|nq (aa rfl)<|nq (aa rfl)<|nq (aa rfl)<|nq (aR rfl Tryz.underlying27)<|nq (aa rfl)<|nq (ln rfl rfl)<|nq (jS rfl rfl Tryz.underlying27 eg (show((min n m:Nat):Int)=_ by omega) ((by omega)))<| ?_
 refine nx (j8 rfl rfl Tryz.underlying27 Tryz.underlying27 (by exact .inl rfl) eO rfl (Own.nil w w.heap.size _ 1) (Src.bT hrd) aY (by unfold maxLen;omega) (by omega) (by omega) fun v w1 ho hf hv=> ?_)
 refine nq (ab rfl)<|a7<|bx (ae (t:=4) rfl<|ae (t:=5) rfl<|ae (t:=0) rfl<|ae (t:=1) rfl<|aA)<|aE<|dI<| ?_
 refine eT trivial rfl rfl ⟨v,rfl, ?_,hf.mono (fun _ _ e=>e.elim)⟩
 simpa using ho
def fB(n m:Int):Int:=(if n<0 then-(n+1)else n) % m
theorem mN(n m:Int)(hm:0<m):0≤fB n m∧fB n m<m:=⟨Int.emod_nonneg _ (by omega),Int.emod_lt_of_pos _ hm⟩
theorem wI(n m:Int)(w:World)(h1:-9223372036854775808≤n)(h2:n≤9223372036854775807)(hm:0<m):
  Calls Tryz.prog 16 #[.int .i64 n,.int .i64 m] w fun e w' =>e= .returned (.int .i64 (fB n m))∧w=w' :=by
 refine enter (N:=13) Tryz.func16 rfl rfl (by simp) ?_
 refine aS<|a8<|nq (ab rfl)<|a7<|aE<|aS<|aS<|a8<|nq (aa rfl)<|nq (br rfl rfl)<|a7<|bx (ae (t:=6) rfl<|ae (t:=4) rfl<|ae (t:=0) rfl<|ae (t:=1) rfl<|aA)<|aE<| ?_
 refine ma rfl (fun h=> ?_) (fun h=> ?_)
 ·refine a8<|nq (aa rfl)<|nq (aJ rfl rfl (bA (by omega) (by omega)))<|nq (uM rfl (bA (by omega) (by omega)))<|nq (ab rfl)<|a7<|bx (ae (t:=0) rfl<|ae (t:=6) rfl<|ae (t:=4) rfl<|ae (t:=1) rfl<|aA)<|aE<|aS<|a8<|nq (aa rfl)<|nq (aa rfl)<|nq (gC rfl rfl (by omega) (by omega))<|nq (ab rfl)<|a7<|bx (ae (t:=4) rfl<|ae (t:=0) rfl<|ae (t:=6) rfl<|ae (t:=1) rfl<|aA)<|aE<|dI<| ?_
  refine eT trivial rfl rfl ⟨?_,rfl⟩
  simp only[fB,if_pos h]
 ·refine dA<|aE<|aS<|a8<|nq (aa rfl)<|nq (aa rfl)<|nq (gC rfl rfl (by omega) (by omega))<|nq (ab rfl)<|a7<|bx (ae (t:=4) rfl<|ae (t:=6) rfl<|ae (t:=0) rfl<|ae (t:=1) rfl<|aA)<|aE<|dI<| ?_
  refine eT trivial rfl rfl ⟨?_,rfl⟩
  simp only[fB,if_neg h]
theorem za(s:List UInt8)(m:Nat)(w:World):Calls Tryz.prog 97 #[.string (strOf s),.int .i64 (m:Int)] w fun e w' =>e= .returned (.string (strOf (s.take m)))∧w=w' :=by
 refine enter (N:=13) Tryz.func97 rfl rfl (by simp) ?_
 refine aS<|a8<|nq (ab rfl)<|a7<|aE<|aS<|aS<|a8<|nq (aa rfl)<|nq (cp rfl Tryz.underlying9)<|nq (aa rfl)<|nq (cW rfl rfl)<|a7<|bx (ae (t:=8) rfl<|ae (t:=4) rfl<|ae (t:=0) rfl<|ae (t:=1) rfl<|aA)<|aE<| ?_
 refine ma rfl (fun h=> ?_) (fun h=> ?_)
 ·rw[cr]at h
  refine aS<|a8<|nq (aa rfl)<|nq (aa rfl)<|nq (hC rfl rfl Tryz.underlying9 rfl ((by rw[gx];omega)))<|nq (ab rfl)<|a7<|bx (ae (t:=4) rfl<|ae (t:=8) rfl<|ae (t:=0) rfl<|ae (t:=1) rfl<|aA)<|aE<|dI<|bz<| ?_
  exact eT trivial rfl rfl ⟨rfl,rfl⟩
 ·rw[cr]at h
  refine dA<|aE<|aS<|a8<|nq (aa rfl)<|nq (ab rfl)<|a7<|bx (ae (t:=4) rfl<|ae (t:=8) rfl<|ae (t:=0) rfl<|ae (t:=1) rfl<|aA)<|aE<|dI<| ?_
  refine eT trivial rfl rfl ⟨?_,rfl⟩
  rw[List.take_of_length_le (by omega)]
theorem yl(a b:List UInt8)(w:World)(ha:a.length=32)(hb:b.length=32):
  Calls Tryz.prog 171 #[.agg (aZ a).toArray,.agg (aZ b).toArray] w fun e w' =>e= .returned (.int .i64 (cb a b))∧Fr No w w' :=by
 refine enter (N:=24) Tryz.func171 rfl rfl (by simp) ?_
 refine aS<|a8<| ?_
 refine nx (oZ rfl fun g1 w1 hg1 hf1 hb1=> ?_)
 refine nx (oZ rfl fun g2 w2 hg2 hf2 hb2=> ?_)
 rw[bG]at hb1 hb2
 refine nq (ab rfl)<|a7<|aE<|aS<|aS<|a8<|nq (ab rfl)<|a7<|aE<|cR<| ?_
 refine kl (fun k=>32-k) (fun k=>[(2,.pointer (some ⟨g1,0,none⟩)),(3,.pointer (some ⟨g2,0,none⟩)),(5,.int .i64 (k:Nat))]) (fun k w' =>k≤32∧a.take k=b.take k∧Fr No w2 w') 0 (⟨Nat.zero_le _,rfl,Fr.refl _ _⟩) (ae (t:=2) rfl<|ae (t:=3) rfl<|ae (t:=5) rfl<|aA) (fun k w3 ⟨hk,hab,hf3⟩=> ?_)
 refine aS<|aS<|a8<|nq (aa rfl)<|nq (br rfl rfl)<|a7<|bx (ae (t:=7) rfl<|ae (t:=2) rfl<|ae (t:=3) rfl<|ae (t:=5) rfl<|aA)<|aE<| ?_
 refine ma rfl (fun h=> ?_) (fun h=> ?_)
 ·have hk2:k<32:=by omega
  have h1:∀w',Fr No w2 w' →eU w' g1 53 (aZ a):=fun w' f=>(hb1.nu hf2).nu f
  have h2:∀w',Fr No w2 w' →eU w' g2 53 (aZ b):=fun w' f=>hb2.nu f
  have ga:=bJ (l:=a) (i:=k) (by omega)
  have gb:=bJ (l:=b) (i:=k) (by omega)
  refine dA<|aE<|aS<|cR<|aS<|aS<| ?_
  refine wT [(0,false),(1,false),(2,false),(3,false),(4,false),(5,false),(6,false)] (by kernel_rfl) (by kernel_rfl) rfl (fun w' =>Fr No w2 w') (hf3.cB (Fr.drew _)) (fun w4 hf4 hS4=> ?_)
  refine sq (fun w_ hS_=>aa rfl)<|sq (fun w_ hS_=>bY rfl rfl Tryz.underlying53 eg rfl (by omega))<|sq (fun w_ hS_=>ar rfl iN (((h1 _ hS_).ay _ _ ga)))<|sq (fun w_ hS_=>aa rfl)<|sq (fun w_ hS_=>bY rfl rfl Tryz.underlying53 eg rfl (by omega))<|sq (fun w_ hS_=>ar rfl iN (((h2 _ hS_).ay _ _ gb)))<|sq (fun w_ hS_=>br rfl rfl)<|send<|bx (ae (t:=16) rfl<|ae (t:=7) rfl<|ae (t:=2) rfl<|ae (t:=3) rfl<|ae (t:=5) rfl<|aA)<|aE<| ?_
  refine ma rfl (fun hlt=> ?_) (fun hlt=> ?_)
  ·refine aS<|a8<|nq (ab rfl)<|a7<|aE<|dI<|bz<|cA<|bz<|bz<|cA<|bz<| ?_
   refine eT trivial rfl rfl ⟨?_,(hf1.cB hf2).cB hS4⟩
   rw[Dd hab (by omega) (by omega) (show(a.getD k 0).toNat<(b.getD k 0).toNat by omega)]
  ·refine dA<|aE<|aS<| ?_
   refine wT [(0,false),(1,false),(2,false),(3,false),(4,false),(5,false),(6,false)] (by kernel_rfl) (by kernel_rfl) rfl (fun w' =>Fr No w2 w') (hS4.cB (Fr.drew _)) (fun w5 hf5 hS5=> ?_)
   refine sq (fun w_ hS_=>aa rfl)<|sq (fun w_ hS_=>bY rfl rfl Tryz.underlying53 eg rfl (by omega))<|sq (fun w_ hS_=>ar rfl iN (((h1 _ hS_).ay _ _ ga)))<|sq (fun w_ hS_=>aa rfl)<|sq (fun w_ hS_=>bY rfl rfl Tryz.underlying53 eg rfl (by omega))<|sq (fun w_ hS_=>ar rfl iN (((h2 _ hS_).ay _ _ gb)))<|sq (fun w_ hS_=>cW rfl rfl)<|send<|bx (ae (t:=23) rfl<|ae (t:=16) rfl<|ae (t:=7) rfl<|ae (t:=2) rfl<|ae (t:=3) rfl<|ae (t:=5) rfl<|aA)<|aE<| ?_
   refine ma rfl (fun hgt=> ?_) (fun hgt=> ?_)
   ·refine aS<|a8<|nq (ab rfl)<|a7<|aE<|dI<|cA<|bz<|bz<|cA<|bz<| ?_
    refine eT trivial rfl rfl ⟨?_,(hf1.cB hf2).cB hS5⟩
    rw[De hab (by omega) (by omega) (show(b.getD k 0).toNat<(a.getD k 0).toNat by omega)]
   ·refine dA<|fb<|aE<|a8<|nq (aa rfl)<|nq (aJ rfl rfl (bA (by omega) (by omega)))<|nq (ab rfl)<|a7<|bx (ae (t:=5) rfl<|ae (t:=23) rfl<|ae (t:=16) rfl<|ae (t:=7) rfl<|ae (t:=2) rfl<|ae (t:=3) rfl<|aA)<| ?_
    refine kF (k+1) (ae (t:=2) rfl<|ae (t:=3) rfl<|ae (t:=5) rfl<|aA) (⟨by omega,wb hab (by omega) (by omega) (fun q=>hlt (by have:(a.getD k 0).toNat<(b.getD k 0).toNat:=q;omega)) (fun q=>hgt (by have:(b.getD k 0).toNat<(a.getD k 0).toNat:=q;omega)),hS5⟩) (by omega)
 ·obtain rfl:k=32:=by omega
  refine iW<|bO<|bO<|cP<|aE<|aS<|a8<|nq (ab rfl)<|a7<|aE<|dI<| ?_
  refine eT trivial rfl rfl ⟨?_,(hf1.cB hf2).cB hf3⟩
  rw[List.take_of_length_le (by omega),List.take_of_length_le (by omega)]at hab
  rw[hab,uG]
theorem pF{a b:List UInt8}{j n:Nat}(ha:a.length=n)(hb:b.length=n)(hj:j<n):(a.take j++b.drop j).set j (a.getD j 0)=a.take (j+1)++b.drop (j+1):=by
 rw[List.set_append,if_neg (by rw[List.length_take];omega),List.length_take,Nat.min_eq_left (by omega),Nat.sub_self,dX (by omega),List.append_assoc]
 congr 1
 rw[List.drop_eq_getElem_cons (by omega)]
 rfl
theorem oe:(Value.agg (aZ (List.replicate 32 0)).toArray).cells.toList=aZ (List.replicate 32 0):=rfl
theorem of(A:Option Addr)(c:Nat)(l:List UInt8)(w:World)(hr:Rd w 1 A 32 (aZ l)):
  Calls Tryz.prog 170 #[.slice A 32 c] w fun e w' =>e= .returned (.agg (aZ l).toArray)∧Fr No w w' :=by
 have hl:l.length=32:=by have:=hr.1;rw[aF]at this;omega
 refine enter (N:=16) Tryz.func170 rfl rfl (by simp) ?_
 refine aS<|a8<| ?_
 refine nx (mB cX fun g1 w1 hg1 hf1 hb1=> ?_)
 refine a7<|aE<|aS<|a8<| ?_
 refine nx (mB cX fun g2 w2 hg2 hf2 hb2=> ?_)
 rw[oe]at hb1 hb2
 have hlt:=hb1.lt
 refine a7<|aE<|aS<|aS<|a8<|nq (ab rfl)<|a7<|aE<|cR<| ?_
 refine kl (fun j=>32-j) (fun j=>[(0,.slice A 32 c),(2,.pointer (some ⟨g1,0,none⟩)),(3,.pointer (some ⟨g2,0,none⟩)),(4,.int .i64 (j:Nat))]) (fun j w' =>j≤32∧Fr No w w' ∧eU w' g1 53 (aZ (List.replicate 32 0))∧eU w' g2 53 (aZ (l.take j++(List.replicate 32 0).drop j))) 0 (⟨Nat.zero_le _,hf1.cB hf2,hb1.nu hf2,hb2⟩) (ae (t:=0) rfl<|ae (t:=2) rfl<|ae (t:=3) rfl<|ae (t:=4) rfl<|aA) (fun j w4 ⟨hj,hf4,i1,i2⟩=> ?_)
 refine aS<|aS<|a8<|nq (aa rfl)<|nq (br rfl rfl)<|a7<|bx (ae (t:=6) rfl<|ae (t:=0) rfl<|ae (t:=2) rfl<|ae (t:=3) rfl<|ae (t:=4) rfl<|aA)<|aE<| ?_
 refine ma rfl (fun h=> ?_) (fun h=> ?_)
 ·have ga:=bJ (l:=l) (i:=j) (by omega)
  have hlen:(l.take j++(List.replicate 32 (0:UInt8)).drop j).length=32:=by rw[List.length_append,List.length_take,List.length_drop,List.length_replicate];omega
  have r4:=hr.nu hf4
  refine dA<|aE<|aS<|cR<|a8<|nq (aa rfl)<|nq (aa rfl)<|nq (aa rfl)<|nq (aK rfl rfl Tryz.underlying27 eg r4.2.1 rfl (by omega))<|nq (ar rfl iN (r4.cell ga))<|nq (bY rfl rfl Tryz.underlying53 eg rfl (by omega))<| ?_
  refine yY (CL rfl rfl eg rfl i2 (by rw[aF];omega) fun w5 hf5 i2' hs5=> ?_)
  rw[Nat.zero_add,←vb,pF hl (List.length_replicate ..) (by omega)]at i2'
  refine a7<|bx (ae (t:=6) rfl<|ae (t:=0) rfl<|ae (t:=2) rfl<|ae (t:=3) rfl<|ae (t:=4) rfl<|aA)<|fb<|aE<|a8<|nq (aa rfl)<|nq (aJ rfl rfl (bA (by omega) (by omega)))<|nq (ab rfl)<|a7<|bx (ae (t:=4) rfl<|ae (t:=6) rfl<|ae (t:=0) rfl<|ae (t:=2) rfl<|ae (t:=3) rfl<|aA)<| ?_
  refine kF (j+1) (ae (t:=0) rfl<|ae (t:=2) rfl<|ae (t:=3) rfl<|ae (t:=4) rfl<|aA) (⟨by omega,hf4.new hf5 (fun i hi=>by have:=hf1.size;omega),i1.fr hf5 (by omega),i2'⟩) (by omega)
 ·obtain rfl:j=32:=by omega
  have e:l.take 32++(List.replicate 32 (0:UInt8)).drop 32=l:=by
   rw[List.take_of_length_le (by omega),List.drop_of_length_le (by simp)];simp
  rw[e]at i2
  refine iW<|bO<|bO<|cP<|aE<|aS<|a8<|nq (aX rfl ct bn ((by rw[aF];exact hl)) i2.ay)<| ?_
  refine yY (pa rfl rfl bn hl i1 (by rw[aF];simp) fun w5 hf5 i1' hs5=> ?_)
  refine a7<|bx (ae (t:=6) rfl<|ae (t:=0) rfl<|ae (t:=2) rfl<|ae (t:=3) rfl<|ae (t:=4) rfl<|aA)<|aE<|dI<| ?_
  exact Dq trivial rfl rfl ct bn (by rw[aF];exact hl) i1'.ay ⟨rfl,hf4.new hf5 (fun i hi=>by omega)⟩
theorem bytes(a:List UInt8)(w:World)(ha:a.length=32):
  Calls Tryz.prog 183 #[.agg (aZ a).toArray] w fun e w' =>∃v,e= .returned v∧Go.Eng.Own w' w.heap.size 5 1 v 32 (aZ a)∧Fr No w w' :=by
 refine enter (N:=16) Tryz.func183 rfl rfl (by simp) ?_
 refine aS<|a8<| ?_
 refine nx (oZ rfl fun g1 w1 hg1 hf1 hb1=> ?_)
 rw[bG]at hb1
 refine nq (ab rfl)<|a7<|aE<|aS<|a8<|nq (ab rfl)<|a7<|aE<|aS<|aS<|a8<|nq (ab rfl)<|a7<|aE<|cR<| ?_
 refine ry (fun k _=>32-k) (fun k v=>[(1,.pointer (some ⟨g1,0,none⟩)),(3,v),(4,.int .i64 (k:Nat))]) (fun k v w' =>k≤32∧Go.Eng.Own w' w1.heap.size 5 1 v k (aZ (a.take k))∧Fr No w1 w') 0 (.slice none 0 0) (⟨Nat.zero_le _,Own.nil w1 w1.heap.size _ 1,Fr.refl _ _⟩) (ae (t:=1) rfl<|ae (t:=3) rfl<|ae (t:=4) rfl<|aA) (fun k v w2 ⟨hk,ho,hf⟩=> ?_)
 refine aS<|aS<|a8<|nq (aa rfl)<|nq (br rfl rfl)<|a7<|bx (ae (t:=6) rfl<|ae (t:=1) rfl<|ae (t:=3) rfl<|ae (t:=4) rfl<|aA)<|aE<| ?_
 refine ma rfl (fun h=> ?_) (fun h=> ?_)
 ·have ga:=bJ (l:=a) (i:=k) (by omega)
  refine dA<|aE<|aS<|cR<|a8<|nq (aa rfl)<|nq (aa rfl)<|nq (bY rfl rfl Tryz.underlying53 eg rfl (by omega))<|nq (ar rfl iN ((hb1.nu hf).ay _ _ ga))<| ?_
  refine nx (lY Tryz.underlying27 eO rfl rfl rfl (by simp[Value.cells,B8]) (by decide) (by decide) fun g w3 hg hf3 hb3=> ?_)
  refine nx (j8 rfl rfl Tryz.underlying27 Tryz.underlying27 (by exact .inl rfl) eO rfl (ho.nu hf3) (Src.iH hb3 rfl) (aY (l:=[_])) (by unfold maxLen;omega) (by omega) (hf.cB hf3).size fun v4 w4 ho4 hf4 hv4=> ?_)
  refine nq (ab rfl)<|a7<|bx (ae (t:=3) rfl<|ae (t:=6) rfl<|ae (t:=1) rfl<|ae (t:=4) rfl<|aA)<|fb<|aE<|a8<|nq (aa rfl)<|nq (aJ rfl rfl (bA (by omega) (by omega)))<|nq (ab rfl)<|a7<|bx (ae (t:=4) rfl<|ae (t:=3) rfl<|ae (t:=6) rfl<|ae (t:=1) rfl<|aA)<| ?_
  refine oC (k+1) v4 (ae (t:=1) rfl<|ae (t:=3) rfl<|ae (t:=4) rfl<|aA) (⟨by omega,by rw[dX (by omega),bD];exact ho4,(hf.cB hf3).new hf4 (fun i hi=>(ho.from hi).1)⟩) (by omega)
 ·obtain rfl:k=32:=by omega
  refine iW<|bO<|bO<|cP<|aE<|aS<|a8<|nq (aa rfl)<|nq (ab rfl)<|a7<|bx (ae (t:=2) rfl<|ae (t:=6) rfl<|ae (t:=1) rfl<|ae (t:=3) rfl<|ae (t:=4) rfl<|aA)<|aE<|dI<| ?_
  rw[List.take_of_length_le (by omega)]at ho
  exact eT trivial rfl rfl ⟨v,rfl,ho.wide hf1.size,hf1.cB hf⟩
end Go.Proofs.YtmibdabdlgmafaaGreatDoor
end
section
set_option maxRecDepth 20000
namespace Go.Proofs.YtmibdabdlgmafaaGreatDoor
open Go.Eng Go.Hx Go.Extern
theorem text(A:Option Addr)(n c:Nat)(l:List UInt8)(w:World)(hr:Rd w 1 A n (aZ l))(hn:n≤70368744177664):
  Calls Tryz.prog 177 #[.slice A n c] w fun e w' =>e= .returned (.string (strOf (b9 l)))∧Fr No w w' :=by
 have hl:l.length=n:=by have:=hr.1;rw[aF]at this;omega
 refine enter (N:=28) Tryz.func177 rfl rfl (by simp) ?_
 refine aS<|a8<|nq (ab rfl)<|a7<|aE<|aS<|a8<|nq (ab rfl)<|a7<|aE<|aS<|aS<|a8<|nq (aa rfl)<|nq (aR rfl Tryz.underlying27)<|nq (aa rfl)<|a7<|bx (ae (t:=7) rfl<|ae (t:=6) rfl<|ae (t:=3) rfl<|ae (t:=2) rfl<|ae (t:=0) rfl<|aA)<|aE<|cR<| ?_
 refine ry (fun k _=>n-k) (fun k v=>[(0,.slice A n c),(3,v),(6,.int .i64 n),(7,.int .i64 (k:Nat))]) (fun k v w' =>k≤n∧Go.Eng.Own w' w.heap.size 5 1 v (2*k) (aZ (b9 (l.take k)))∧Fr No w w') 0 (.slice none 0 0) (⟨Nat.zero_le _,Own.nil w w.heap.size _ 1,Fr.refl _ _⟩) (ae (t:=0) rfl<|ae (t:=3) rfl<|ae (t:=6) rfl<|ae (t:=7) rfl<|aA) (fun k v w1 ⟨hk,ho,hf⟩=> ?_)
 refine aS<|a8<|nq (br rfl rfl)<|a7<|aE<|aS<| ?_
 refine ma rfl (fun h=> ?_) (fun h=> ?_)
 ·have hkn:k<n:=by omega
  have hb:=(l.getD k 0).toNat_lt
  refine dA<|aE<|aS<|cR<|aS<|a8<|nq (aa rfl)<|nq (ab rfl)<|a7<|bx (ae (t:=4) rfl<|ae (t:=8) rfl<|ae (t:=0) rfl<|ae (t:=3) rfl<|ae (t:=6) rfl<|ae (t:=7) rfl<|aA)<|aE<| ?_
  refine wT [(0,false),(1,false),(2,false),(3,false),(4,false),(5,false),(6,false),(7,false),(8,false),(9,false),(10,false),(11,false),(12,false),(13,true),(14,true),(15,false)] (by kernel_rfl) (by kernel_rfl) rfl (fun w' =>Fr No w w') (hf.cB (Fr.drew _)) (fun w2 hf2 hS2=> ?_)
  refine sq (fun w_ hS_=>aa rfl)<|sq (fun w_ hS_=>aa rfl)<|sq (fun w_ hS_=>aa rfl)<|sq (fun w_ hS_=>aK rfl rfl Tryz.underlying27 eg hr.2.1 rfl (by omega))<|sq (fun w_ hS_=>ar rfl iN (((hr.nu hS_).cell (bJ (by omega)))))<|sq (fun w_ hS_=>ny (p:=16) rfl rfl (by decide) (by decide) (by decide))<|sq (fun w_ hS_=>eM rfl rfl Tryz.underlying9 rfl ((Ak _)))<|sq (fun w_ hS_=>aa rfl)<|sq (fun w_ hS_=>aa rfl)<|sq (fun w_ hS_=>aK rfl rfl Tryz.underlying27 eg hr.2.1 rfl (by omega))<|sq (fun w_ hS_=>ar rfl iN (((hr.nu hS_).cell (bJ (by omega)))))<|sq (fun w_ hS_=>gR (by simp) rfl rfl ((Db _)))<|sq (fun w_ hS_=>eM rfl rfl Tryz.underlying9 rfl ((zG _)))<| ?_
  refine sx (lY Tryz.underlying27 eO rfl rfl rfl (by simp[Value.cells,B8]) (by decide) (by decide) fun g w3 hg hf3 hb3=> ?_)
  have hS3:Fr No w w3:=hS2.cB hf3
  refine⟨hS3, ?_⟩
  refine sx (j8 rfl rfl Tryz.underlying27 Tryz.underlying27 (by exact .inl rfl) eO rfl (ho.nu (hf2.cB hf3)) (Src.bT (Own.rd (Own.made hb3 (Nat.le_refl _) (Nat.le_refl _) (by decide) (by rfl))).2.2) (by simp[Value.cells];exact⟨rfl,rfl⟩) (by unfold maxLen;omega) (by omega) hS3.size fun v4 w4 ho4 hf4 hv4=> ?_)
  have hS4:Fr No w w4:=hS3.new hf4 (fun i hi=>(ho.from hi).1)
  refine⟨hS4, ?_⟩
  refine sq (fun w_ hS_=>ab rfl)<|send<|bx (ae (t:=3) rfl<|ae (t:=4) rfl<|ae (t:=8) rfl<|ae (t:=0) rfl<|ae (t:=6) rfl<|ae (t:=7) rfl<|aA)<|fb<|aE<|a8<|nq (aJ rfl rfl (bA (by omega) (by omega)))<|nq (aa rfl)<|a7<|bx (ae (t:=7) rfl<|ae (t:=3) rfl<|ae (t:=4) rfl<|ae (t:=8) rfl<|ae (t:=0) rfl<|ae (t:=6) rfl<|aA)<| ?_
  refine oC (k+1) v4 (ae (t:=0) rfl<|ae (t:=3) rfl<|ae (t:=6) rfl<|ae (t:=7) rfl<|aA) (⟨by omega, ?_,hS4⟩) (by omega)
  have e1:2*k+2=2*(k+1):=by omega
  have e2:b9 (l.take (k+1))=b9 (l.take k)++pj (l.getD k 0):=ql (by omega)
  rw[e1]at ho4
  rw[e2,bD]
  exact ho4
 ·obtain rfl:k=n:=by omega
  obtain⟨A',c',rfl,hc'⟩:=ho.slice
  have hro:=(Own.rd ho).2.2
  rw[List.take_of_length_le (by omega)]at hro
  refine iW<|bO<|bO<|cP<|aE<|aS<|a8<|nq (aa rfl)<|nq (jq rfl Tryz.underlying27 Tryz.underlying5 Tryz.underlying9 hro)<|nq (ab rfl)<|a7<|bx (ae (t:=2) rfl<|ae (t:=8) rfl<|ae (t:=0) rfl<|ae (t:=3) rfl<|ae (t:=6) rfl<|ae (t:=7) rfl<|aA)<|aE<|dI<| ?_
  exact eT trivial rfl rfl ⟨rfl,hf⟩
theorem uN(c:UInt8)(w:World):Calls Tryz.prog 226 #[.int .u8 (c.toNat:Int)] w fun e w' =>e= .returned (.int .i64 (j3 c))∧w=w' :=by
 have hc:=c.toNat_lt
 refine enter (N:=21) Tryz.func226 rfl rfl (by simp) ?_
 refine aS<|a8<|nq (ab rfl)<|a7<|aE<|aS<|aS<|a8<|nq (aa rfl)<|nq (iD rfl rfl)<|nq (aa rfl)<| ?_
 refine lN 5 rfl (fun h1=> ?_) (fun h1=> ?_)
 ·refine ng rfl rfl rfl (aa rfl)<|ng rfl rfl rfl (nj rfl rfl)<|nq (bE rfl rfl)<|a7<|bx (ae (t:=8) rfl<|ae (t:=2) rfl<|ae (t:=0) rfl<|aA)<|aE<| ?_
  refine ma rfl (fun h2=> ?_) (fun h2=> ?_)
  ·refine aS<|a8<|nq (aa rfl)<|nq (bU rfl Tryz.underlying5 Tryz.underlying3 ((bA (by omega) (by omega))))<|nq (cm rfl rfl (bA (by omega) (by omega)))<|nq (ab rfl)<|a7<|bx (ae (t:=2) rfl<|ae (t:=8) rfl<|ae (t:=0) rfl<|aA)<|aE<|dI<|bz<| ?_
   refine eT trivial rfl rfl ⟨?_,rfl⟩
   rw[j3,if_pos (by omega)]
  ·refine dA<|aE<|aS<|aS<|a8<|nq (aa rfl)<|nq (iD rfl rfl)<|nq (aa rfl)<| ?_
   refine lN 14 rfl (fun h3=> ?_) (fun h3=> ?_)
   ·refine ng rfl rfl rfl (aa rfl)<|ng rfl rfl rfl (nj rfl rfl)<|nq (bE rfl rfl)<|a7<|bx (ae (t:=17) rfl<|ae (t:=8) rfl<|ae (t:=2) rfl<|ae (t:=0) rfl<|aA)<|aE<| ?_
    refine ma rfl (fun h4=> ?_) (fun h4=> ?_)
    ·refine aS<|a8<|nq (aa rfl)<|nq (bU rfl Tryz.underlying5 Tryz.underlying3 ((bA (by omega) (by omega))))<|nq (cm rfl rfl (bA (by omega) (by omega)))<|nq (ab rfl)<|a7<|bx (ae (t:=2) rfl<|ae (t:=17) rfl<|ae (t:=8) rfl<|ae (t:=0) rfl<|aA)<|aE<|dI<|bz<| ?_
     refine eT trivial rfl rfl ⟨?_,rfl⟩
     rw[j3,if_neg (by omega),if_pos (by omega)]
    ·refine dA<|aE<|aS<|a8<|nq (ab rfl)<|a7<|aE<|dI<| ?_
     refine eT trivial rfl rfl ⟨?_,rfl⟩
     rw[j3,if_neg (by omega),if_neg (by omega)]
   ·refine iX rfl rfl rfl (by decide)<|iX rfl rfl rfl (by decide)<|nq (bp rfl rfl)<|a7<|bx (ae (t:=17) rfl<|ae (t:=8) rfl<|ae (t:=2) rfl<|ae (t:=0) rfl<|aA)<|aE<| ?_
    refine pr rfl (rfl) ?_
    refine dA<|aE<|aS<|a8<|nq (ab rfl)<|a7<|aE<|dI<| ?_
    refine eT trivial rfl rfl ⟨?_,rfl⟩
    rw[j3,if_neg (by omega),if_neg (by omega)]
 ·refine iX rfl rfl rfl (by decide)<|iX rfl rfl rfl (by decide)<|nq (bp rfl rfl)<|a7<|bx (ae (t:=8) rfl<|ae (t:=2) rfl<|ae (t:=0) rfl<|aA)<|aE<| ?_
  refine pr rfl (rfl) ?_
  refine dA<|aE<|aS<|aS<|a8<|nq (aa rfl)<|nq (iD rfl rfl)<|nq (aa rfl)<| ?_
  refine lN 14 rfl (fun h3=> ?_) (fun h3=> ?_)
  ·omega
  ·refine iX rfl rfl rfl (by decide)<|iX rfl rfl rfl (by decide)<|nq (bp rfl rfl)<|a7<|bx (ae (t:=17) rfl<|ae (t:=8) rfl<|ae (t:=2) rfl<|ae (t:=0) rfl<|aA)<|aE<| ?_
   refine pr rfl (rfl) ?_
   refine dA<|aE<|aS<|a8<|nq (ab rfl)<|a7<|aE<|dI<| ?_
   refine eT trivial rfl rfl ⟨?_,rfl⟩
   rw[j3,if_neg (by omega),if_neg (by omega)]
theorem DX(A:Option Addr)(n c:Nat)(l:List UInt8)(w:World)(hr:Rd w 1 A n (aZ l))(hn:n≤70368744177664):
  Calls Tryz.prog 182 #[.slice A n c] w fun e w' =>e= .returned (.string (strOf (b9 l)))∧Fr No w w' :=by
 have hl:l.length=n:=by have:=hr.1;rw[aF]at this;omega
 refine enter (N:=40) Tryz.func182 rfl rfl (by simp) ?_
 refine aS<|a8<|nq (ab rfl)<|a7<|aE<|aS<|a8<|nq (ab rfl)<|a7<|aE<|aS<|a8<|nq (ab rfl)<|a7<|aE<|aS<|aS<|a8<|nq (ab rfl)<|a7<|aE<|cR<| ?_
 refine kl (fun k=>n-k) (fun k=>[(0,.slice A n c),(3,.string ⟨#[48,49,50,51,52,53,54,55,56,57,97,98,99,100,101,102]⟩),(4,.string (strOf (b9 (l.take k)))),(5,.int .i64 (k:Nat))]) (fun k w' =>k≤n∧Fr No w w') 0 (⟨Nat.zero_le _,Fr.refl _ _⟩) (ae (t:=0) rfl<|ae (t:=3) rfl<|ae (t:=4) rfl<|ae (t:=5) rfl<|aA) (fun k w1 ⟨hk,hf⟩=> ?_)
 refine aS<|aS<|a8<|nq (aa rfl)<|nq (aa rfl)<|nq (aR rfl Tryz.underlying27)<|nq (br rfl rfl)<|a7<|bx (ae (t:=11) rfl<|ae (t:=0) rfl<|ae (t:=3) rfl<|ae (t:=4) rfl<|ae (t:=5) rfl<|aA)<|aE<| ?_
 refine ma rfl (fun h=> ?_) (fun h=> ?_)
 ·have hkn:k<n:=by omega
  have hb:=(l.getD k 0).toNat_lt
  have hr1:=hr.nu hf
  refine dA<|aE<|aS<|cR<|aS<|a8<|nq (aa rfl)<|nq (aa rfl)<|nq (aK rfl rfl Tryz.underlying27 eg hr.2.1 rfl (by omega))<|nq (ar rfl iN (hr1.cell (bJ (by omega))))<|nq (bU rfl Tryz.underlying5 Tryz.underlying3 ((y7 _)))<|nq (iI rfl rfl (by omega) (by omega) (bA (by omega) (by omega)))<|nq (ab rfl)<|a7<|bx (ae (t:=6) rfl<|ae (t:=11) rfl<|ae (t:=0) rfl<|ae (t:=3) rfl<|ae (t:=4) rfl<|ae (t:=5) rfl<|aA)<|aE<|aS<|a8<|nq (aa rfl)<|nq (aa rfl)<|nq (aK rfl rfl Tryz.underlying27 eg hr.2.1 rfl (by omega))<|nq (ar rfl iN (hr1.cell (bJ (by omega))))<|nq (bU rfl Tryz.underlying5 Tryz.underlying3 ((y7 _)))<|nq (gC rfl rfl (by omega) (by omega))<|nq (ab rfl)<|a7<|bx (ae (t:=7) rfl<|ae (t:=6) rfl<|ae (t:=11) rfl<|ae (t:=0) rfl<|ae (t:=3) rfl<|ae (t:=4) rfl<|ae (t:=5) rfl<|aA)<|aE<| ?_
  have hll:=dh (l.take k)
  have htl:(l.take k).length≤k:=List.length_take_le _ _
  refine wT [(0,false),(1,false),(2,false),(3,false),(4,false),(5,false),(6,false),(7,false),(8,false),(9,false),(10,false),(11,false),(12,false),(13,false)] (by kernel_rfl) (by kernel_rfl) rfl (fun w' =>Fr No w w') (hf.cB (Fr.drew _)) (fun w2 hf2 hS2=> ?_)
  refine sq (fun w_ hS_=>aa rfl)<|sq (fun w_ hS_=>aa rfl)<|sq (fun w_ hS_=>aa rfl)<|sq (fun w_ hS_=>aa rfl)<|sq (fun w_ hS_=>aJ rfl rfl (bA (by omega) (by omega)))<|sq (fun w_ hS_=>qn rfl rfl rfl Tryz.underlying9 (show(((l.getD k 0).toNat/16:Nat):Int)=_ by omega) (show(((l.getD k 0).toNat/16+1:Nat):Int)=_ by omega) ((by omega)) ((by show _≤16;omega)))<|sq (fun w_ hS_=>ep rfl rfl ((by simp[cr];omega)))<|sq (fun w_ hS_=>aa rfl)<|sq (fun w_ hS_=>aa rfl)<|sq (fun w_ hS_=>aa rfl)<|sq (fun w_ hS_=>aJ rfl rfl (bA (by omega) (by omega)))<|sq (fun w_ hS_=>qn rfl rfl rfl Tryz.underlying9 (show(((l.getD k 0).toNat % 16:Nat):Int)=_ by omega) (show(((l.getD k 0).toNat % 16+1:Nat):Int)=_ by omega) ((by omega)) ((by show _≤16;omega)))<|sq (fun w_ hS_=>yV (ep rfl rfl ((by simp[cr,ByteArray.size_append];omega))) (congrArg Value.string (vr (by omega))))<|sq (fun w_ hS_=>ab rfl)<|send<|bx (ae (t:=4) rfl<|ae (t:=7) rfl<|ae (t:=6) rfl<|ae (t:=11) rfl<|ae (t:=0) rfl<|ae (t:=3) rfl<|ae (t:=5) rfl<|aA)<|fb<|aE<|a8<|nq (aa rfl)<|nq (aJ rfl rfl (bA (by omega) (by omega)))<|nq (ab rfl)<|a7<|bx (ae (t:=5) rfl<|ae (t:=4) rfl<|ae (t:=7) rfl<|ae (t:=6) rfl<|ae (t:=11) rfl<|ae (t:=0) rfl<|ae (t:=3) rfl<|aA)<| ?_
  refine kF (k+1) (ae (t:=0) rfl<|ae (t:=3) rfl<|ae (t:=4) rfl<|ae (t:=5) rfl<|aA) (⟨by omega,hS2⟩) (by omega)
 ·obtain rfl:k=n:=by omega
  refine iW<|bO<|bO<|cP<|aE<|aS<|a8<|nq (aa rfl)<|nq (ab rfl)<|a7<|bx (ae (t:=2) rfl<|ae (t:=11) rfl<|ae (t:=0) rfl<|ae (t:=3) rfl<|ae (t:=4) rfl<|ae (t:=5) rfl<|aA)<|aE<|dI<| ?_
  refine eT trivial rfl rfl ⟨?_,hf⟩
  rw[List.take_of_length_le (by omega)]
def gS(w:World)(s:List UInt8)(v:Value)(w' :World):Prop:=
 match unhex s with
 |some x=>∃u,v= .tuple #[u,.int .i64 0]∧Go.Eng.Own w' w.heap.size 5 1 u x.length (aZ x)
 |none=>v= .tuple #[.slice none 0 0,.int .i64 2]
theorem CF(s:List UInt8)(w:World)(hs:s.length≤140737488351232):
  Calls Tryz.prog 169 #[.string (strOf s)] w fun e w' =>(∃v,e= .returned v∧gS w s v w')∧Fr No w w' :=by
 have hsz:(strOf s).size=s.length:=cr s
 refine enter (N:=43) Tryz.func169 rfl rfl (by simp) ?_
 refine aS<|a8<|nq (ab rfl)<|nq (ab rfl)<|a7<|aE<|aS<|aS<|a8<|nq (aa rfl)<|nq (cp rfl Tryz.underlying9)<|nq (gC rfl rfl (by omega) (by omega))<|nq (b7 rfl rfl)<|a7<|bx (ae (t:=11) rfl<|ae (t:=3) rfl<|ae (t:=2) rfl<|ae (t:=0) rfl<|aA)<|aE<| ?_
 refine ma rfl (fun h=> ?_) (fun h=> ?_)
 ·refine aS<|a8<|nq (ab rfl)<|nq (ab rfl)<|a7<|aE<|dI<|bz<| ?_
  refine qG trivial rfl rfl rfl ⟨⟨_,rfl, ?_⟩,Fr.refl _ _⟩
  rw[gS,mR s (by omega)]
 ·refine dA<|aE<|aS<|a8<|nq (ab rfl)<|a7<|aE<|aS<|aS<|a8<|nq (ab rfl)<|a7<|aE<|cR<| ?_
  refine xV (fun k _ _=>s.length-2*k) (fun k v _=>[(0,.string (strOf s)),(4,v),(5,.int .i64 (2*(k:Nat):Int))]) (fun k v x w' =>2*k≤s.length∧unhex (s.take (2*k))=some x∧Go.Eng.Own w' w.heap.size 5 1 v k (aZ x)∧Fr No w w') 0 (.slice none 0 0) [] (⟨Nat.zero_le _,rfl,Own.nil w w.heap.size _ 1,Fr.refl _ _⟩) (ae (t:=0) rfl<|ae (t:=4) rfl<|ae (t:=5) rfl<|aA) (fun k v x w1 ⟨hk,hx,ho,hf⟩=> ?_)
  refine aS<|aS<|a8<|nq (aa rfl)<|nq (aJ rfl rfl (bA (by omega) (by omega)))<|nq (aa rfl)<|nq (cp rfl Tryz.underlying9)<|nq (br rfl rfl)<|a7<|bx (ae (t:=16) rfl<|ae (t:=0) rfl<|ae (t:=4) rfl<|ae (t:=5) rfl<|aA)<|aE<| ?_
  refine ma rfl (fun h2=> ?_) (fun h2=> ?_)
  ·have hk2:2*k+1<s.length:=by omega
   have hd1:=iv (s.getD (2*k) 0)
   have hd2:=iv (s.getD (2*k+1) 0)
   have hlen:(s.take (2*k)).length=2*k:=by simp;omega
   have hsn:=lJ (s.take (2*k)) k (s.getD (2*k) 0) (s.getD (2*k+1) 0) x hlen hx
   rw[←rP hk2]at hsn
   have hno:(j3 (s.getD (2*k) 0)<0∨j3 (s.getD (2*k+1) 0)<0)→unhex s=none:=fun hn=>by
    rw[if_pos hn]at hsn
    have:=fJ _ (s.drop (2*(k+1))) (k+1) (by simp;omega) hsn
    rwa [List.take_append_drop]at this
   refine dA<|aE<|aS<|cR<|aS<|a8<|nq (aa rfl)<|nq (aa rfl)<|nq (eM rfl rfl Tryz.underlying9 (show((2*k:Nat):Int)=_ by omega) (iz (by omega)))<| ?_
   refine nx (ey rfl Tryz.call226 (uN _ w1) ?_)
   rintro e_ w2 ⟨rfl,rfl⟩
   refine⟨_,rfl, ?_⟩
   refine nq (ab rfl)<|a7<|bx (ae (t:=6) rfl<|ae (t:=16) rfl<|ae (t:=0) rfl<|ae (t:=4) rfl<|ae (t:=5) rfl<|aA)<|aE<|aS<|a8<|nq (aa rfl)<|nq (aa rfl)<|nq (aJ rfl rfl (bA (by omega) (by omega)))<|nq (eM rfl rfl Tryz.underlying9 (show((2*k+1:Nat):Int)=_ by omega) (iz (by omega)))<| ?_
   refine nx (ey rfl Tryz.call226 (uN _ w1) ?_)
   rintro e_ w2 ⟨rfl,rfl⟩
   refine⟨_,rfl, ?_⟩
   refine nq (ab rfl)<|a7<|bx (ae (t:=7) rfl<|ae (t:=6) rfl<|ae (t:=16) rfl<|ae (t:=0) rfl<|ae (t:=4) rfl<|ae (t:=5) rfl<|aA)<|aE<|aS<|aS<|a8<|nq (aa rfl)<|nq (br rfl rfl)<|nq (aa rfl)<| ?_
   refine lN 30 rfl (fun h3=> ?_) (fun h3=> ?_)
   ·refine iX rfl rfl rfl (by decide)<|iX rfl rfl rfl (by decide)<|nq (bE rfl rfl)<|a7<|bx (ae (t:=33) rfl<|ae (t:=7) rfl<|ae (t:=6) rfl<|ae (t:=16) rfl<|ae (t:=0) rfl<|ae (t:=4) rfl<|ae (t:=5) rfl<|aA)<|aE<| ?_
    refine vC rfl (rfl) ?_
    refine aS<|a8<|nq (ab rfl)<|nq (ab rfl)<|a7<|aE<|dI<|bz<|cA<|bz<|bz<|cA<|bz<| ?_
    refine qG trivial rfl rfl rfl ⟨⟨_,rfl, ?_⟩,hf⟩
    rw[gS,hno (.inl h3)]
   ·refine ng rfl rfl rfl (aa rfl)<|ng rfl rfl rfl (br rfl rfl)<|nq (bp rfl rfl)<|a7<|bx (ae (t:=33) rfl<|ae (t:=7) rfl<|ae (t:=6) rfl<|ae (t:=16) rfl<|ae (t:=0) rfl<|ae (t:=4) rfl<|ae (t:=5) rfl<|aA)<|aE<| ?_
    refine ma rfl (fun h4=> ?_) (fun h4=> ?_)
    ·refine aS<|a8<|nq (ab rfl)<|nq (ab rfl)<|a7<|aE<|dI<|bz<|cA<|bz<|bz<|cA<|bz<| ?_
     refine qG trivial rfl rfl rfl ⟨⟨_,rfl, ?_⟩,hf⟩
     rw[gS,hno (.inr h4)]
    ·refine dA<|aE<|a8<|nq (aa rfl)<|nq (aa rfl)<|nq (fD rfl rfl (bA (by omega) (by omega)))<|nq (aa rfl)<|nq (aJ rfl rfl (bA (by omega) (by omega)))<|nq (bU rfl Tryz.underlying3 Tryz.underlying5 (xP (wB _ _ (by omega) (by omega))))<| ?_
     refine nx (lY Tryz.underlying27 eO rfl rfl rfl (by simp[Value.cells,B8]) (by decide) (by decide) fun g w3 hg hf3 hb3=> ?_)
     refine nx (j8 rfl rfl Tryz.underlying27 Tryz.underlying27 (by exact .inl rfl) eO rfl (ho.nu hf3) (Src.iH hb3 rfl) (aY (l:=[_])) (by unfold maxLen;omega) (by omega) (Nat.le_trans hf.size hf3.size) fun v4 w4 ho4 hf4 hv4=> ?_)
     refine nq (ab rfl)<|a7<|bx (ae (t:=4) rfl<|ae (t:=33) rfl<|ae (t:=7) rfl<|ae (t:=6) rfl<|ae (t:=16) rfl<|ae (t:=0) rfl<|ae (t:=5) rfl<|aA)<|fb<|aE<|a8<|nq (aa rfl)<|nq (aJ rfl rfl (bA (by omega) (by omega)))<|nq (ab rfl)<|a7<|bx (ae (t:=5) rfl<|ae (t:=4) rfl<|ae (t:=33) rfl<|ae (t:=7) rfl<|ae (t:=6) rfl<|ae (t:=16) rfl<|ae (t:=0) rfl<|aA)<| ?_
     rw[if_neg (by omega)]at hsn
     refine yz (k+1) v4 _ (ae (t:=0) rfl<|ae (t:=4) rfl<|ae (t:=5) ?_<|aA) ⟨by omega,hsn, ?_,(hf.cB hf3).new hf4 (fun i hi=>(ho.from hi).1)⟩ (by omega)
     ·show some (Value.int .i64 (2*(k:Int)+2))=some (Value.int .i64 (2*((k+1:Nat):Int)))
      rw[show(2*(k:Int)+2)=2*((k+1:Nat):Int) by omega]
     ·rw[bD];exact ho4
  ·refine iW<|bO<|bO<|cP<|aE<|aS<|a8<|nq (aa rfl)<|nq (ab rfl)<|nq (ab rfl)<|a7<|bx (ae (t:=3) rfl<|ae (t:=2) rfl<|ae (t:=16) rfl<|ae (t:=0) rfl<|ae (t:=4) rfl<|ae (t:=5) rfl<|aA)<|aE<|dI<| ?_
   refine qG trivial rfl rfl rfl ⟨⟨_,rfl, ?_⟩,hf⟩
   rw[List.take_of_length_le (by omega)]at hx
   have hxl:=fI s x hx
   rw[gS,hx]
   have:x.length=k:=by omega
   exact⟨v,rfl,this▸ho⟩
theorem tR(s:ByteArray)(c:UInt8)(w:World):
  Calls Tryz.prog 267 #[.string s,.int .u8 c.toNat] w fun e w' =>e= .returned (.int .i64 (Lib.indexByte s.data.toList c))∧w=w' :=by
 refine enter (N:=8) Tryz.func267 rfl rfl (by simp) ?_
 refine aS<|a8<|nq (ab rfl)<|a7<|aE<|aS<|a8<|nq (aa rfl)<|nq (aa rfl)<| ?_
 refine nq (yq rfl Tryz.func295 (by kernel_rfl) (by kernel_rfl) (by kernel_rfl) (show _=some Extern.BytealgIndexByte.indexByte by kernel_rfl) (Lib.run_indexByteString _ _ _)) ?_
 refine nq (ab rfl)<|a7<|bx (ae (t:=4) rfl<|ae (t:=0) rfl<|ae (t:=1) rfl<|aA)<|aE<|dI<| ?_
 refine eT trivial rfl rfl ⟨?_,rfl⟩
 rw[show((c.toNat:Int)).toNat.toUInt8=c by simp]
theorem indexByte(s:ByteArray)(c:UInt8)(w:World):
  Calls Tryz.prog 224 #[.string s,.int .u8 c.toNat] w fun e w' =>e= .returned (.int .i64 (Lib.indexByte s.data.toList c))∧w=w' :=by
 refine enter (N:=8) Tryz.func224 rfl rfl (by simp) ?_
 refine aS<|a8<|nq (ab rfl)<|a7<|aE<|aS<|a8<|nq (aa rfl)<|nq (aa rfl)<| ?_
 refine nx (ey rfl Tryz.call267 (tR s c w) ?_)
 rintro e_ w' ⟨rfl,rfl⟩
 refine⟨_,rfl, ?_⟩
 refine nq (ab rfl)<|a7<|bx (ae (t:=4) rfl<|ae (t:=0) rfl<|ae (t:=1) rfl<|aA)<|aE<|dI<| ?_
 exact eT trivial rfl rfl ⟨rfl,rfl⟩
theorem rN(c:UInt8)(w:World):
  Calls Tryz.prog 224 #[.string ⟨#[48,49,50,51,52,53,54,55,56,57,97,98,99,100,101,102]⟩,.int .u8 c.toNat] w fun e w' =>e= .returned (.int .i64 (j3 c))∧w=w' :=by
 rw[←o8]
 exact indexByte _ c w
theorem parse(s:List UInt8)(w:World)(hs:s.length≤140737488351232):
  Calls Tryz.prog 166 #[.string (strOf s)] w fun e w' =>(∃v,e= .returned v∧gS w s v w')∧Fr No w w' :=by
 have hsz:(strOf s).size=s.length:=cr s
 refine enter (N:=45) Tryz.func166 rfl rfl (by simp) ?_
 refine aS<|a8<|nq (ab rfl)<|nq (ab rfl)<|a7<|aE<|aS<|aS<|a8<|nq (aa rfl)<|nq (cp rfl Tryz.underlying9)<|nq (gC rfl rfl (by omega) (by omega))<|nq (de rfl rfl)<|a7<|bx (ae (t:=11) rfl<|ae (t:=3) rfl<|ae (t:=2) rfl<|ae (t:=0) rfl<|aA)<|aE<| ?_
 refine ma rfl (fun h=> ?_) (fun h=> ?_)
 ·refine aS<|a8<|nq (ab rfl)<|nq (ab rfl)<|a7<|aE<|dI<|bz<| ?_
  refine qG trivial rfl rfl rfl ⟨⟨_,rfl, ?_⟩,Fr.refl _ _⟩
  rw[gS,mR s (by simp at h;omega)]
 ·simp at h
  refine dA<|aE<|aS<|a8<|nq (ab rfl)<|a7<|aE<|aS<|aS<|a8<|nq (aa rfl)<|nq (cp rfl Tryz.underlying9)<|nq (iI rfl rfl (by omega) (by omega) (bA (by omega) (by omega)))<|nq (aa rfl)<|a7<|bx (ae (t:=15) rfl<|ae (t:=14) rfl<|ae (t:=4) rfl<|ae (t:=11) rfl<|ae (t:=3) rfl<|ae (t:=2) rfl<|ae (t:=0) rfl<|aA)<|aE<|cR<| ?_
  refine xV (fun k _ _=>s.length-2*k) (fun k v _=>[(0,.string (strOf s)),(4,v),(14,.int .i64 ((s.length/2:Nat):Int)),(15,.int .i64 (k:Nat))]) (fun k v x w' =>2*k≤s.length∧unhex (s.take (2*k))=some x∧Go.Eng.Own w' w.heap.size 5 1 v k (aZ x)∧Fr No w w') 0 (.slice none 0 0) [] (⟨Nat.zero_le _,rfl,Own.nil w w.heap.size _ 1,Fr.refl _ _⟩) (ae (t:=0) rfl<|ae (t:=4) rfl<|ae (t:=14) rfl<|ae (t:=15) rfl<|aA) (fun k v x w1 ⟨hk,hx,ho,hf⟩=> ?_)
  ·refine aS<|a8<|nq (br rfl rfl)<|a7<|aE<|aS<| ?_
   refine ma rfl (fun h2=> ?_) (fun h2=> ?_)
   ·have hk2:2*k+1<s.length:=by omega
    have hd1:=iv (s.getD (2*k) 0)
    have hd2:=iv (s.getD (2*k+1) 0)
    have hlen:(s.take (2*k)).length=2*k:=by simp;omega
    have hsn:=lJ (s.take (2*k)) k (s.getD (2*k) 0) (s.getD (2*k+1) 0) x hlen hx
    rw[←rP hk2]at hsn
    have hno:(j3 (s.getD (2*k) 0)<0∨j3 (s.getD (2*k+1) 0)<0)→unhex s=none:=fun hn=>by
     rw[if_pos hn]at hsn
     have:=fJ _ (s.drop (2*(k+1))) (k+1) (by simp;omega) hsn
     rwa [List.take_append_drop]at this
    refine dA<|aE<|aS<|cR<|aS<|a8<|nq (aa rfl)<|nq (ab rfl)<|a7<|bx (ae (t:=5) rfl<|ae (t:=16) rfl<|ae (t:=0) rfl<|ae (t:=4) rfl<|ae (t:=14) rfl<|ae (t:=15) rfl<|aA)<|aE<|aS<| ?_
    refine wT [(0,false),(1,false),(2,false),(3,false),(5,false),(6,false),(7,false),(8,false),(9,false),(4,true),(10,true),(11,false),(12,false)] (by kernel_rfl) (by kernel_rfl) rfl (fun w' =>Fr No w w') (hf.cB (Fr.drew _)) (fun w2 hf2 hS2=> ?_)
    refine sq (fun w_ hS_=>aa rfl)<|sq (fun w_ hS_=>aa rfl)<|sq (fun w_ hS_=>fD rfl rfl (bA (by omega) (by omega)))<|sq (fun w_ hS_=>eM rfl rfl Tryz.underlying9 (show((2*k:Nat):Int)=_ by omega) (iz (by omega)))<|sq (fun w_ hS_=>aa rfl)<|sq (fun w_ hS_=>aa rfl)<|sq (fun w_ hS_=>fD rfl rfl (bA (by omega) (by omega)))<|sq (fun w_ hS_=>aJ rfl rfl (bA (by omega) (by omega)))<|sq (fun w_ hS_=>eM rfl rfl Tryz.underlying9 (show((2*k+1:Nat):Int)=_ by omega) (iz (by omega)))<| ?_
    refine sx (ey rfl Tryz.call224 (rN _ _) ?_)
    rintro e_ w3 ⟨rfl,rfl⟩
    refine⟨_,rfl, ?_⟩
    refine⟨hS2, ?_⟩
    refine sx (ey rfl Tryz.call224 (rN _ _) ?_)
    rintro e_ w3 ⟨rfl,rfl⟩
    refine⟨_,rfl, ?_⟩
    refine⟨hS2, ?_⟩
    have hf:=hS2
    have ho:=ho.nu hf2
    refine sq (fun w_ hS_=>ab rfl)<|sq (fun w_ hS_=>ab rfl)<|send<|bx (ae (t:=7) rfl<|ae (t:=6) rfl<|ae (t:=5) rfl<|ae (t:=16) rfl<|ae (t:=0) rfl<|ae (t:=4) rfl<|ae (t:=14) rfl<|ae (t:=15) rfl<|aA)<|aE<|aS<|aS<|a8<|nq (aa rfl)<|nq (br rfl rfl)<|nq (aa rfl)<| ?_
    refine lN 31 rfl (fun h3=> ?_) (fun h3=> ?_)
    ·refine iX rfl rfl rfl (by decide)<|iX rfl rfl rfl (by decide)<|nq (bE rfl rfl)<|a7<|bx (ae (t:=34) rfl<|ae (t:=7) rfl<|ae (t:=6) rfl<|ae (t:=5) rfl<|ae (t:=16) rfl<|ae (t:=0) rfl<|ae (t:=4) rfl<|ae (t:=14) rfl<|ae (t:=15) rfl<|aA)<|aE<| ?_
     refine vC rfl (rfl) ?_
     refine aS<|a8<|nq (ab rfl)<|nq (ab rfl)<|a7<|aE<|dI<|bz<|cA<|bz<|bz<|cA<|bz<| ?_
     refine qG trivial rfl rfl rfl ⟨⟨_,rfl, ?_⟩,hf⟩
     rw[gS,hno (.inl h3)]
    ·refine ng rfl rfl rfl (aa rfl)<|ng rfl rfl rfl (br rfl rfl)<|nq (bp rfl rfl)<|a7<|bx (ae (t:=34) rfl<|ae (t:=7) rfl<|ae (t:=6) rfl<|ae (t:=5) rfl<|ae (t:=16) rfl<|ae (t:=0) rfl<|ae (t:=4) rfl<|ae (t:=14) rfl<|ae (t:=15) rfl<|aA)<|aE<| ?_
     refine ma rfl (fun h4=> ?_) (fun h4=> ?_)
     ·refine aS<|a8<|nq (ab rfl)<|nq (ab rfl)<|a7<|aE<|dI<|bz<|cA<|bz<|bz<|cA<|bz<| ?_
      refine qG trivial rfl rfl rfl ⟨⟨_,rfl, ?_⟩,hf⟩
      rw[gS,hno (.inr h4)]
     ·refine dA<|aE<|a8<|nq (aa rfl)<|nq (aa rfl)<|nq (r5 (p:=16) rfl rfl (by decide) (by decide) (by decide) (bA (by omega) (by omega)))<|nq (aa rfl)<|nq (gR (by simp) rfl rfl (BS _ _ (by omega) (by omega) (by omega) (by omega)))<|nq (bU rfl Tryz.underlying3 Tryz.underlying5 (xP (wB _ _ (by omega) (by omega))))<| ?_
      refine nx (lY Tryz.underlying27 eO rfl rfl rfl (by simp[Value.cells,B8]) (by decide) (by decide) fun g w3 hg hf3 hb3=> ?_)
      refine nx (j8 rfl rfl Tryz.underlying27 Tryz.underlying27 (by exact .inl rfl) eO rfl (ho.nu hf3) (Src.iH hb3 rfl) (aY (l:=[_])) (by unfold maxLen;omega) (by omega) (Nat.le_trans hf.size hf3.size) fun v4 w4 ho4 hf4 hv4=> ?_)
      refine nq (ab rfl)<|a7<|bx (ae (t:=4) rfl<|ae (t:=34) rfl<|ae (t:=7) rfl<|ae (t:=6) rfl<|ae (t:=5) rfl<|ae (t:=16) rfl<|ae (t:=0) rfl<|ae (t:=14) rfl<|ae (t:=15) rfl<|aA)<|fb<|aE<|a8<|nq (aJ rfl rfl (bA (by omega) (by omega)))<|nq (aa rfl)<|a7<|bx (ae (t:=15) rfl<|ae (t:=4) rfl<|ae (t:=34) rfl<|ae (t:=7) rfl<|ae (t:=6) rfl<|ae (t:=5) rfl<|ae (t:=16) rfl<|ae (t:=0) rfl<|ae (t:=14) rfl<|aA)<| ?_
      rw[if_neg (by omega)]at hsn
      refine yz (k+1) v4 _ (ae (t:=0) rfl<|ae (t:=4) rfl<|ae (t:=14) rfl<|ae (t:=15) rfl<|aA) (⟨by omega,hsn,by rw[bD];exact ho4,(hf.cB hf3).new hf4 (fun i hi=>(ho.from hi).1)⟩) (by omega)
   ·refine iW<|bO<|bO<|cP<|aE<|aS<|a8<|nq (aa rfl)<|nq (ab rfl)<|nq (ab rfl)<|a7<|bx (ae (t:=3) rfl<|ae (t:=2) rfl<|ae (t:=16) rfl<|ae (t:=0) rfl<|ae (t:=4) rfl<|ae (t:=14) rfl<|ae (t:=15) rfl<|aA)<|aE<|dI<| ?_
    refine qG trivial rfl rfl rfl ⟨⟨_,rfl, ?_⟩,hf⟩
    rw[List.take_of_length_le (by omega)]at hx
    have hxl:=fI s x hx
    rw[gS,hx]
    have:x.length=k:=by omega
    exact⟨v,rfl,this▸ho⟩
theorem name(a:List UInt8)(w:World)(ha:a.length=32):
  Calls Tryz.prog 104 #[.agg (aZ a).toArray] w fun e w' =>e= .returned (.string (strOf (b9 a)))∧Fr No w w' :=by
 refine enter (N:=5) Tryz.func104 rfl rfl (by simp) ?_
 refine aS<|a8<| ?_
 refine nx (oZ rfl fun g1 w1 hg1 hf1 hb1=> ?_)
 rw[bG]at hb1
 refine nq (ab rfl)<|a7<|aE<|aS<|a8<|nq (AN rfl Tryz.underlying53 eg)<| ?_
 refine nx (ey rfl Tryz.call177 (text _ _ _ a _ (Rd.iH hb1 (by rw[aF];omega)) (by omega)) ?_)
 rintro e_ w2 ⟨rfl,hf2⟩
 refine⟨_,rfl, ?_⟩
 refine nq (ab rfl)<|a7<|bx (ae (t:=2) rfl<|ae (t:=1) rfl<|ae (t:=0) rfl<|aA)<|aE<|dI<| ?_
 exact eT trivial rfl rfl ⟨rfl,hf1.cB hf2⟩
theorem yp(v:Value)(w:World):(Extern.ReflectliteType.typeOf #[.iface 47 v]).run Tryz.prog w= .ok (.iface 312 (.agg #[.pointer (some ⟨2,47,none⟩)])) w:=by kernel_rfl
theorem ra (w : World) : ((Extern.ReflectliteType.method fun t => do Rtype.noPackHeld "Comparable" t; pure (.bool (← typeInfo t).comparable)) #[.agg #[.pointer (some ⟨2, 47, none⟩)]]).run Tryz.prog w = .ok (.bool true) w := by kernel_rfl
theorem lG (v : Value) (w : World) : (Go.method (Tryz.prog.types.size + Made.depth) 312 v "Comparable").run Tryz.prog w = .ok (341, v) w := by kernel_rfl
theorem Eg(v:Value)(xT:TypeId)(w:World):(Instr.typeAssert (.iface 47 v) xT 314 true).run Tryz.prog w= .ok (.tuple #[.nilIface,.bool false]) w:=run_typeAssert_lacksB Tryz.underlying314 (by kernel_rfl) (by kernel_rfl) v xT w
theorem xA(v:Value)(xT:TypeId)(w:World):(Instr.typeAssert (.iface 47 v) xT 317 true).run Tryz.prog w= .ok (.tuple #[.nilIface,.bool false]) w:=run_typeAssert_lacksB Tryz.underlying317 (by kernel_rfl) (by kernel_rfl) v xT w
theorem we(v:Value)(xT:TypeId)(w:World):(Instr.typeAssert (.iface 47 v) xT 319 true).run Tryz.prog w= .ok (.tuple #[.nilIface,.bool false]) w:=run_typeAssert_lacksB Tryz.underlying319 (by kernel_rfl) (by kernel_rfl) v xT w
theorem Dv(k m:Int)(w:World):
  Calls Tryz.prog 176 #[.iface 47 (.int .i64 k),.iface 47 (.int .i64 m),.bool true] w fun e w' =>e= .returned (.bool (decide (k=m)))∧w=w' :=by
 refine enter (N:=54) Tryz.func176 rfl rfl (by simp) ?_
 refine aS<|a8<|nq (ab rfl)<|a7<|aE<|cR<| ?_
 refine kl (fun _=>0) (fun _=>[(0,.iface 47 (.int .i64 k)),(1,.iface 47 (.int .i64 m)),(2,.bool true)]) (fun _ w' =>w=w') 0 (rfl) (ae (t:=0) rfl<|ae (t:=1) rfl<|ae (t:=2) rfl<|aA) (fun i w1 hw=> ?_)
 obtain rfl:=hw
 refine cR<|aS<|aS<|a8<|nq (aa rfl)<|nq (aa rfl)<|ng rfl rfl rfl (aa rfl)<|ng rfl rfl rfl (aa rfl)<|ng rfl rfl rfl (((CS rfl rfl Tryz.underlying247 (by kernel_rfl) Tryz.underlying47)))<|nq (bE rfl rfl)<|a7<|bx (ae (t:=19) rfl<|ae (t:=0) rfl<|ae (t:=1) rfl<|ae (t:=2) rfl<|aA)<|aE<| ?_
 refine ma rfl (fun h=> ?_) (fun h=> ?_)
 ·refine aS<|a8<|nq (ab rfl)<|a7<|aE<|dI<|bz<|cA<|bz<|cA<| ?_
  refine eT trivial rfl rfl ⟨?_,rfl⟩
  rw[decide_eq_true h]
 ·refine dA<|aE<|aS<|aS<|a8<|nq (aa rfl)<|nq (mn rfl ((Eg _ _ _)))<|nq (aa rfl)<|nq (aq rfl rfl)<|nq (aq rfl rfl)<|nq (ab rfl)<|nq (ab rfl)<|a7<|bx (ae (t:=8) rfl<|ae (t:=7) rfl<|ae (t:=19) rfl<|ae (t:=0) rfl<|ae (t:=1) rfl<|ae (t:=2) rfl<|aA)<|aE<|aS<|a8<|nq (aa rfl)<|nq (aa rfl)<|iX rfl rfl rfl (by decide)<|iX rfl rfl rfl (by decide)<|iX rfl rfl rfl (by decide)<|nq (bp rfl rfl)<|a7<|bx (ae (t:=30) rfl<|ae (t:=8) rfl<|ae (t:=7) rfl<|ae (t:=19) rfl<|ae (t:=0) rfl<|ae (t:=1) rfl<|ae (t:=2) rfl<|aA)<|aE<| ?_
  refine pr rfl (rfl) ?_
  refine dA<|aE<|aS<|a8<|nq (aa rfl)<|a7<|aE<|cR<|aS<|a8<|nq (mn rfl ((xA _ _ _)))<|nq (aq rfl rfl)<|nq (aq rfl rfl)<|a7<|bx (ae (t:=34) rfl<|ae (t:=33) rfl<|ae (t:=31) rfl<|ae (t:=30) rfl<|ae (t:=8) rfl<|ae (t:=7) rfl<|ae (t:=19) rfl<|ae (t:=0) rfl<|ae (t:=1) rfl<|ae (t:=2) rfl<|aA)<|aE<| ?_
  refine pr rfl (rfl) ?_
  refine aS<|a8<|nq (mn rfl ((we _ _ _)))<|nq (aq rfl rfl)<|nq (aq rfl rfl)<|a7<|bx (ae (t:=41) rfl<|ae (t:=40) rfl<|ae (t:=34) rfl<|ae (t:=33) rfl<|ae (t:=31) rfl<|ae (t:=30) rfl<|ae (t:=8) rfl<|ae (t:=7) rfl<|ae (t:=19) rfl<|ae (t:=0) rfl<|ae (t:=1) rfl<|ae (t:=2) rfl<|aA)<|aE<| ?_
  refine pr rfl (rfl) ?_
  refine aS<|a8<|nq (ab rfl)<|a7<|bx (ae (t:=41) rfl<|ae (t:=40) rfl<|ae (t:=34) rfl<|ae (t:=33) rfl<|ae (t:=31) rfl<|ae (t:=30) rfl<|ae (t:=8) rfl<|ae (t:=7) rfl<|ae (t:=19) rfl<|ae (t:=0) rfl<|ae (t:=1) rfl<|ae (t:=2) rfl<|aA)<|aE<|aS<|a8<|nq (ab rfl)<|a7<|aE<|dI<|cA<|cA<|bz<|cA<| ?_
  refine eT trivial rfl rfl ⟨?_,rfl⟩
  rw[decide_eq_false h]
theorem oY(k m:Int)(w:World):
    Calls Tryz.prog 103 #[.iface 47 (.int .i64 k),.iface 47 (.int .i64 m)] w fun e w' =>e= .returned (.bool (decide (k=m)))∧w=w' :=by
  refine enter (N:=22) Tryz.func103 rfl rfl (by simp) ?_
  refine aS<|a8<|nq (ab rfl)<|a7<|aE<|aS<|aS<|a8<|nq (aa rfl)<|nq (((yk rfl rfl (by kernel_rfl))))<|nq (aa rfl)<|ng rfl rfl rfl (aa rfl)<|ng rfl rfl rfl (((yk rfl rfl (by kernel_rfl))))<|nq (bp rfl rfl)<|a7<|bx (ae (t:=11) rfl<|ae (t:=4) rfl<|ae (t:=0) rfl<|ae (t:=1) rfl<|aA)<|aE<| ?_
  refine pr rfl (rfl) ?_
  refine dA<|aE<|aS<|a8<|nq (aa rfl)<| ?_
  refine nq (yq rfl Tryz.func175 (by kernel_rfl) (by kernel_rfl) (by kernel_rfl) (show _=some Extern.ReflectliteType.typeOf by kernel_rfl) (yp _ _)) ?_
  refine nq (BW rfl rfl (lG _ _) Tryz.func341 (by kernel_rfl) (by kernel_rfl) (by kernel_rfl) (g := Extern.ReflectliteType.method fun t => do Rtype.noPackHeld "Comparable" t; pure (.bool (← typeInfo t).comparable)) (by kernel_rfl) (ra _)) ?_
  refine nq (ab rfl)<|a7<|bx (ae (t:=5) rfl<|ae (t:=11) rfl<|ae (t:=4) rfl<|ae (t:=0) rfl<|ae (t:=1) rfl<|aA)<|aE<|aS<|a8<|nq (aa rfl)<|nq (aa rfl)<|nq (aa rfl)<| ?_
  refine nx (ey rfl Tryz.call176 (Dv k m w) ?_)
  rintro e_ w1 ⟨rfl,rfl⟩
  refine⟨_,rfl, ?_⟩
  refine nq (ab rfl)<|a7<|bx (ae (t:=4) rfl<|ae (t:=5) rfl<|ae (t:=11) rfl<|ae (t:=0) rfl<|ae (t:=1) rfl<|aA)<|aE<|dI<| ?_
  exact eT trivial rfl rfl ⟨rfl,rfl⟩
def b5(s:List UInt8):List UInt8×Int:=match unhex s with
 |none=>(List.replicate 32 0,2)
 |some x=>if x.length=32 then(x,0)else(List.replicate 32 0,3)
theorem gN(s:List UInt8):(b5 s).1.length=32:=by
 unfold b5
 split
 ·simp
 ·split
  ·assumption
  ·simp
theorem zO(s:List UInt8)(w:World)(hs:s.length≤140737488351232):
  Calls Tryz.prog 95 #[.string (strOf s)] w fun e w' =>e= .returned (.tuple #[.agg (aZ (b5 s).1).toArray,.int .i64 (b5 s).2])∧Fr No w w' :=by
 refine enter (N:=21) Tryz.func95 rfl rfl (by simp) ?_
 refine aS<|a8<| ?_
 refine nx (mB cX fun g1 w1 hg1 hf1 hb1=> ?_)
 rw[oe]at hb1
 refine nq (ab rfl)<|a7<|aE<|aS<|a8<|nq (aa rfl)<| ?_
 refine nx (ey rfl Tryz.call169 (CF s w1 hs) ?_)
 rintro e_ w2 ⟨⟨v,rfl,hv⟩,hf2⟩
 refine⟨_,rfl, ?_⟩
 have h12:=hb1.nu hf2
 have z32:(aZ (List.replicate 32 (0:UInt8))).length=32:=by rw[aF];simp
 unfold gS at hv
 split at hv
 ·rename_i x hx
  obtain⟨u,rfl,hu⟩:=hv
  obtain⟨Au,cu,rfl,hcu⟩:=hu.slice
  have ru:=(Own.rd hu).2.2
  have hxl:=fI s x hx
  refine nq (aa rfl)<|nq (aq rfl rfl)<|nq (aq rfl rfl)<|nq (ab rfl)<|nq (ab rfl)<|a7<|bx (ae (t:=5) rfl<|ae (t:=4) rfl<|ae (t:=3) rfl<|ae (t:=2) rfl<|ae (t:=0) rfl<|aA)<|aE<|aS<|aS<|a8<|nq (aa rfl)<|nq (de rfl rfl)<|a7<|bx (ae (t:=12) rfl<|ae (t:=5) rfl<|ae (t:=4) rfl<|ae (t:=3) rfl<|ae (t:=2) rfl<|ae (t:=0) rfl<|aA)<|aE<| ?_
  refine pr rfl ((decide_eq_false (fun h=>h rfl):decide (¬(0:Int)=0)=false)) ?_
  refine dA<|aE<|aS<|aS<|a8<|nq (aa rfl)<|nq (aR rfl Tryz.underlying27)<|nq (de rfl rfl)<|a7<|bx (ae (t:=17) rfl<|ae (t:=12) rfl<|ae (t:=5) rfl<|ae (t:=4) rfl<|ae (t:=3) rfl<|ae (t:=2) rfl<|ae (t:=0) rfl<|aA)<|aE<| ?_
  refine ma rfl (fun h=> ?_) (fun h=> ?_)
  ·refine aS<|a8<|nq (eb cX rfl (by kernel_rfl))<| ?_
   refine yY (pa rfl rfl bn (List.length_replicate ..) h12 z32 fun w3 hf3 h13 hs3=> ?_)
   refine nq (ab rfl)<|a7<|bx (ae (t:=3) rfl<|ae (t:=17) rfl<|ae (t:=12) rfl<|ae (t:=5) rfl<|ae (t:=4) rfl<|ae (t:=2) rfl<|ae (t:=0) rfl<|aA)<|aE<|dI<|bz<| ?_
   refine pn trivial rfl rfl rfl ct bn z32 h13.ay ⟨?_,(hf1.cB hf2).new hf3 (fun i hi=>by omega)⟩
   rw[b5,hx]
   simp only
   rw[if_neg (fun e=>h (by rw[e];rfl))]
  ·have h32:x.length=32:=by omega
   rw[h32]at ru ⊢
   refine dA<|aE<|aS<|a8<|nq (aa rfl)<| ?_
   refine nx (ey rfl Tryz.call170 (of Au cu x _ ru) ?_)
   rintro e_ w3 ⟨rfl,hf3⟩
   refine⟨_,rfl, ?_⟩
   refine yY (pa rfl rfl bn h32 (h12.nu hf3) z32 fun w4 hf4 h14 hs4=> ?_)
   refine nq (ab rfl)<|a7<|bx (ae (t:=3) rfl<|ae (t:=17) rfl<|ae (t:=12) rfl<|ae (t:=5) rfl<|ae (t:=4) rfl<|ae (t:=2) rfl<|ae (t:=0) rfl<|aA)<|aE<|dI<| ?_
   refine pn trivial rfl rfl rfl ct bn (by rw[aF];exact h32) h14.ay ⟨?_,((hf1.cB hf2).cB hf3).new hf4 (fun i hi=>by omega)⟩
   rw[b5,hx]
   simp only
   rw[if_pos h32]
 ·rename_i hx
  subst hv
  refine nq (aa rfl)<|nq (aq rfl rfl)<|nq (aq rfl rfl)<|nq (ab rfl)<|nq (ab rfl)<|a7<|bx (ae (t:=5) rfl<|ae (t:=4) rfl<|ae (t:=3) rfl<|ae (t:=2) rfl<|ae (t:=0) rfl<|aA)<|aE<|aS<|aS<|a8<|nq (aa rfl)<|nq (de rfl rfl)<|a7<|bx (ae (t:=12) rfl<|ae (t:=5) rfl<|ae (t:=4) rfl<|ae (t:=3) rfl<|ae (t:=2) rfl<|ae (t:=0) rfl<|aA)<|aE<| ?_
  refine vC rfl ((decide_eq_true (by decide):decide (¬(2:Int)=0)=true)) ?_
  refine aS<|a8<|nq (eb cX rfl (by kernel_rfl))<|nq (aa rfl)<| ?_
  refine yY (pa rfl rfl bn (List.length_replicate ..) h12 z32 fun w3 hf3 h13 hs3=> ?_)
  refine nq (ab rfl)<|a7<|bx (ae (t:=3) rfl<|ae (t:=12) rfl<|ae (t:=5) rfl<|ae (t:=4) rfl<|ae (t:=2) rfl<|ae (t:=0) rfl<|aA)<|aE<|dI<|bz<| ?_
  refine pn trivial rfl rfl rfl ct bn z32 h13.ay ⟨?_,(hf1.cB hf2).new hf3 (fun i hi=>by omega)⟩
  rw[b5,hx]
  rfl
theorem Ar(s:List UInt8)(w:World)(hs:s.length≤140737488351232):
  Calls Tryz.prog 92 #[.string (strOf s)] w fun e w' =>e= .returned (.tuple #[.agg (aZ (b5 s).1).toArray,.int .i64 (b5 s).2])∧Fr No w w' :=by
 refine enter (N:=26) Tryz.func92 rfl rfl (by simp) ?_
 refine aS<|a8<| ?_
 refine nx (mB cX fun g1 w1 hg1 hf1 hb1=> ?_)
 rw[oe]at hb1
 refine nq (ab rfl)<|a7<|aE<|aS<|a8<|nq (aa rfl)<| ?_
 refine nx (ey rfl Tryz.call166 (parse s w1 hs) ?_)
 rintro e_ w2 ⟨⟨v,rfl,hv⟩,hf2⟩
 refine⟨_,rfl, ?_⟩
 have h12:=hb1.nu hf2
 have z32:(aZ (List.replicate 32 (0:UInt8))).length=32:=by rw[aF];simp
 unfold gS at hv
 split at hv
 ·rename_i x hx
  obtain⟨u,rfl,hu⟩:=hv
  obtain⟨Au,cu,rfl,hcu⟩:=hu.slice
  have ru:=(Own.rd hu).2.2
  have hxl:=fI s x hx
  refine nq (aa rfl)<|nq (aq rfl rfl)<|nq (aq rfl rfl)<|nq (ab rfl)<|nq (ab rfl)<|a7<|bx (ae (t:=5) rfl<|ae (t:=4) rfl<|ae (t:=3) rfl<|ae (t:=2) rfl<|ae (t:=0) rfl<|aA)<|aE<|aS<|cR<|aS<|a8<|nq (aa rfl)<|nq (kd rfl Tryz.underlying47 (fun _ h=>by cases h))<|nq (kd rfl Tryz.underlying47 (fun _ h=>by cases h))<| ?_
  refine nx (ey rfl Tryz.call103 (oY 0 2 _) ?_)
  rintro e_ w3 ⟨rfl,rfl⟩
  refine⟨_,rfl, ?_⟩
  refine nq (ab rfl)<|a7<|bx (ae (t:=11) rfl<|ae (t:=5) rfl<|ae (t:=4) rfl<|ae (t:=3) rfl<|ae (t:=2) rfl<|ae (t:=0) rfl<|aA)<|aE<| ?_
  refine pr rfl ((decide_eq_false (by decide):decide ((0:Int)=2)=false)) ?_
  refine aS<|a8<|nq (aa rfl)<|nq (aR rfl Tryz.underlying27)<|nq (de rfl rfl)<|nq (ab rfl)<|a7<|bx (ae (t:=18) rfl<|ae (t:=11) rfl<|ae (t:=5) rfl<|ae (t:=4) rfl<|ae (t:=3) rfl<|ae (t:=2) rfl<|ae (t:=0) rfl<|aA)<|aE<| ?_
  refine ma rfl (fun h=> ?_) (fun h=> ?_)
  ·refine aS<|a8<|nq (eb cX rfl (by kernel_rfl))<| ?_
   refine yY (pa rfl rfl bn (List.length_replicate ..) h12 z32 fun w3 hf3 h13 hs3=> ?_)
   refine nq (ab rfl)<|a7<|bx (ae (t:=3) rfl<|ae (t:=18) rfl<|ae (t:=11) rfl<|ae (t:=5) rfl<|ae (t:=4) rfl<|ae (t:=2) rfl<|ae (t:=0) rfl<|aA)<|aE<|dI<|cA<|bz<| ?_
   refine pn trivial rfl rfl rfl ct bn z32 h13.ay ⟨?_,(hf1.cB hf2).new hf3 (fun i hi=>by omega)⟩
   rw[b5,hx]
   simp only
   rw[if_neg (fun e=>h (by rw[e];rfl))]
  ·have h32:x.length=32:=by omega
   rw[h32]at ru ⊢
   obtain⟨ad,rfl⟩:∃ad,Au=some ad:=⟨_,ru.some (by omega)⟩
   refine dA<|fb<|aE<|aS<|a8<|nq (aa rfl)<|nq (n5 rfl Tryz.underlying53 (by omega))<|nq (aX rfl ct bn ((by rw[aF];exact h32)) ru.2.2)<| ?_
   refine yY (pa rfl rfl bn h32 h12 z32 fun w4 hf4 h14 hs4=> ?_)
   refine nq (ab rfl)<|a7<|bx (ae (t:=3) rfl<|ae (t:=18) rfl<|ae (t:=11) rfl<|ae (t:=5) rfl<|ae (t:=4) rfl<|ae (t:=2) rfl<|ae (t:=0) rfl<|aA)<|aE<|dI<| ?_
   refine pn trivial rfl rfl rfl ct bn (by rw[aF];exact h32) h14.ay ⟨?_,(hf1.cB hf2).new hf4 (fun i hi=>by omega)⟩
   rw[b5,hx]
   simp only
   rw[if_pos h32]
 ·rename_i hx
  subst hv
  refine nq (aa rfl)<|nq (aq rfl rfl)<|nq (aq rfl rfl)<|nq (ab rfl)<|nq (ab rfl)<|a7<|bx (ae (t:=5) rfl<|ae (t:=4) rfl<|ae (t:=3) rfl<|ae (t:=2) rfl<|ae (t:=0) rfl<|aA)<|aE<|aS<|cR<|aS<|a8<|nq (aa rfl)<|nq (kd rfl Tryz.underlying47 (fun _ h=>by cases h))<|nq (kd rfl Tryz.underlying47 (fun _ h=>by cases h))<| ?_
  refine nx (ey rfl Tryz.call103 (oY 2 2 _) ?_)
  rintro e_ w3 ⟨rfl,rfl⟩
  refine⟨_,rfl, ?_⟩
  refine nq (ab rfl)<|a7<|bx (ae (t:=11) rfl<|ae (t:=5) rfl<|ae (t:=4) rfl<|ae (t:=3) rfl<|ae (t:=2) rfl<|ae (t:=0) rfl<|aA)<|aE<| ?_
  refine vC rfl ((decide_eq_true rfl:decide ((2:Int)=2)=true)) ?_
  refine aS<|a8<|nq (eb cX rfl (by kernel_rfl))<|nq (aa rfl)<| ?_
  refine yY (pa rfl rfl bn (List.length_replicate ..) h12 z32 fun w3 hf3 h13 hs3=> ?_)
  refine nq (ab rfl)<|a7<|bx (ae (t:=3) rfl<|ae (t:=11) rfl<|ae (t:=5) rfl<|ae (t:=4) rfl<|ae (t:=2) rfl<|ae (t:=0) rfl<|aA)<|aE<|dI<|cA<|bz<| ?_
  refine pn trivial rfl rfl rfl ct bn z32 h13.ay ⟨?_,(hf1.cB hf2).new hf3 (fun i hi=>by omega)⟩
  rw[b5,hx]
  rfl
def fill(l:List UInt8)(n:Nat):List UInt8:=(List.range n).map fun i=>l.getD (i % l.length) 0
theorem qx(l:List UInt8)(n:Nat):fill l (n+1)=fill l n++[l.getD (n % l.length) 0]:=by simp[fill,List.range_succ]
theorem CD(A:Option Addr)(n c:Nat)(l:List UInt8)(m:Nat)(w:World)(hr:Rd w 1 A n (aZ l))(hn:n≤140737488351232)(hm:m≤1000000):
  Calls Tryz.prog 101 #[.slice A n c,.int .i64 (m:Int)] w fun e w' =>∃v,e= .returned v∧Go.Eng.Own w' w.heap.size 5 1 v m (aZ (fill l m))∧Fr No w w' :=by
 have hl:l.length=n:=by have:=hr.1;rw[aF]at this;omega
 refine enter (N:=29) Tryz.func101 rfl rfl (by simp) ?_
 refine aS<|a8<|nq (ab rfl)<|a7<|aE<|aS<|a8<|nq (ab rfl)<|a7<|aE<|aS<|aS<|a8<|nq (ab rfl)<|a7<|aE<|cR<| ?_
 refine ry (fun k _=>m-k) (fun k v=>[(0,.slice A n c),(1,.int .i64 (m:Int)),(5,v),(6,.int .i64 (k:Nat))]) (fun k v w' =>k≤m∧Go.Eng.Own w' w.heap.size 5 1 v k (aZ (fill l k))∧Fr No w w') 0 (.slice none 0 0) (⟨Nat.zero_le _,Own.nil w w.heap.size _ 1,Fr.refl _ _⟩) (ae (t:=0) rfl<|ae (t:=1) rfl<|ae (t:=5) rfl<|ae (t:=6) rfl<|aA) (fun k v w2 ⟨hk,ho,hf⟩=> ?_)
 refine aS<|aS<|a8<|nq (aa rfl)<|nq (aa rfl)<|nq (br rfl rfl)<|a7<|bx (ae (t:=9) rfl<|ae (t:=0) rfl<|ae (t:=1) rfl<|ae (t:=5) rfl<|ae (t:=6) rfl<|aA)<|aE<| ?_
 refine ma rfl (fun h=> ?_) (fun h=> ?_)
 ·refine dA<|aE<|aS<|cR<|aS<|a8<|nq (aa rfl)<|nq (aR rfl Tryz.underlying27)<|nq (cW rfl rfl)<|a7<|bx (ae (t:=14) rfl<|ae (t:=9) rfl<|ae (t:=0) rfl<|ae (t:=1) rfl<|ae (t:=5) rfl<|ae (t:=6) rfl<|aA)<|aE<| ?_
  refine ma rfl (fun h2=> ?_) (fun h2=> ?_)
  ·have hkn:k % n<n:=Nat.mod_lt _ (by omega)
   have ga:=bJ (l:=l) (i:=k % n) (by omega)
   have r2:=hr.nu hf
   refine a8<|nq (aa rfl)<|nq (aa rfl)<|nq (aa rfl)<|nq (aa rfl)<|nq (aR rfl Tryz.underlying27)<|nq (gC rfl rfl (by omega) (by omega))<|nq (aK rfl rfl Tryz.underlying27 eg r2.2.1 (show((k % n:Nat):Int)=_ by omega) (by omega))<|nq (ar rfl iN (r2.cell ga))<| ?_
   refine nx (lY Tryz.underlying27 eO rfl rfl rfl (by simp[Value.cells,B8]) (by decide) (by decide) fun g w3 hg hf3 hb3=> ?_)
   refine nx (j8 rfl rfl Tryz.underlying27 Tryz.underlying27 (by exact .inl rfl) eO rfl (ho.nu hf3) (Src.iH hb3 rfl) (aY (l:=[_])) (by unfold maxLen;omega) (by omega) (hf.cB hf3).size fun v4 w4 ho4 hf4 hv4=> ?_)
   refine nq (ab rfl)<|a7<|bx (ae (t:=5) rfl<|ae (t:=14) rfl<|ae (t:=9) rfl<|ae (t:=0) rfl<|ae (t:=1) rfl<|ae (t:=6) rfl<|aA)<|fb<|aE<|a8<|nq (aa rfl)<|nq (aJ rfl rfl (bA (by omega) (by omega)))<|nq (ab rfl)<|a7<|bx (ae (t:=6) rfl<|ae (t:=5) rfl<|ae (t:=14) rfl<|ae (t:=9) rfl<|ae (t:=0) rfl<|ae (t:=1) rfl<|aA)<| ?_
   refine oC (k+1) v4 (ae (t:=0) rfl<|ae (t:=1) rfl<|ae (t:=5) rfl<|ae (t:=6) rfl<|aA) (⟨by omega,by rw[qx,bD,hl];exact ho4,(hf.cB hf3).new hf4 (fun i hi=>(ho.from hi).1)⟩) (by omega)
  ·have h0:l=[]:=List.eq_nil_of_length_eq_zero (by omega)
   refine a8<|nq (aa rfl)<| ?_
   refine nx (lY Tryz.underlying27 eO rfl rfl rfl (by simp[Value.cells,B8]) (by decide) (by decide) fun g w3 hg hf3 hb3=> ?_)
   refine nx (j8 rfl rfl Tryz.underlying27 Tryz.underlying27 (by exact .inl rfl) eO rfl (ho.nu hf3) (Src.iH hb3 rfl) (aY (l:=[0])) (by unfold maxLen;omega) (by omega) (hf.cB hf3).size fun v4 w4 ho4 hf4 hv4=> ?_)
   refine nq (ab rfl)<|a7<|bx (ae (t:=5) rfl<|ae (t:=14) rfl<|ae (t:=9) rfl<|ae (t:=0) rfl<|ae (t:=1) rfl<|ae (t:=6) rfl<|aA)<|fb<|aE<|a8<|nq (aa rfl)<|nq (aJ rfl rfl (bA (by omega) (by omega)))<|nq (ab rfl)<|a7<|bx (ae (t:=6) rfl<|ae (t:=5) rfl<|ae (t:=14) rfl<|ae (t:=9) rfl<|ae (t:=0) rfl<|ae (t:=1) rfl<|aA)<| ?_
   refine oC (k+1) v4 (ae (t:=0) rfl<|ae (t:=1) rfl<|ae (t:=5) rfl<|ae (t:=6) rfl<|aA) (⟨by omega,by rw[qx,bD,h0];rw[h0]at ho4;exact ho4,(hf.cB hf3).new hf4 (fun i hi=>(ho.from hi).1)⟩) (by omega)
 ·obtain rfl:k=m:=by omega
  refine iW<|bO<|bO<|cP<|aE<|aS<|a8<|nq (aa rfl)<|nq (ab rfl)<|a7<|bx (ae (t:=4) rfl<|ae (t:=9) rfl<|ae (t:=0) rfl<|ae (t:=1) rfl<|ae (t:=5) rfl<|ae (t:=6) rfl<|aA)<|aE<|dI<| ?_
  exact eT trivial rfl rfl ⟨v,rfl,ho,hf⟩
theorem DH(a:List UInt8)(w:World)(ha:a.length=32):
  Calls Tryz.prog 111 #[.agg (aZ a).toArray] w fun e w' =>e= .returned (.string (strOf (b9 a)))∧Fr No w w' :=by
 refine enter (N:=6) Tryz.func111 rfl rfl (by simp) ?_
 refine aS<|a8<| ?_
 refine nx (oZ rfl fun g1 w1 hg1 hf1 hb1=> ?_)
 rw[bG]at hb1
 refine nq (ab rfl)<|a7<|aE<|aS<|a8<|nq (aX rfl ct bn ((by rw[aF];exact ha)) hb1.ay)<| ?_
 refine nx (ey rfl Tryz.call183 (bytes a _ ha) ?_)
 rintro e_ w2 ⟨v,rfl,hv,hf2⟩
 refine⟨_,rfl, ?_⟩
 obtain⟨Av,cv,rfl,hcv⟩:=hv.slice
 refine nx (ey rfl Tryz.call182 (DX Av _ cv a _ ((Own.rd hv).2.2) (by omega)) ?_)
 rintro e_ w3 ⟨rfl,hf3⟩
 refine⟨_,rfl, ?_⟩
 refine nq (ab rfl)<|a7<|bx (ae (t:=2) rfl<|ae (t:=1) rfl<|ae (t:=0) rfl<|aA)<|aE<|dI<| ?_
 exact eT trivial rfl rfl ⟨rfl,(hf1.cB hf2).cB hf3⟩
theorem pE(d:List UInt8)(h:d.length=32):b5 (b9 d)=(d,0):=by
 rw[b5,oB]
 simp only
 rw[if_pos h]
end Go.Proofs.YtmibdabdlgmafaaGreatDoor
end
section
namespace Go.Hx
open Go.Eng
abbrev y6(ds:List (List UInt8)):Prop:=∀d∈ds,d.length=32
def lg:List (List UInt8)→List UInt8→List (List UInt8)
 | [],d=>[d]
 |a::r,d=>if cb a d<0 then a::lg r d else if a=d then a::r else d::a::r
theorem nU:∀(ds:List (List UInt8)) (d:List UInt8) (k:Nat),k≤ds.length→(∀i,i<k→cb (ds.getD i []) d<0)→(k<ds.length→¬cb (ds.getD k []) d<0)→
  lg ds d=if k<ds.length∧ds.getD k []=d then ds else ds.take k++[d]++ds.drop k
 | [],d,k,hk,_,_=>by
  obtain rfl:k=0:=by simpa using hk
  simp[lg]
 |a::r,d,0,_,_,h=>by
  have h0:=h (by simp)
  simp only[List.getD_cons_zero]at h0
  simp only[lg,if_neg h0,List.getD_cons_zero,List.take_zero,List.nil_append,List.drop_zero,List.singleton_append,List.length_cons,Nat.zero_lt_succ,true_and]
 |a::r,d,k+1,hk,h1,h2=>by
  have ha:=h1 0 (by omega)
  simp only[List.getD_cons_zero]at ha
  have ih:=nU r d k (by simpa using hk) (fun i hi=>by have:=h1 (i+1) (by omega);simpa using this) (fun hl=>by have:=h2 (by simpa using hl);simpa using this)
  simp only[lg,if_pos ha,ih,List.getD_cons_succ,List.length_cons,Nat.succ_lt_succ_iff,List.take_succ_cons,List.drop_succ_cons,List.cons_append]
  split <;> rfl
theorem tb(ds:List (List UInt8))(d:List UInt8):ds.length≤(lg ds d).length∧(lg ds d).length≤ds.length+1:=by
 induction ds with
 |nil=>simp[lg]
 |cons a r ih=>
  simp only[lg]
  split
  ·simp only[List.length_cons];omega
  ·split <;> simp
theorem yS{ds:List (List UInt8)}{d:List UInt8}(h:y6 ds)(hd:d.length=32):y6 (lg ds d):=by
 induction ds with
 |nil=>intro x hx;simp[lg]at hx;subst hx;exact hd
 |cons a r ih=>
  have ih' :=ih (fun x hx=>h x (List.mem_cons_of_mem _ hx))
  have ha:=h a (List.mem_cons_self ..)
  intro x hx
  simp only[lg]at hx
  split at hx
  ·rcases List.mem_cons.1 hx with rfl|hx
   ·exact ha
   ·exact ih' x hx
  ·split at hx
   ·exact h x hx
   ·rcases List.mem_cons.1 hx with rfl|hx
    ·exact hd
    ·exact h x hx
end Go.Hx
end
section
set_option maxRecDepth 20000
namespace Go.Proofs.YtmibdabdlgmafaaGreatDoor
open Go.Eng Go.Hx
theorem xD{w:World}{A:Option Addr}{n:Nat}{ds:List (List UInt8)}(h:Rd w 32 A n (dc ds))(hd:y6 ds):ds.length=n:=by
 have:=h.1
 rw[wm hd]at this
 omega
end Go.Proofs.YtmibdabdlgmafaaGreatDoor
end
section
set_option maxRecDepth 20000
namespace Go.Proofs.YtmibdabdlgmafaaGreatDoor
open Go.Eng Go.Hx
end Go.Proofs.YtmibdabdlgmafaaGreatDoor
end
section
set_option maxRecDepth 20000
namespace Go.Proofs.YtmibdabdlgmafaaGreatDoor
open Go.Eng Go.Hx
theorem number(n:Nat)(w:World)(hn:n<4294967296):
  Calls Tryz.prog 160 #[.int .i64 (n:Int)] w fun e w' =>∃v,e= .returned v∧Go.Eng.Own w' w.heap.size 5 1 v 4 (aZ (gz n))∧Fr No w w' :=by
 refine enter (N:=21) Tryz.func160 rfl rfl (by simp) ?_
 refine aS<|a8<|nq (ab rfl)<|a7<|aE<|aS<|a8<|nq (aa rfl)<|nq (bU rfl Tryz.underlying3 Tryz.underlying166 ((uY (by omega) (by omega))))<|nq (ab rfl)<|a7<|bx (ae (t:=3) rfl<|ae (t:=2) rfl<|ae (t:=0) rfl<|aA)<|aE<|aS<|a8<|nq (aa rfl)<|nq (gC rfl rfl (by omega) (by omega))<|nq (bU rfl Tryz.underlying166 Tryz.underlying5 ((show IntKind.u8.wrap ((n:Int) % 256)=((UInt8.ofNat n).toNat:Int) by simp[IntKind.wrap,IntKind.signed,IntKind.bits])))<|nq (aa rfl)<|nq (iI rfl rfl (by omega) (by omega) (uY (by omega) (by omega)))<|nq (gC rfl rfl (by omega) (by omega))<|nq (bU rfl Tryz.underlying166 Tryz.underlying5 ((show IntKind.u8.wrap ((n:Int)/256 % 256)=((UInt8.ofNat (n/256)).toNat:Int) by simp[IntKind.wrap,IntKind.signed,IntKind.bits])))<|nq (aa rfl)<|nq (iI rfl rfl (by omega) (by omega) (uY (by omega) (by omega)))<|nq (gC rfl rfl (by omega) (by omega))<|nq (bU rfl Tryz.underlying166 Tryz.underlying5 ((show IntKind.u8.wrap ((n:Int)/65536 % 256)=((UInt8.ofNat (n/65536)).toNat:Int) by simp[IntKind.wrap,IntKind.signed,IntKind.bits])))<|nq (aa rfl)<|nq (iI rfl rfl (by omega) (by omega) (uY (by omega) (by omega)))<|nq (bU rfl Tryz.underlying166 Tryz.underlying5 ((show IntKind.u8.wrap ((n:Int)/16777216)=((UInt8.ofNat (n/16777216)).toNat:Int) by simp[IntKind.wrap,IntKind.signed,IntKind.bits])))<| ?_
 refine nx (lY Tryz.underlying27 eO rfl rfl rfl (by simp[Value.cells,B8]) (by decide) (by decide) fun g w1 hg hf1 hb1=> ?_)
 refine nq (ab rfl)<|a7<|bx (ae (t:=2) rfl<|ae (t:=3) rfl<|ae (t:=0) rfl<|aA)<|aE<|dI<| ?_
 exact eT trivial rfl rfl ⟨_,rfl,Own.made hb1 hg (Nat.le_refl _) (by decide) rfl,hf1⟩
end Go.Proofs.YtmibdabdlgmafaaGreatDoor
end
section
set_option maxRecDepth 20000
namespace Go.Proofs.YtmibdabdlgmafaaGreatDoor
open Go.Eng Go.Hx
theorem Es{A:Option Addr}{n c:Nat}{l:List UInt8}{m:Nat}(hc:n≤c)(hn:n≤140737488351232):cj Tryz.prog 32 [.slice A n c,.int .i64 (m:Int)] [] [dr 1 A n (aZ l)] (fun v_ X_ S_=>∃v,v_=v∧X_=[aH 5 1 v (min n m) (aZ (l.take m))]∧S_=[]):=by
 exact kE fun mm=>Calls.mono (EO A n c l m _ (mm.rd 0 rfl) hc hn) (fun e w' ⟨v,h,ho,hf⟩=>⟨v,v,_,_,_,_,h,⟨v,rfl,rfl,rfl⟩,ho,hf⟩)
theorem lX{n m:Int}(h1:-9223372036854775808≤n)(h2:n≤9223372036854775807)(hm:0<m):cj Tryz.prog 16 [.int .i64 n,.int .i64 m] [] [] (fun v_ X_ S_=>v_=(.int .i64 (fB n m))∧X_=[]∧S_=[]):=by
 exact ff fun mm=>Calls.mono (wI n m _ h1 h2 hm) (fun e w' ⟨h,hw⟩=>⟨_,h,⟨rfl,rfl,rfl⟩,hw▸Fr.refl _ _⟩)
theorem yv{A:Option Addr}{n c:Nat}{l:List UInt8}(hn:n≤70368744177664):cj Tryz.prog 189 [.slice A n c] [] [dr 1 A n (aZ l)] (fun v_ X_ S_=>∃v,v_=v∧X_=[aH 5 1 v (n+4) (aZ (xf l))]∧S_=[]):=by
 exact kE fun m=>Calls.mono (Ae A n c l _ (m.rd 0 rfl) hn) (fun e w' ⟨v,h,ho,hf⟩=>⟨v,v,_,_,_,_,h,⟨v,rfl,rfl,rfl⟩,ho,hf⟩)
theorem tp{s:List UInt8}{m:Nat}:cj Tryz.prog 97 [.string (strOf s),.int .i64 (m:Int)] [] [] (fun v_ X_ S_=>v_=(.string (strOf (s.take m)))∧X_=[]∧S_=[]):=by
 exact ff fun mm=>Calls.mono (za s m _) (fun e w' ⟨h,hw⟩=>⟨_,h,⟨rfl,rfl,rfl⟩,hw▸Fr.refl _ _⟩)
theorem z6{n:Nat}(hn:n<4294967296):cj Tryz.prog 160 [.int .i64 (n:Int)] [] [] (fun v_ X_ S_=>∃v,v_=v∧X_=[aH 5 1 v 4 (aZ (gz n))]∧S_=[]):=by
 exact kE fun m=>Calls.mono (number n _ hn) (fun e w' ⟨v,h,ho,hf⟩=>⟨v,v,_,_,_,_,h,⟨v,rfl,rfl,rfl⟩,ho,hf⟩)
theorem vE{a b:List UInt8}(ha:a.length=32)(hb:b.length=32):cj Tryz.prog 171 [.agg (aZ a).toArray,.agg (aZ b).toArray] [] [] (fun v_ X_ S_=>v_=(.int .i64 (cb a b))∧X_=[]∧S_=[]):=by
 exact ff fun m=>Calls.mono (yl a b _ ha hb) (fun e w' ⟨h,hf⟩=>⟨_,h,⟨rfl,rfl,rfl⟩,hf⟩)
end Go.Proofs.YtmibdabdlgmafaaGreatDoor
end
section
set_option maxRecDepth 20000
namespace Go.Proofs.YtmibdabdlgmafaaGreatDoor
open Go.Eng Go.Hx
theorem yC{a:List UInt8}(ha:a.length=32):cj Tryz.prog 104 [.agg (aZ a).toArray] [] [] (fun v_ X_ S_=>v_=(.string (strOf (b9 a)))∧X_=[]∧S_=[]):=by
 exact ff fun m=>Calls.mono (name a _ ha) (fun e w' ⟨h,hf⟩=>⟨_,h,⟨rfl,rfl,rfl⟩,hf⟩)
theorem rk{a:List UInt8}(ha:a.length=32):cj Tryz.prog 111 [.agg (aZ a).toArray] [] [] (fun v_ X_ S_=>v_=(.string (strOf (b9 a)))∧X_=[]∧S_=[]):=by
 exact ff fun m=>Calls.mono (DH a _ ha) (fun e w' ⟨h,hf⟩=>⟨_,h,⟨rfl,rfl,rfl⟩,hf⟩)
theorem wM{s:List UInt8}(hs:s.length≤1000000):cj Tryz.prog 92 [.string (strOf s)] [] [] (fun v_ X_ S_=>v_=(.tuple #[.agg (aZ (b5 s).1).toArray,.int .i64 (b5 s).2])∧X_=[]∧S_=[]):=by
 exact ff fun m=>Calls.mono (Ar s _ (by omega)) (fun e w' ⟨h,hf⟩=>⟨_,h,⟨rfl,rfl,rfl⟩,hf⟩)
theorem vY{s:List UInt8}(hs:s.length≤1000000):cj Tryz.prog 95 [.string (strOf s)] [] [] (fun v_ X_ S_=>v_=(.tuple #[.agg (aZ (b5 s).1).toArray,.int .i64 (b5 s).2])∧X_=[]∧S_=[]):=by
 exact ff fun m=>Calls.mono (zO s _ (by omega)) (fun e w' ⟨h,hf⟩=>⟨_,h,⟨rfl,rfl,rfl⟩,hf⟩)
theorem BG{k q:Int}:cj Tryz.prog 103 [.iface 47 (.int .i64 k),.iface 47 (.int .i64 q)] [] [] (fun v_ X_ S_=>v_=(.bool (decide (k=q)))∧X_=[]∧S_=[]):=by
 exact ff fun m=>Calls.mono (oY k q _) (fun e w' ⟨h,hw⟩=>⟨_,h,⟨rfl,rfl,rfl⟩,hw▸Fr.refl _ _⟩)
theorem D0{A:Option Addr}{n c:Nat}{l:List UInt8}{k:Nat}(hn:n≤140737488351232)(hk:k≤1000000):cj Tryz.prog 101 [.slice A n c,.int .i64 (k:Nat)] [] [dr 1 A n (aZ l)] (fun v_ X_ S_=>∃v,v_=v∧X_=[aH 5 1 v k (aZ (fill l k))]∧S_=[]):=by
 exact kE fun m=>Calls.mono (CD A n c l k _ (m.rd 0 rfl) hn hk) (fun e w' ⟨v,h,ho,hf⟩=>⟨v,v,_,_,_,_,h,⟨v,rfl,rfl,rfl⟩,ho,hf⟩)
end Go.Proofs.YtmibdabdlgmafaaGreatDoor
end
section
set_option maxRecDepth 20000
namespace Go.Proofs.YtmibdabdlgmafaaGreatDoor
open Go.Eng Go.Hx
theorem rI{l:List UInt8}{c:UInt8}:cj Tryz.prog 267 [.string (strOf l),B8 c] [] [] (fun v_ X_ S_=>v_=(.int .i64 (Lib.indexByte l c))∧X_=[]∧S_=[]):=by
 refine aO (N:=8) Tryz.func267 rfl rfl (by simp) fun b=> ?_
 refine ah<|aj<|hy (fun _=>ab rfl)<|ai<|ag<|ah<|aj<|hy (fun _=>aa rfl)<|hy (fun _=>aa rfl)<| ?_
 refine hx (mK (fun m=>yq rfl Tryz.func295 (by kernel_rfl) (by kernel_rfl) (by kernel_rfl) (show _=some Extern.BytealgIndexByte.indexByte by kernel_rfl) (Lib.run_indexByteString _ _ _)) ?_)
 refine hy (fun _=>ab rfl)<|ai<|al (ρ' :=[(4,_),(0,_),(1,_)]) ⟨rfl,rfl,rfl,trivial⟩<|ag<|aU<| ?_
 exact bc trivial rfl rfl [] rfl [] rfl ⟨(by congr 2;simp),rfl,rfl⟩
theorem vJ{l:List UInt8}{c:UInt8}:cj Tryz.prog 274 [.string (strOf l),.string (strOf [c])] [] [] (fun v_ X_ S_=>v_=(.int .i64 (Lib.indexByte l c))∧X_=[]∧S_=[]):=by
 refine aO (N:=143) Tryz.func274 rfl rfl (by simp) fun b=> ?_
 refine ah<|aj<|hy (fun _=>ab rfl)<|ai<|ag<|ah<|aj<|hy (fun _=>aa rfl)<|hy (fun _=>yV (cp rfl Tryz.underlying9) ((rfl:_=Value.int .i64 1)))<|hy (fun _=>ab rfl)<|ai<|al (ρ' :=[(5,_),(4,_),(0,_),(1,_)]) ⟨rfl,rfl,rfl,rfl,trivial⟩<|ag<|ah<|aN<|ah<|aj<|hy (fun _=>aa rfl)<|hy (fun _=>b7 rfl rfl)<|hy (fun _=>aa rfl)<| ?_
 refine cx (o:=_) rfl rfl rfl (fun _=>aa rfl)<|cx (o:=_) rfl rfl rfl (fun _=>aa rfl)<|cx (o:=_) rfl rfl rfl (fun _=>me rfl rfl)<|hy (fun _=>bp rfl rfl)<|hy (fun _=>ab rfl)<|ai<|al (ρ' :=[(16,_),(5,_),(4,_),(0,_),(1,_)]) ⟨rfl,rfl,rfl,rfl,rfl,trivial⟩<|ag<| ?_
 refine cL rfl (fun h=> ?_) (fun h=> ?_)
 ·obtain rfl:=cD.1 h
  refine ah<|aj<|hy (fun _=>ab rfl)<|ai<|ag<|aU<|aV<|aw<| ?_
  exact bc trivial rfl rfl [] rfl [] rfl ⟨(by simp[Lib.indexByte]),rfl,rfl⟩
 ·refine ah<|aj<|hy (fun _=>aa rfl)<|hy (fun _=>b7 rfl rfl)<|hy (fun _=>ab rfl)<|ai<|al (ρ' :=[(24,_),(16,_),(5,_),(4,_),(0,_),(1,_)]) ⟨rfl,rfl,rfl,rfl,rfl,rfl,trivial⟩<|ag<| ?_
  refine fE rfl (rfl) ?_
  refine ah<|aj<|hy (fun _=>aa rfl)<|hy (fun _=>aa rfl)<|hy (fun _=>yV (eM rfl rfl Tryz.underlying9 rfl (iz (by simp))) ((rfl:_=B8 c)))<| ?_
  refine hx (ao rfl Tryz.call267 (rI) [] rfl [] rfl ?_)
  rintro _ _ _ ⟨rfl,rfl,rfl⟩
  refine hy (fun _=>ab rfl)<|ai<|al (ρ' :=[(4,_),(24,_),(16,_),(5,_),(0,_),(1,_)]) ⟨rfl,rfl,rfl,rfl,rfl,rfl,trivial⟩<|ak (X' :=[]) (S' :=[]) (fun _ m=>m)<|ag<|aU<|aV<|aw<| ?_
  exact bc trivial rfl rfl [] rfl [] rfl ⟨rfl,rfl,rfl⟩
theorem pb{l:List UInt8}{c:UInt8}:cj Tryz.prog 233 [.string (strOf l),.string (strOf [c])] [] [] (fun v_ X_ S_=>v_=(.int .i64 (Lib.indexByte l c))∧X_=[]∧S_=[]):=by
 refine aO (N:=8) Tryz.func233 rfl rfl (by simp) fun b=> ?_
 refine ah<|aj<|hy (fun _=>ab rfl)<|ai<|ag<|ah<|aj<|hy (fun _=>aa rfl)<|hy (fun _=>aa rfl)<| ?_
 refine hx (ao rfl Tryz.call274 (vJ) [] rfl [] rfl ?_)
 rintro _ _ _ ⟨rfl,rfl,rfl⟩
 refine hy (fun _=>ab rfl)<|ai<|al (ρ' :=[(4,_),(0,_),(1,_)]) ⟨rfl,rfl,rfl,trivial⟩<|ak (X' :=[]) (S' :=[]) (fun _ m=>m)<|ag<|aU<| ?_
 exact bc trivial rfl rfl [] rfl [] rfl ⟨rfl,rfl,rfl⟩
theorem tG{l:List UInt8}{c:UInt8}:cj Tryz.prog 184 [.string (strOf l),.string (strOf [c])] [] [] (fun v_ X_ S_=>v_=(.bool (decide (c∈l)))∧X_=[]∧S_=[]):=by
 refine aO (N:=9) Tryz.func184 rfl rfl (by simp) fun b=> ?_
 refine ah<|aj<|hy (fun _=>ab rfl)<|ai<|ag<|ah<|aj<|hy (fun _=>aa rfl)<|hy (fun _=>aa rfl)<| ?_
 refine hx (ao rfl Tryz.call233 (pb) [] rfl [] rfl ?_)
 rintro _ _ _ ⟨rfl,rfl,rfl⟩
 refine hy (fun _=>iD rfl rfl)<|hy (fun _=>ab rfl)<|ai<|al (ρ' :=[(4,_),(0,_),(1,_)]) ⟨rfl,rfl,rfl,trivial⟩<|ak (X' :=[]) (S' :=[]) (fun _ m=>m)<|ag<|aU<| ?_
 exact bc trivial rfl rfl [] rfl [] rfl ⟨(by congr 1;rw[←Lib.contains_iff_indexByte];simp),rfl,rfl⟩
def fT(p:List UInt8):Prop:=p≠ []∧p.length≤96∧¬(0:UInt8)∈p
instance(p:List UInt8):Decidable (fT p):=by unfold fT;infer_instance
theorem u4(p:List UInt8):strOf p≠⟨#[]⟩↔p≠ []:=by
 rw[show(⟨#[]⟩:ByteArray)=strOf []from rfl]
 simp only[ne_eq,cD]
theorem yg{p:List UInt8}:cj Tryz.prog 115 [.string (strOf p)] [] [] (fun v_ X_ S_=>v_=(.bool (decide (fT p)))∧X_=[]∧S_=[]):=by
 have hsz:=cr p
 refine aO (N:=15) Tryz.func115 rfl rfl (by simp) fun b=> ?_
 refine ah<|aj<|hy (fun _=>ab rfl)<|ai<|ag<|ah<|aj<|hy (fun _=>aa rfl)<|hy (fun _=>kn rfl rfl)<|hy (fun _=>aa rfl)<| ?_
 refine fo 5 rfl (fun h1=> ?_) (fun h1=> ?_)
 ·have h1' :=(u4 p).1 h1
  refine cx (o:=_) rfl rfl rfl (fun _=>aa rfl)<|cx (o:=_) rfl rfl rfl (fun _=>cp rfl Tryz.underlying9)<|cx (o:=_) rfl rfl rfl (fun _=>nj rfl rfl)<|hy (fun _=>bE rfl rfl)<|hy (fun _=>aa rfl)<| ?_
  refine fo 10 rfl (fun h2=> ?_) (fun h2=> ?_)
  ·have h2' :p.length≤96:=by omega
   refine cx (o:=_) rfl rfl rfl (fun _=>aa rfl)<| ?_
   refine Bf (o:=_) rfl rfl rfl (ao rfl Tryz.call184 (tG) [] rfl [] rfl ?_)
   rintro _ _ _ ⟨rfl,rfl,rfl⟩
   refine cx (o:=_) rfl rfl rfl (fun _=>jM rfl)<|hy (fun _=>bE rfl rfl)<|hy (fun _=>ab rfl)<|ai<|al (ρ' :=[(2,_),(0,_)]) ⟨rfl,rfl,trivial⟩<|ak (X' :=[]) (S' :=[]) (fun _ m=>m)<|ag<|aU<| ?_
   exact bc trivial rfl rfl [] rfl [] rfl ⟨(by congr 1;simp only[fT];simp[h1',h2']),rfl,rfl⟩
  ·have h2' :¬p.length≤96:=by omega
   refine bg rfl rfl rfl (by decide)<|bg rfl rfl rfl (by decide)<|bg rfl rfl rfl (by decide)<|hy (fun _=>bp rfl rfl)<|hy (fun _=>ab rfl)<|ai<|al (ρ' :=[(2,_),(0,_)]) ⟨rfl,rfl,trivial⟩<|ag<|aU<| ?_
   exact bc trivial rfl rfl [] rfl [] rfl ⟨(by congr 1;simp only[fT];simp[h2']),rfl,rfl⟩
 ·have h1' :¬p≠ []:=fun h=>h1 ((u4 p).2 h)
  refine bg rfl rfl rfl (by decide)<|bg rfl rfl rfl (by decide)<|bg rfl rfl rfl (by decide)<|hy (fun _=>bp rfl rfl)<|hy (fun _=>aa rfl)<| ?_
  refine bg rfl rfl rfl (by decide)<|bg rfl rfl rfl (by decide)<|bg rfl rfl rfl (by decide)<|hy (fun _=>bp rfl rfl)<|hy (fun _=>ab rfl)<|ai<|al (ρ' :=[(2,_),(0,_)]) ⟨rfl,rfl,trivial⟩<|ag<|aU<| ?_
  exact bc trivial rfl rfl [] rfl [] rfl ⟨(by congr 1;simp only[fT];simp[h1']),rfl,rfl⟩
end Go.Proofs.YtmibdabdlgmafaaGreatDoor
end
section
set_option maxRecDepth 20000
namespace Go.Proofs.YtmibdabdlgmafaaGreatDoor
open Go.Eng Go.Hx
abbrev dg:=List (List UInt8×ej)
def dF(l:dg):List (List UInt8×Value):=l.map fun x=>(x.1,x.2.val)
def ka(l:dg):Nat:=(l.map fun x=>x.2.n).sum
theorem l6:∀(l:dg) (p:List UInt8),cn (dF l) p=(cn l p).map ej.val
 | [],p=>rfl
 |(k,r)::q,p=>by
  have:=l6 q p
  simp only[dF,List.map_cons,cn]at this ⊢
  split <;> simp_all
theorem ki:∀(l:dg) (p:List UInt8) (r:ej),cN (dF l) p r.val=dF (cN l p r)
 | [],p,r=>rfl
 |(k,u)::q,p,r=>by
  have:=ki q p r
  simp only[dF,List.map_cons,cN]at this ⊢
  split <;> simp_all
theorem pB:∀(l:dg) (p:List UInt8),eA (dF l) p=dF (eA l p)
 | [],p=>rfl
 |(k,u)::q,p=>by
  have:=pB q p
  simp only[dF,List.map_cons,eA]at this ⊢
  split <;> simp_all
theorem vf{l:dg}{j:Nat}{p:List UInt8×Value}(h:(dF l)[j]? =some p):∃r,l[j]? =some (p.1,r)∧p.2=r.val:=by
 simp only[dF,List.getElem?_map]at h
 cases hl:l[j]? with
 |none=>rw[hl]at h;cases h
 |some x=>
  rw[hl]at h
  simp only[Option.map_some,Option.some.injEq]at h
  subst h
  exact⟨x.2,rfl,rfl⟩
theorem lD(l:dg)(j:Nat):(dF l).eraseIdx j=dF (l.eraseIdx j):=(map_eraseIdx _ l j).symm
theorem qs:∀{l:dg} {j:Nat} {x:List UInt8×ej},l[j]? =some x→ka (l.eraseIdx j)+x.2.n=ka l
 | [],j,x,h=>by simp at h
 |a::q,0,x,h=>by
  simp only[List.getElem?_cons_zero,Option.some.injEq]at h
  subst h
  simp[ka];omega
 |a::q,j+1,x,h=>by
  simp only[List.getElem?_cons_succ]at h
  have:=qs h
  simp only[ka,List.eraseIdx_cons_succ,List.map_cons,List.sum_cons]at this ⊢
  omega
inductive fj
 |written (p:List UInt8) (r:ej)
 |renamed (a b:List UInt8)
 |removed (p:List UInt8)
def fj.row:fj→Option ej
 | .written _ r=>some r
 |_=>none
def fj.val:fj→Value
 | .written p r=>.iface 189 (.agg [SV p,r.val].toArray)
 | .renamed a b=>.iface 257 (.agg [SV a,SV b].toArray)
 | .removed p=>.iface 237 (.agg [SV p].toArray)
structure cH where
 room:Int
 gs:Nat
 gl:Nat
 seen:dg
 b4:dg
 waits:List fj
 wA:Option Addr
 wc:Nat
 bS:Int
def rowsOf(st:cH):List ej:=st.seen.map (·.2)++st.b4.map (·.2)++st.waits.filterMap fj.row
def gM(st:cH):List Value:=[.int .i64 st.room,.map (some st.gs),.map (some st.gl),.slice st.wA st.waits.length st.wc,.int .i64 st.bS]
abbrev bm(g:Nat)(st:cH):bh:=eK [aG g 177 (gM st),dw SV st.gs (dF st.seen),dw SV st.gl (dF st.b4),aH 232 1 (.slice st.wA st.waits.length st.wc) st.waits.length (st.waits.map fj.val),fK (rowsOf st)]
def j9(n:Int)(gs gl:Nat):cH:=⟨n,gs,gl,[],[],[],none,0,-1⟩
theorem Eu{n:Int}(h1:1≤n)(h2:n≤1048576):cj Tryz.prog 24 [.int .i64 n] [] [] (fun v_ X_ S_=>∃g gs gl,v_=(.tuple #[.pointer (some ⟨g,0,none⟩),.int .i64 0])∧X_=[bm g (j9 n gs gl)]∧S_=[]):=by
 refine aO (N:=15) Tryz.func24 rfl rfl (by simp) fun b=> ?_
 refine ah<|aj<|hy (fun _=>ab rfl)<|hy (fun _=>ab rfl)<|ai<|ag<|ah<|ah<|aj<|hy (fun _=>aa rfl)<|hy (fun _=>br rfl rfl)<|hy (fun _=>aa rfl)<| ?_
 refine fo 6 rfl (fun h=> ?_) (fun h=> ?_)
 ·exact absurd h (by omega)
 ·refine cx (o:=_) rfl rfl rfl (fun _=>aa rfl)<|cx (o:=_) rfl rfl rfl (fun _=>cW rfl rfl)<|hy (fun _=>bp rfl rfl)<|ai<|al (ρ' :=[(9,_),(3,_),(2,_),(0,_)]) ⟨rfl,rfl,rfl,rfl,trivial⟩<|ag<| ?_
  refine di rfl (decide_eq_false (by omega)) ?_
  refine aB<|ag<|ah<|aj<|hy (fun _=>aa rfl)<| ?_
  refine hx (ob SV (fun g11=> ?_))
  refine hx (ob SV (fun g12=> ?_))
  refine hy (fun _=>yV (cM C4 rfl rfl (by kernel_rfl) (.cons (o:=0) (sz:=1) (by kernel_rfl) rfl rfl (Nat.le_of_ble_eq_true rfl) (.cons (o:=1) (sz:=1) (by kernel_rfl) rfl rfl (Nat.le_of_ble_eq_true rfl) (.cons (o:=2) (sz:=1) (by kernel_rfl) rfl rfl (Nat.le_of_ble_eq_true rfl) (.cons (o:=4) (sz:=1) (by kernel_rfl) rfl rfl (Nat.le_of_ble_eq_true rfl) .nil))))) ((rfl:_=Value.agg (gM (j9 n g11 g12)).toArray)))<| ?_
  refine hx (cz rfl (fun g14=> ?_))
  refine hy (fun _=>ab rfl)<|hy (fun _=>ab rfl)<|ai<|al (ρ' :=[(3,_),(2,_),(9,_),(0,_)]) ⟨rfl,rfl,rfl,rfl,trivial⟩<|ak (X' :=[_,_,_]) (S' :=[]) (fun _ m=>m)<|ag<|aU<| ?_
  refine ak (fun w m=>m.dx (r' :=aH 232 1 (.slice none 0 0) 0 []) (.refl _ _) (Own.nil _ _ _ _) (fun k hk=>hk.elim)) ?_
  refine ak (fun w m=>m.BU) ?_
  refine ak (X' :=bm g14 (j9 n g11 g12)::_) (fun w m=>(m.perm (av [2,3,2,1,0] _ [_,_,_,_,_] _ rfl)).pack) ?_
  exact dO trivial rfl rfl rfl [0] rfl [] rfl ⟨_,_,_,rfl,rfl,rfl⟩
theorem Ee{g:Nat}{st:cH}:cj Tryz.prog 87 [.pointer (some ⟨g,0,none⟩)] [bm g st] [] (fun v_ X_ S_=>v_=(.bool (decide (st.bS≠0)))∧X_=[bm g st]∧S_=[]):=by
 refine aO (N:=8) Tryz.func87 rfl rfl (by simp) fun b=> ?_
 refine bu (fun w m=>(m.perm (av [0] _ [_] _ rfl)).unpack) ?_
 refine ah<|aj<|hy (fun _=>ab rfl)<|ai<|ag<|ah<|aj<|hy (fun _=>aa rfl)<|hy (fun _=>aW rfl)<|hy (fun _=>aD rfl kN (by decide))<|hy (fun m=>ar rfl eY (ax (m.aT 0 rfl) rfl))<|hy (fun _=>de rfl rfl)<|hy (fun _=>ab rfl)<|ai<|al (ρ' :=[(2,_),(0,_)]) ⟨rfl,rfl,trivial⟩<|ag<|aU<| ?_
 refine ak (X' :=bm g st::_) (fun w m=>(m.perm (av [0,0,0,0,0] _ [_,_,_,_,_] _ rfl)).pack) ?_
 exact bc trivial rfl rfl [0] rfl [] rfl ⟨rfl,rfl,rfl⟩
def cH.eI(st:cH):cH:={st with bS:=if 0<st.bS then st.bS-1 else st.bS}
theorem qK{g:Nat}{st:cH}(hp:st.bS≤1000000000000):cj Tryz.prog 181 [.pointer (some ⟨g,0,none⟩)] [bm g st] [] (fun v_ X_ S_=>v_=(.tuple #[])∧X_=[bm g st.eI]∧S_=[]):=by
 refine aO (N:=14) Tryz.func181 rfl rfl (by simp) fun b=> ?_
 refine bu (fun w m=>(m.perm (av [0] _ [_] _ rfl)).unpack) ?_
 refine ah<|aj<|hy (fun _=>aa rfl)<|hy (fun _=>aW rfl)<|hy (fun _=>aD rfl kN (by decide))<|hy (fun m=>ar rfl eY (ax (m.aT 0 rfl) rfl))<|hy (fun _=>cW rfl rfl)<|ai<|al (ρ' :=[(6,_),(0,_)]) ⟨rfl,rfl,trivial⟩<|ag<| ?_
 refine cL rfl (fun h=> ?_) (fun h=> ?_)
 ·have e:st.eI={st with bS:=st.bS-1}:=by simp only[cH.eI,if_pos h]
  rw[e]
  refine aj<|hy (fun _=>aa rfl)<|hy (fun _=>aW rfl)<|hy (fun _=>aD rfl kN (by decide))<|hy (fun m=>ar rfl eY (ax (m.aT 0 rfl) rfl))<|hy (fun _=>cm rfl rfl (bA (by omega) (by omega)))<|hy (fun _=>aW rfl)<|hy (fun _=>aD rfl kN (by decide))<| ?_
  refine cI (bR 0 rfl rfl rfl tf rfl (by first|exact Nat.le_of_ble_eq_true rfl|simp) ?_)
  refine ai<|al (ρ' :=[(6,_),(0,_)]) ⟨rfl,rfl,trivial⟩<|ak (X' :=[_,_,_,_,_]) (S' :=[]) (fun _ m=>m)<| ?_
  refine ak (X' :=bm g {st with bS:=st.bS-1}::_) (fun w m=>(m.perm (av [0,0,0,0,0] _ [_,_,_,_,_] _ rfl)).pack) ?_
  exact fv trivial rfl [0] rfl [] rfl ⟨rfl,rfl,rfl⟩
 ·have e:st.eI=st:=by simp only[cH.eI,if_neg h]
  rw[e]
  refine aB<| ?_
  refine ak (X' :=bm g st::_) (fun w m=>(m.perm (av [0,0,0,0,0] _ [_,_,_,_,_] _ rfl)).pack) ?_
  exact fv trivial rfl [0] rfl [] rfl ⟨rfl,rfl,rfl⟩
theorem Bh{g:Nat}{st:cH}(ht:ka st.seen≤1000000000000):cj Tryz.prog 88 [.pointer (some ⟨g,0,none⟩)] [bm g st] [] (fun v_ X_ S_=>v_=(.int .i64 (ka st.seen:Nat))∧X_=[bm g st]∧S_=[]):=by
 refine aO (N:=20) Tryz.func88 rfl rfl (by simp) fun b=> ?_
 refine bu (fun w m=>(m.perm (av [0] _ [_] _ rfl)).unpack) ?_
 refine ah<|aj<|hy (fun _=>ab rfl)<|ai<|ag<|ah<|aj<|hy (fun _=>ab rfl)<|ai<|ag<|ah<|ah<|aj<|hy (fun _=>aa rfl)<|hy (fun _=>aW rfl)<|hy (fun _=>aD rfl gp (by decide))<|hy (fun m=>ar rfl iU (ax (m.aT 0 rfl) rfl))<| ?_
 refine hx (rG 1 rfl rfl Tryz.underlying174 (fun r10=> ?_))
 refine ai<|al (ρ' :=[(10,_),(3,_),(2,_),(0,_)]) ⟨rfl,rfl,rfl,rfl,trivial⟩<|ak (X' :=[_,_,_,_,_]) (S' :=[]) (fun _ m=>m)<|ag<|aN<| ?_
 refine iM (fun left n cur=>left.length) (fun left n cur=>[(3,.int .i64 (n:Nat))]) (fun left n cur=>[kg SV r10 st.gs (dF st.seen) (dF left) cur]) (fun left n cur=>[]) (fun left n cur=>n+ka left=ka st.seen) st.seen 0 none [(10,_),(2,_),(0,_)] ⟨rfl,rfl,rfl,trivial⟩ [0] rfl [] rfl (Nat.zero_add _) ⟨rfl,trivial⟩ (fun left n cur hI=> ?_)
 refine ah<|aj<| ?_
 refine hx (u5 0 rfl rfl (fun h0=> ?_) (fun j p hp=> ?_))
 ·obtain rfl:left=[]:=List.map_eq_nil_iff.1 h0
  have hn:n=ka st.seen:=by simpa[ka]using hI
  subst hn
  refine hy (fun _=>aq rfl rfl)<|ai<|al (ρ' :=[(12,_),(3,_),(10,_),(2,_),(0,_)]) ⟨rfl,rfl,rfl,rfl,rfl,trivial⟩<|ag<|ah<| ?_
  refine di rfl (rfl) ?_
  refine bP<|au<|au<|aC<|ag<|ah<|aj<|hy (fun _=>aa rfl)<|hy (fun _=>ab rfl)<|ai<|al (ρ' :=[(2,_),(12,_),(3,_),(10,_),(0,_)]) ⟨rfl,rfl,rfl,rfl,rfl,trivial⟩<|ag<|aU<| ?_
  refine ak (fun w m=>m.wE 0 rfl) ?_
  refine ak (X' :=bm g st::_) (fun w m=>(m.perm (av [1,0,0,0,0] _ [_,_,_,_,_] _ rfl)).pack) ?_
  exact bc trivial rfl rfl [0] rfl [] rfl ⟨rfl,rfl,rfl⟩
 ·obtain⟨k,v⟩:=p
  obtain⟨r,hr,e⟩:=vf hp
  obtain rfl:v=r.val:=e
  have ht:=qs hr
  have hlt:=(List.getElem?_eq_some_iff.1 hr).1
  simp only at ht
  refine hy (fun _=>aq rfl rfl)<|ai<|al (ρ' :=[(12,_),(3,_),(10,_),(2,_),(0,_)]) ⟨rfl,rfl,rfl,rfl,rfl,trivial⟩<|ag<|ah<| ?_
  refine fE rfl (rfl) ?_
  refine aB<|ag<|aN<|ah<|aj<|hy (fun m=>sQ rfl (m.DP 0 rfl))<|hy (fun _=>yV (aq rfl rfl) ((rfl:_=Value.slice r.A r.n r.c)))<|hy (fun _=>ab rfl)<|ai<|al (ρ' :=[(5,_),(12,_),(3,_),(10,_),(2,_),(0,_)]) ⟨rfl,rfl,rfl,rfl,rfl,rfl,trivial⟩<|ag<|aj<|hy (fun _=>aa rfl)<|hy (fun _=>aa rfl)<|hy (fun _=>aR rfl Tryz.underlying27)<|hy (fun _=>aJ rfl rfl (bA (by omega) (by omega)))<|hy (fun _=>ab rfl)<|ai<|al (ρ' :=[(3,_),(5,_),(12,_),(10,_),(2,_),(0,_)]) ⟨rfl,rfl,rfl,rfl,rfl,rfl,trivial⟩<|aQ<| ?_
  refine ak (fun w m=>m.bM 0 rfl (show _=kg SV r10 st.gs (dF st.seen) (dF (left.eraseIdx j)) (some (k,r.val))from congrArg (fun q=>kg SV r10 st.gs (dF st.seen) q (some (k,r.val))) (lD left j))) ?_
  refine fY (left.eraseIdx j) (n+r.n) (some (k,r.val)) ⟨rfl,rfl,rfl,rfl,trivial⟩ [0,0,0,0,0] rfl [] rfl (by omega) (by rw[List.length_eraseIdx,if_pos hlt];omega)
theorem o9{l:dg}(p:List UInt8):(cn l p=none∧cn (dF l) p=none)∨∃r,cn l p=some r∧cn (dF l) p=some r.val:=by
 rw[l6]
 cases cn l p with
 |none=>exact .inl ⟨rfl,rfl⟩
 |some r=>exact .inr ⟨r,rfl,rfl⟩
def dH(st:cH)(p:List UInt8):Int:=if st.bS=0 then 6 else if cn st.seen p=none then 4 else 0
theorem tD{g:Nat}{st:cH}{p:List UInt8}:cj Tryz.prog 158 [.pointer (some ⟨g,0,none⟩),.string (strOf p)] [bm g st] [] (fun v_ X_ S_=>v_=(.int .i64 (dH st p))∧X_=[bm g st]∧S_=[]):=by
 have hf:dH st p=dH st p:=rfl
 refine aO (N:=23) Tryz.func158 rfl rfl (by simp) fun b=> ?_
 refine bu (fun w m=>(m.perm (av [0] _ [_] _ rfl)).unpack) ?_
 have hh:(cn (dF st.seen) p).isSome=decide (cn st.seen p≠none):=by
  rcases o9 (l:=st.seen) p with⟨h1,h2⟩|⟨r,h1,h2⟩ <;> simp[h1,h2]
 refine ah<|aj<|hy (fun _=>ab rfl)<|ai<|ag<|ah<|aj<|hy (fun _=>aa rfl)<|hy (fun _=>aW rfl)<|hy (fun _=>aD rfl gp (by decide))<|hy (fun m=>ar rfl iU (ax (m.aT 0 rfl) rfl))<|hy (fun _=>aa rfl)<|hy (fun m=>jF (enc:=SV) rfl rfl Tryz.underlying174 rH (jJ Tryz.underlying9) (m.ot 1 rfl))<|hy (fun _=>aa rfl)<|hy (fun _=>aq rfl rfl)<|hy (fun _=>yV (aq rfl rfl) ((show Value.bool (cn (dF st.seen) p).isSome= .bool (decide (cn st.seen p≠none)) by rw[hh])))<|hy (fun _=>ab rfl)<|hy (fun _=>ab rfl)<|ai<|al (ρ' :=[(6,_),(4,_),(0,_),(1,_)]) ⟨rfl,rfl,rfl,rfl,trivial⟩<|ag<|ah<|aN<|ah<|aj<| ?_
 refine aL (X' :=bm g st::_) (fun w m=>(m.perm (av [0,0,0,0,0] _ [_,_,_,_,_] _ rfl)).pack) ?_
 refine hy (fun _=>aa rfl)<| ?_
 refine hx (ao rfl Tryz.call87 (Ee) [0] rfl [] rfl ?_)
 rintro _ _ _ ⟨rfl,rfl,rfl⟩
 refine hy (fun _=>jM rfl)<|hy (fun _=>ab rfl)<|ai<|al (ρ' :=[(16,_),(6,_),(4,_),(0,_),(1,_)]) ⟨rfl,rfl,rfl,rfl,rfl,trivial⟩<|ak (X' :=[_]) (S' :=[]) (fun _ m=>m)<|ag<| ?_
 refine cL rfl (fun h1=> ?_) (fun h1=> ?_)
 ·refine ah<|aj<|hy (fun _=>ab rfl)<|ai<|ag<|aU<|aV<|aw<| ?_
  exact bc trivial rfl rfl [0] rfl [] rfl ⟨(by rw[dH,if_pos (by omega)]),rfl,rfl⟩
 ·refine ah<|aj<|hy (fun _=>aa rfl)<|hy (fun _=>jM rfl)<|hy (fun _=>ab rfl)<|ai<|al (ρ' :=[(20,_),(16,_),(6,_),(4,_),(0,_),(1,_)]) ⟨rfl,rfl,rfl,rfl,rfl,rfl,trivial⟩<|ag<| ?_
  refine cL rfl (fun h2=> ?_) (fun h2=> ?_)
  ·refine ah<|aj<|hy (fun _=>ab rfl)<|ai<|ag<|aU<|aV<|aw<| ?_
   exact bc trivial rfl rfl [0] rfl [] rfl ⟨(by rw[dH,if_neg (by omega),if_pos (Decidable.not_not.1 h2)]),rfl,rfl⟩
  ·refine aB<|aQ<|ag<|ah<|aj<|hy (fun _=>ab rfl)<|ai<|ag<|aU<| ?_
   exact bc trivial rfl rfl [0] rfl [] rfl ⟨(by rw[dH,if_neg (by omega),if_neg (fun e=>h2 (fun h=>h e))]),rfl,rfl⟩
end Go.Proofs.YtmibdabdlgmafaaGreatDoor
end
section
set_option maxRecDepth 20000
namespace Go.Proofs.YtmibdabdlgmafaaGreatDoor
open Go.Eng Go.Hx
theorem r6{st:cH}{p:List UInt8}{r:ej}(h:cn st.seen p=some r):r∈rowsOf st:=by
 unfold rowsOf
 refine List.mem_append_left _ (List.mem_append_left _ ?_)
 exact List.mem_map.2 ⟨_,iB h,rfl⟩
def cJ(st:cH)(p:List UInt8):List UInt8:=if dH st p=0 then((cn st.seen p).map (·.l)).getD []else []
theorem sZ{st:cH}{p:List UInt8}(h:dH st p≠0):cJ st p=[]:=by rw[cJ,if_neg h]
theorem sP{st:cH}{p:List UInt8}{r:ej}(h:dH st p=0)(hr:cn st.seen p=some r):cJ st p=r.l:=by rw[cJ,if_pos h,hr];rfl
theorem rW{st:cH}{p:List UInt8}(h:dH st p=0):∃r,cn st.seen p=some r:=by
 unfold dH at h
 split at h
 ·omega
 ·split at h
  ·omega
  ·rename_i h2
   cases hq:cn st.seen p with
   |none=>exact absurd hq h2
   |some r=>exact⟨r,rfl⟩
def Small(st:cH):Prop:=∀r∈rowsOf st,r.n≤1000000000
theorem CX{g:Nat}{st:cH}{p:List UInt8}(hs:Small st):cj Tryz.prog 90 [.pointer (some ⟨g,0,none⟩),.string (strOf p)] [bm g st] [] (fun v_ X_ S_=>∃v,v_=(.tuple #[v,.int .i64 (dH st p)])∧X_=[bm g st,aH 5 1 v (cJ st p).length (aZ (cJ st p))]∧S_=[]):=by
 refine aO (N:=20) Tryz.func90 rfl rfl (by simp) fun b=> ?_
 refine ah<|aj<|hy (fun _=>ab rfl)<|hy (fun _=>ab rfl)<|ai<|ag<|ah<|ah<|aj<|hy (fun _=>aa rfl)<|hy (fun _=>aa rfl)<| ?_
 refine hx (ao rfl Tryz.call158 (tD) [0] rfl [] rfl ?_)
 rintro _ _ _ ⟨rfl,rfl,rfl⟩
 refine hy (fun _=>ab rfl)<|ai<|al (ρ' :=[(6,_),(5,_),(4,_),(0,_),(1,_)]) ⟨rfl,rfl,rfl,rfl,rfl,trivial⟩<|ak (X' :=[_]) (S' :=[]) (fun _ m=>m)<|ag<|ah<|aj<|hy (fun _=>aa rfl)<|hy (fun _=>de rfl rfl)<|ai<|al (ρ' :=[(11,_),(6,_),(5,_),(4,_),(0,_),(1,_)]) ⟨rfl,rfl,rfl,rfl,rfl,rfl,trivial⟩<|ag<| ?_
 refine cL rfl (fun h=> ?_) (fun h=> ?_)
 ·rw[sZ h]
  refine ah<|aj<|hy (fun _=>aa rfl)<|hy (fun _=>ab rfl)<|hy (fun _=>ab rfl)<|ai<|al (ρ' :=[(5,_),(4,_),(11,_),(6,_),(0,_),(1,_)]) ⟨rfl,rfl,rfl,rfl,rfl,rfl,trivial⟩<|ag<|aU<|aw<| ?_
  refine ak (fun w m=>m.dx (r' :=aH 5 1 (.slice none 0 0) 0 []) (.refl _ _) (Own.nil _ _ _ _) (fun k hk=>hk.elim)) ?_
  exact dO trivial rfl rfl rfl [1,0] rfl [] rfl ⟨_,rfl,rfl,rfl⟩
 ·have h0:=Decidable.not_not.1 h
  obtain⟨r,hr⟩:=rW h0
  have hv:cn (dF st.seen) p=some r.val:=by rw[l6,hr];rfl
  rw[sP h0 hr,h0]
  have hmem:=r6 hr
  obtain⟨i,hi⟩:=List.mem_iff_getElem?.1 hmem
  have hsm:=hs r hmem
  refine bu (fun w m=>(m.perm (av [0] _ [_] _ rfl)).unpack) ?_
  refine ba (fun m=>gK ((View.ok (View.row hi)).1 _ (m.C7 4 rfl))) fun hrl=> ?_
  have hrl:=hrl.1
  refine aB<|ag<|ah<|aj<|hy (fun _=>aa rfl)<|hy (fun _=>aW rfl)<|hy (fun _=>aD rfl gp (by decide))<|hy (fun m=>ar rfl iU (ax (m.aT 0 rfl) rfl))<|hy (fun _=>aa rfl)<|hy (fun m=>yV (jF (enc:=SV) rfl rfl Tryz.underlying174 rH (jJ Tryz.underlying9) (m.ot 1 rfl)) ((show ig false (.slice none 0 0) (cn (dF st.seen) p)= .slice r.A r.n r.c by rw[hv];rfl)))<| ?_
  refine hx (cF rfl Tryz.call117 (rq (by omega)) [] rfl (.x 4 rfl (View.row hi) .nil) ?_)
  rintro _ _ _ ⟨v,rfl,rfl,rfl⟩
  refine⟨rfl, ?_⟩
  refine az (fun m=>(m.own 0 rfl).slice) ?_
  rintro⟨A_x,c_x,rfl,hc_x⟩
  refine az (fun m=>(m.ord 0 rfl).2.1) fun hA_x=> ?_
  refine hy (fun _=>ab rfl)<|hy (fun _=>ab rfl)<|ai<|al (ρ' :=[(5,_),(4,_),(11,_),(6,_),(0,_),(1,_)]) ⟨rfl,rfl,rfl,rfl,rfl,rfl,trivial⟩<|ak (X' :=[_,_,_,_,_,_]) (S' :=[]) (fun _ m=>m)<|ag<|aU<| ?_
  refine ak (X' :=bm g st::_) (fun w m=>(m.perm (av [1,1,1,1,1] _ [_,_,_,_,_] _ rfl)).pack) ?_
  exact dO trivial rfl rfl rfl [0,0] rfl [] rfl ⟨_,rfl,(by rw[hrl]),rfl⟩
theorem tN{g:Nat}{l:List (List UInt8×Value)}{p:List UInt8}{r:ej}:cj Tryz.prog 153 [.agg [SV p,r.val].toArray,.map (some g)] [dw SV g l] [] (fun v_ X_ S_=>v_=(.tuple #[])∧X_=[dw SV g (cN l p r.val)]∧S_=[]):=by
 refine aO (N:=9) Tryz.func153 rfl rfl (by simp) fun b=> ?_
 refine ah<|aj<| ?_
 refine hx (cz rfl (fun g2=> ?_))
 refine ai<|ak (X' :=[_,_]) (S' :=[]) (fun _ m=>m)<|ag<|aj<|hy (fun _=>aa rfl)<|hy (fun _=>aD rfl z7 (by decide))<|hy (fun m=>ar rfl gU (ax (m.aT 0 rfl) rfl))<|hy (fun _=>aD rfl nR (by decide))<|hy (fun m=>ar rfl dY (ax (m.aT 0 rfl) rfl))<| ?_
 refine cI (sf (enc:=SV) 1 rfl rfl rfl rfl Tryz.underlying174 (jJ Tryz.underlying9) ?_)
 refine ai<|al (ρ' :=[(2,_),(0,_),(1,_)]) ⟨rfl,rfl,rfl,trivial⟩<|ak (X' :=[_,_]) (S' :=[]) (fun _ m=>m)<| ?_
 exact fv trivial rfl [0] rfl [] rfl ⟨rfl,rfl,rfl⟩
theorem jv{l:dg}{p:List UInt8}{r x:ej}(h:x∈(cN l p r).map (·.2)):x∈l.map (·.2)∨x=r:=by
 induction l with
 |nil=>simp only[cN,List.map_cons,List.map_nil,List.mem_singleton]at h;exact .inr h
 |cons a q ih=>
  obtain⟨k,u⟩:=a
  simp only[cN]at h
  split at h
  ·simp only[List.map_cons,List.mem_cons]at h ⊢
   rcases h with rfl|h
   ·exact .inr rfl
   ·exact .inl (.inr h)
  ·simp only[List.map_cons,List.mem_cons]at h ⊢
   rcases h with rfl|h
   ·exact .inl (.inl rfl)
   ·rcases ih h with h|h
    ·exact .inl (.inr h)
    ·exact .inr h
def cH.wrote(st:cH)(p:List UInt8)(r:ej)(A:Option Addr)(c:Nat):cH:={st.eI with seen:=cN st.seen p r,waits:=st.waits++[.written p r],wA:=A,wc:=c}
theorem oV{st:cH}{p:List UInt8}{r:ej}{A:Option Addr}{c:Nat}:∀x∈rowsOf (st.wrote p r A c),x∈rowsOf st∨x=r:=by
 intro x hx
 unfold rowsOf cH.wrote at hx
 simp only[cH.eI,List.mem_append,List.filterMap_append]at hx
 unfold rowsOf
 simp only[List.mem_append]
 rcases hx with(h|h)|h|h
 ·rcases jv h with h|h
  ·exact .inl (.inl (.inl h))
  ·exact .inr h
 ·exact .inl (.inl (.inr h))
 ·exact .inl (.inr h)
 ·simp[fj.row]at h
  exact .inr h
theorem Eo{g:Nat}{st:cH}{p:List UInt8}{r:ej}{e:TypeId}(hp:st.bS≤1000000000000)(hw:st.waits.length≤1000000):cj Tryz.prog 116 [.pointer (some ⟨g,0,none⟩),(fj.written p r).val] [bm g st,aH e 1 (.slice r.A r.n r.c) r.n (aZ r.l)] [] (fun v_ X_ S_=>∃A c,v_=(.tuple #[])∧X_=[bm g (st.wrote p r A c)]∧S_=[]):=by
 have hsw:st.eI.waits.length=st.waits.length:=rfl
 refine aO (N:=25) Tryz.func116 rfl rfl (by simp) fun b=> ?_
 refine ah<|aj<|hy (fun _=>aa rfl)<| ?_
 refine hx (ao rfl Tryz.call181 (qK (by omega)) [0] rfl [] rfl ?_)
 rintro _ _ _ ⟨rfl,rfl,rfl⟩
 refine aL (fun w m=>(m.perm (av [0] _ [_] _ rfl)).unpack) ?_
 refine ai<|al (ρ' :=[(0,_),(1,_)]) ⟨rfl,rfl,trivial⟩<|ak (X' :=[_,_,_,_,_,_]) (S' :=[]) (fun _ m=>m)<|ag<|ah<|cK [8] [(0,some 0),(1,some 0),(2,some 0),(3,some 0),(4,some 0),(5,some 0),(6,some 0),(7,some 0),(8,none)] (by kernel_rfl) (by kernel_rfl) rfl 0<|an (aa rfl)<|an (aa rfl)<|an (aW rfl)<|an (aD rfl gp (by decide))<|cd (fun m=>ar rfl iU (ax (m.aT 0 rfl) rfl))<|an (gA rfl rfl)<|an (oD rfl (by kernel_rfl))<|an (aa rfl)<| ?_
 refine ee (ov rfl rfl (fun w=>by kernel_rfl) Tryz.call153 (tN) [1] rfl [] rfl ?_)
 rintro _ _ _ ⟨rfl,rfl,rfl⟩
 refine⟨(fun h=>absurd h (by decide)), ?_⟩
 refine bq<|al (ρ' :=[(0,_),(1,_)]) ⟨rfl,rfl,trivial⟩<|ak (X' :=[_,_,_,_,_,_]) (S' :=[]) (fun _ m=>m)<|ag<|aj<|hy (fun _=>aa rfl)<|hy (fun _=>aa rfl)<|hy (fun _=>aW rfl)<|hy (fun _=>aD rfl gy (by decide))<|hy (fun m=>ar rfl r3 (ax (m.aT 1 rfl) rfl))<|hy (fun _=>aa rfl)<| ?_
 refine hx (b8 Tryz.underlying175 qf rfl rfl rfl (by simp[Value.cells,fj.val]) (by decide) (by decide) (fun g21=> ?_))
 have hA_b21:0<1→(some (⟨g21,0,none⟩:Addr))≠none:=fun _ h=>by cases h
 refine aL (fun w m=>m.bM 0 rfl (show _=aH 232 1 (.slice (some ⟨g21,0,none⟩) 1 1) 1 [(fj.written p r).val]from rfl)) ?_
 refine hx (bB 4 rfl rfl rfl Tryz.underlying175 Tryz.underlying175 (by exact .inl rfl) qf rfl (fun m=>Src.bT (m.ord 0 rfl)) (by simp[fj.val,Value.oneCell']) (by unfold maxLen;omega) (by omega) (fun u=> ?_))
 refine az (fun m=>(m.own 0 rfl).slice) ?_
 rintro⟨A_d3,c_d3,rfl,hc_d3⟩
 refine az (fun m=>(m.ord 0 rfl).2.1) fun hA_d3=> ?_
 refine hy (fun _=>aW rfl)<|hy (fun _=>aD rfl gy (by decide))<| ?_
 refine cI (bR 3 rfl rfl rfl rF rfl (by first|exact Nat.le_of_ble_eq_true rfl|simp) ?_)
 refine ai<|al (ρ' :=[(0,_),(1,_)]) ⟨rfl,rfl,trivial⟩<|ak (X' :=[_,_,_,_,_,_,_]) (S' :=[]) (fun _ m=>m)<| ?_
 refine ak (fun w m=>m.bM 0 rfl (show _=aG g 177 (gM (st.wrote p r A_d3 c_d3))from by simp[gM,cH.wrote,cH.eI])) ?_
 refine ak (fun w m=>m.bM 3 rfl (show _=dw SV st.gs (dF (st.wrote p r A_d3 c_d3).seen)from congrArg (dw SV st.gs) (ki _ _ _))) ?_
 refine ak (fun w m=>m.bM 2 rfl (show _=aH 232 1 (.slice A_d3 (st.wrote p r A_d3 c_d3).waits.length c_d3) (st.wrote p r A_d3 c_d3).waits.length ((st.wrote p r A_d3 c_d3).waits.map fj.val)from by simp[cH.wrote,cH.eI])) ?_
 refine ak (X' :=fK (rowsOf (st.wrote p r A_d3 c_d3))::_) (fun w m=>(m.perm (av [5,5] _ [_,_] _ rfl)).CJ (oV)) ?_
 refine ak (X' :=bm g (st.wrote p r A_d3 c_d3)::_) (fun w m=>(m.perm (av [3,2,3,1,0] _ [_,_,_,_,_] _ rfl)).pack) ?_
 exact fv trivial rfl [0] rfl [] rfl ⟨_,_,rfl,rfl,rfl⟩
def bH(st:cH)(p:List UInt8)(n:Nat):Int:=if¬fT p then 1 else if st.bS=0 then 6 else if st.room<(ka st.seen:Int)-(((cn st.seen p).map (·.n)).getD 0:Nat)+n then 5 else 0
theorem yu:∀{l:dg} {m:Nat},(∀x∈l,x.2.n≤m)→ka l≤l.length*m
 | [],m,h=>by simp[ka]
 |a::q,m,h=>by
  have:=yu (l:=q) (m:=m) (fun x hx=>h x (List.mem_cons_of_mem _ hx))
  have h1:=h a (List.mem_cons_self ..)
  simp only[ka,List.map_cons,List.sum_cons,List.length_cons,Nat.add_mul]at this ⊢
  omega
structure mF(st:cH)(k:Nat):Prop where
 bS:st.bS≤1000000000000
 room:st.room≤1048576
 seen:st.seen.length≤k
 rest:st.b4.length+st.waits.length≤k
 small:∀r∈rowsOf st,r.n≤1048576
theorem mF.le{st:cH}{k k' :Nat}(h:mF st k)(hk:k≤k'):mF st k' :=⟨h.bS,h.room,Nat.le_trans h.seen hk,Nat.le_trans h.rest hk,h.small⟩
theorem mF.ka{st:cH}{k:Nat}(h:mF st k):ka st.seen≤k*1048576:=Nat.le_trans (yu (m:=1048576) (fun x hx=>h.small _ (by unfold rowsOf;exact List.mem_append_left _ (List.mem_append_left _ (List.mem_map.2 ⟨x,hx,rfl⟩))))) (Nat.mul_le_mul_right _ h.seen)
theorem mF.sm{st:cH}{k:Nat}(h:mF st k):Small st:=fun r hr=>Nat.le_trans (h.small r hr) (by decide)
theorem mF.init{n:Int}{gs gl:Nat}(h:n≤1048576):mF (j9 n gs gl) 0:=⟨by simp[j9],h,Nat.le_refl _,Nat.le_refl _,fun r hr=>by simp[rowsOf,j9]at hr⟩
theorem kf(l:dg)(p:List UInt8)(r:ej):(cN l p r).length≤l.length+1:=by
 induction l with
 |nil=>simp[cN]
 |cons a q ih=>
  obtain⟨k,u⟩:=a
  simp only[cN]
  split <;> simp only[List.length_cons] <;> omega
theorem mw(l:dg)(p:List UInt8):(eA l p).length≤l.length:=by
 induction l with
 |nil=>simp[eA]
 |cons a q ih=>
  obtain⟨k,u⟩:=a
  simp only[eA]
  split <;> simp only[List.length_cons] <;> omega
theorem kC{st:cH}(h:st.bS≤1000000000000):st.eI.bS≤1000000000000:=by
 simp only[cH.eI]
 split <;> omega
theorem mF.wrote{st:cH}{k:Nat}(h:mF st k){p:List UInt8}{r:ej}(hr:r.n≤1048576)(A:Option Addr)(c:Nat):mF (st.wrote p r A c) (k+1):=by
 refine⟨kC h.bS,h.room, ?_, ?_,fun x hx=> ?_⟩
 ·have:=kf st.seen p r
  have:=h.seen
  show(cN st.seen p r).length≤k+1
  omega
 ·have:=h.rest
  show st.b4.length+(st.waits++[fj.written p r]).length≤k+1
  simp only[List.length_append,List.length_cons,List.length_nil]
  omega
 ·rcases oV x hx with h' |rfl
  ·exact h.small x h'
  ·exact hr
theorem Cn{g:Nat}{st:cH}{p:List UInt8}{A:Option Addr}{n c:Nat}{l:List UInt8}{k:Nat}(ok:mF st k)(hk:k≤100000)(hn:n≤1048576):cj Tryz.prog 33 [.pointer (some ⟨g,0,none⟩),.string (strOf p),.slice A n c] [bm g st] [dr 1 A n (aZ l)] (fun v_ X_ S_=>∃st1 B c1 A1 c2,v_=(.int .i64 (bH st p n))∧X_=[bm g st1]∧S_=[]∧((bH st p n≠0∧st1=st)∨(bH st p n=0∧st1=st.wrote p ⟨B,n,c1,l⟩ A1 c2))):=by
 have hp:=ok.bS
 have hw:st.waits.length≤1000000:=by have:=ok.rest;omega
 have ht:ka st.seen≤1000000000000:=by have:=ok.ka;omega
 have hs:=ok.sm
 refine aO (N:=41) Tryz.func33 rfl rfl (by simp) fun b=> ?_
 refine ba (fun m=>gK (m.rd 0 rfl)) ?_
 rintro⟨hl_r,hA_r⟩
 refine ah<|aj<|hy (fun _=>ab rfl)<|ai<|ag<|ah<|aN<|ah<|aj<|hy (fun _=>aa rfl)<| ?_
 refine hx (ao rfl Tryz.call115 (yg) [] rfl [] rfl ?_)
 rintro _ _ _ ⟨rfl,rfl,rfl⟩
 refine hy (fun _=>jM rfl)<|hy (fun _=>ab rfl)<|ai<|al (ρ' :=[(7,_),(6,_),(0,_),(1,_),(2,_)]) ⟨rfl,rfl,rfl,rfl,rfl,trivial⟩<|ak (X' :=[_]) (S' :=[_]) (fun _ m=>m)<|ag<| ?_
 refine cL rfl (fun h1=> ?_) (fun h1=> ?_)
 ·have e:bH st p n=1:=by rw[bH,if_pos h1]
  rw[e]
  refine ah<|aj<|hy (fun _=>ab rfl)<|ai<|ag<|aU<|aV<|aw<| ?_
  exact bc trivial rfl rfl [0] rfl [] rfl ⟨_,none,0,none,0,rfl,rfl,rfl,.inl ⟨by decide,rfl⟩⟩
 ·refine ah<|aj<|hy (fun _=>aa rfl)<| ?_
  refine hx (ao rfl Tryz.call87 (Ee) [0] rfl [] rfl ?_)
  rintro _ _ _ ⟨rfl,rfl,rfl⟩
  refine hy (fun _=>jM rfl)<|hy (fun _=>ab rfl)<|ai<|al (ρ' :=[(11,_),(7,_),(6,_),(0,_),(1,_),(2,_)]) ⟨rfl,rfl,rfl,rfl,rfl,rfl,trivial⟩<|ak (X' :=[_]) (S' :=[_]) (fun _ m=>m)<|ag<| ?_
  refine cL rfl (fun h2=> ?_) (fun h2=> ?_)
  ·have e:bH st p n=6:=by rw[bH,if_neg h1,if_pos (by omega)]
   rw[e]
   refine ah<|aj<|hy (fun _=>ab rfl)<|ai<|ag<|aU<|aV<|aw<| ?_
   exact bc trivial rfl rfl [0] rfl [] rfl ⟨_,none,0,none,0,rfl,rfl,rfl,.inl ⟨by decide,rfl⟩⟩
  ·have hwe:bH st p n=if st.room<(ka st.seen:Int)-(((cn st.seen p).map (·.n)).getD 0:Nat)+n then 5 else 0:=by rw[bH,if_neg h1,if_neg (by omega)]
   have hv:∃B m c0,ig false (.slice none 0 0) (cn (dF st.seen) p)= .slice B m c0∧m=((cn st.seen p).map (·.n)).getD 0∧m≤1000000000:=by
    rw[l6]
    cases hq:cn st.seen p with
    |none=>exact⟨none,0,0,rfl,rfl,by decide⟩
    |some r=>exact⟨r.A,r.n,r.c,rfl,rfl,hs r (r6 hq)⟩
   obtain⟨B,m,c0,hv1,hv2,hv3⟩:=hv
   rw[←hv2]at hwe
   refine ah<|cK [1] [(0,some 0),(2,some 1),(3,some 1),(4,some 1),(5,some 1),(6,some 1),(7,some 1),(8,some 1),(10,some 1),(11,some 1),(13,some 1),(14,some 1),(15,some 1),(16,some 1),(1,none),(9,some 1),(12,some 1),(17,some 1),(18,some 1)] (by kernel_rfl) (by kernel_rfl) rfl 99<|an (aa rfl)<|an (aa rfl)<|an (aW rfl)<|an (aD rfl gp (by decide))<|cd (fun m=>ar rfl iU (ax (show eU _ _ _ _ from m.Ed 0 rfl 0 rfl) rfl))<|an (aa rfl)<|cd (fun m=>yV (jF (enc:=SV) rfl rfl Tryz.underlying174 rH (jJ Tryz.underlying9) (show gH _ _ _ _ from m.Ed 0 rfl 1 rfl)) (hv1))<|an (aR rfl Tryz.underlying27)<|an (aa rfl)<|an (aR rfl Tryz.underlying27)<|an (aa rfl)<|an (aW rfl)<|an (aD rfl AA (by decide))<|cd (fun m=>ar rfl eY (ax (show eU _ _ _ _ from m.Ed 0 rfl 0 rfl) rfl))<| ?_
   refine ee (ao rfl Tryz.call88 (Bh (by omega)) [0] rfl [] rfl ?_)
   rintro _ _ _ ⟨rfl,rfl,rfl⟩
   refine⟨(fun _=>wk [0] [0] rfl rfl), ?_⟩
   refine an (cm rfl rfl (bA (by omega) (by omega)))<|an (aJ rfl rfl (bA (by omega) (by omega)))<|an (cW rfl rfl)<|an (ab rfl)<|bq<|al (ρ' :=[(15,_),(11,_),(7,_),(6,_),(0,_),(1,_),(2,_)]) ⟨rfl,rfl,rfl,rfl,rfl,rfl,rfl,trivial⟩<|ak (X' :=[_]) (S' :=[_]) (fun _ m=>m)<|ag<| ?_
   refine cL rfl (fun h3=> ?_) (fun h3=> ?_)
   ·rw[if_pos (by omega)]at hwe
    rw[hwe]
    refine ah<|aj<|hy (fun _=>ab rfl)<|ai<|ag<|aU<|aV<|aw<| ?_
    exact bc trivial rfl rfl [0] rfl [] rfl ⟨_,none,0,none,0,rfl,rfl,rfl,.inl ⟨by decide,rfl⟩⟩
   ·rw[if_neg (by omega)]at hwe
    rw[hwe]
    refine aB<|aQ<|ag<|ah<|aj<|hy (fun _=>aa rfl)<|hy (fun _=>aa rfl)<|hy (fun _=>aa rfl)<| ?_
    refine hx (ao rfl Tryz.call117 (rq (by omega)) [] rfl [0] rfl ?_)
    rintro _ _ _ ⟨v,rfl,rfl,rfl⟩
    refine az (fun m=>(m.own 0 rfl).slice) ?_
    rintro⟨A_x,c_x,rfl,hc_x⟩
    refine az (fun m=>(m.ord 0 rfl).2.1) fun hA_x=> ?_
    refine hy (fun _=>yV (cM Bk rfl rfl (by kernel_rfl) (.cons (o:=0) (sz:=1) (by kernel_rfl) rfl rfl (Nat.le_of_ble_eq_true rfl) (.cons (o:=1) (sz:=1) (by kernel_rfl) rfl rfl (Nat.le_of_ble_eq_true rfl) .nil))) ((rfl:_=Value.agg [SV p,Value.slice A_x n c_x].toArray)))<|hy (fun _=>kd rfl Tryz.underlying189 (fun _ h=>by cases h))<| ?_
    refine hx (ao rfl Tryz.call116 (Eo (by omega) (by omega) (r:=⟨A_x,n,c_x,l⟩)) [1,0] rfl [] rfl ?_)
    rintro _ _ _ ⟨A2,c2,rfl,rfl,rfl⟩
    refine ai<|al (ρ' :=[(15,_),(11,_),(7,_),(6,_),(0,_),(1,_),(2,_)]) ⟨rfl,rfl,rfl,rfl,rfl,rfl,rfl,trivial⟩<|ak (X' :=[_]) (S' :=[_]) (fun _ m=>m)<|ag<|ah<|aj<|hy (fun _=>ab rfl)<|ai<|ag<|aU<| ?_
    exact bc trivial rfl rfl [0] rfl [] rfl ⟨_,_,_,_,_,rfl,rfl,rfl,.inr ⟨rfl,rfl⟩⟩
theorem u9{g:Nat}{l:List (List UInt8×Value)}:cj Tryz.prog 154 [.map (some g)] [dw SV g l] [] (fun v_ X_ S_=>∃g1,v_=(.map (some g1))∧X_=[dw SV g l,dw SV g1 l]∧S_=[]):=by
 refine aO (N:=9) Tryz.func154 rfl rfl (by simp) fun b=> ?_
 refine ah<|aj<|hy (fun _=>ab rfl)<|ai<|ag<|ah<|ah<|aj<|hy (fun _=>aa rfl)<|hy (fun _=>By rfl rfl Tryz.underlying174)<|ai<|al (ρ' :=[(4,_),(2,_),(0,_)]) ⟨rfl,rfl,rfl,trivial⟩<|ag<| ?_
 refine di rfl (rfl) ?_
 refine aB<|ag<|ah<|aj<|hy (fun _=>aa rfl)<|hy (fun _=>kd rfl Tryz.underlying174 (fun _ h=>by cases h))<| ?_
 refine hx (vW 0 rfl rfl Tryz.func209 (by kernel_rfl) (by kernel_rfl) (by kernel_rfl) (by kernel_rfl) (fun g1=> ?_))
 refine hy (fun _=>mn rfl (show _=Result.ok (Value.map (some g1)) _ by kernel_rfl))<|hy (fun _=>ab rfl)<|ai<|al (ρ' :=[(2,_),(4,_),(0,_)]) ⟨rfl,rfl,rfl,trivial⟩<|ak (X' :=[_,_]) (S' :=[]) (fun _ m=>m)<|ag<|aU<| ?_
 exact bc trivial rfl rfl [1,0] rfl [] rfl ⟨_,rfl,rfl,rfl⟩
def cH.synced(st:cH)(gl:Nat):cH:={st.eI with gl:=gl,b4:=st.seen,waits:=[],wA:=none,wc:=0}
def dC(st:cH):Int:=if st.bS=0 then 6 else 0
theorem nB{st:cH}{gl:Nat}:∀x∈rowsOf (st.synced gl),x∈rowsOf st:=by
 intro x hx
 unfold rowsOf cH.synced at hx
 simp only[cH.eI,List.filterMap_nil,List.append_nil,List.mem_append,or_self]at hx
 unfold rowsOf
 exact List.mem_append_left _ (List.mem_append_left _ hx)
theorem mF.synced{st:cH}{k:Nat}(h:mF st k)(gl:Nat):mF (st.synced gl) k:=
 ⟨kC h.bS,h.room,h.seen,by show st.seen.length+0≤k;have:=h.seen;omega,fun x hx=>h.small x (nB x hx)⟩
theorem Dm{g:Nat}{st:cH}{k:Nat}(ok:mF st k):cj Tryz.prog 110 [.pointer (some ⟨g,0,none⟩)] [bm g st] [] (fun v_ X_ S_=>∃st1 gl,v_=(.int .i64 (dC st))∧X_=[bm g st1]∧S_=[]∧((st.bS=0∧st1=st)∨(st.bS≠0∧st1=st.synced gl))):=by
 refine aO (N:=19) Tryz.func110 rfl rfl (by simp) fun b=> ?_
 refine ah<|aj<|hy (fun _=>ab rfl)<|ai<|ag<|ah<|ah<|aj<|hy (fun _=>aa rfl)<| ?_
 refine hx (ao rfl Tryz.call87 (Ee) [0] rfl [] rfl ?_)
 rintro _ _ _ ⟨rfl,rfl,rfl⟩
 refine hy (fun _=>jM rfl)<|ai<|al (ρ' :=[(5,_),(2,_),(0,_)]) ⟨rfl,rfl,rfl,trivial⟩<|ak (X' :=[_]) (S' :=[]) (fun _ m=>m)<|ag<| ?_
 refine cL rfl (fun h1=> ?_) (fun h1=> ?_)
 ·have h0:st.bS=0:=Decidable.not_not.1 h1
  have e:dC st=6:=by rw[dC,if_pos h0]
  rw[e]
  refine ah<|aj<|hy (fun _=>ab rfl)<|ai<|ag<|aU<|aw<| ?_
  exact bc trivial rfl rfl [0] rfl [] rfl ⟨_,0,rfl,rfl,rfl,.inl ⟨h0,rfl⟩⟩
 ·have h0:st.bS≠0:=fun e=>h1 (fun h=>h e)
  have e:dC st=0:=by rw[dC,if_neg h0]
  rw[e]
  have hp:=ok.bS
  refine aB<|ag<|ah<|aj<|hy (fun _=>aa rfl)<| ?_
  refine hx (ao rfl Tryz.call181 (qK (by omega)) [0] rfl [] rfl ?_)
  rintro _ _ _ ⟨rfl,rfl,rfl⟩
  refine aL (fun w m=>(m.perm (av [0] _ [_] _ rfl)).unpack) ?_
  refine ai<|al (ρ' :=[(5,_),(2,_),(0,_)]) ⟨rfl,rfl,rfl,trivial⟩<|ak (X' :=[_,_,_,_,_]) (S' :=[]) (fun _ m=>m)<|ag<|ah<|aj<|hy (fun _=>aa rfl)<|hy (fun _=>aa rfl)<|hy (fun _=>aa rfl)<|hy (fun _=>aW rfl)<|hy (fun _=>aD rfl gp (by decide))<|hy (fun m=>ar rfl iU (ax (m.aT 0 rfl) rfl))<| ?_
  refine hx (ao rfl Tryz.call154 (u9) [1] rfl [] rfl ?_)
  rintro _ _ _ ⟨g1,rfl,rfl,rfl⟩
  refine hy (fun _=>aW rfl)<|hy (fun _=>aD rfl kM (by decide))<| ?_
  refine cI (bR 2 rfl rfl rfl Bc rfl (by first|exact Nat.le_of_ble_eq_true rfl|simp) ?_)
  refine hy (fun _=>aW rfl)<|hy (fun _=>aD rfl gy (by decide))<| ?_
  refine cI (bR 0 rfl rfl rfl rF rfl (by first|exact Nat.le_of_ble_eq_true rfl|simp) ?_)
  refine ai<|al (ρ' :=[(5,_),(2,_),(0,_)]) ⟨rfl,rfl,rfl,trivial⟩<|ak (X' :=[_,_,_,_,_,_]) (S' :=[]) (fun _ m=>m)<|ag<|ah<|aj<|hy (fun _=>ab rfl)<|ai<|ag<|aU<| ?_
  refine ak (fun w m=>m.dx (r' :=aH 232 1 (.slice none 0 0) 0 []) (.refl _ _) (Own.nil _ _ _ _) (fun k hk=>hk.elim)) ?_
  refine ak (fun w m=>Mem.xZ (X:=[_]) (m.perm (av [4] _ [_] _ rfl))) ?_
  refine ak (fun w m=>Mem.xZ (X:=[_]) (m.perm (av [4] _ [_] _ rfl))) ?_
  refine ak (fun w m=>m.bM 1 rfl (show _=aG g 177 (gM (st.synced g1))from rfl)) ?_
  refine ak (X' :=fK (rowsOf (st.synced g1))::_) (fun w m=>(m.perm (av [4] _ [_] _ rfl)).tA (nB)) ?_
  refine ak (X' :=bm g (st.synced g1)::_) (fun w m=>(m.perm (av [1,2,2,1,0] _ [_,_,_,_,_] _ rfl)).pack) ?_
  exact bc trivial rfl rfl [0] rfl [] rfl ⟨_,_,rfl,rfl,rfl,.inr ⟨h0,rfl⟩⟩
end Go.Proofs.YtmibdabdlgmafaaGreatDoor
end
section
set_option maxRecDepth 20000
namespace Go.Proofs.YtmibdabdlgmafaaGreatDoor
open Go.Eng Go.Hx
def fR(l:List Bool):List Value:=l.map Value.bool
theorem rU{g n c:Nat}{A:Option Addr}{bs:List Bool}(hc:n≤c):cj Tryz.prog 152 [.pointer (some ⟨g,0,none⟩)] [aG g 28 [.slice A n c]] [dr 1 A n (fR bs)] (fun v_ X_ S_=>∃A1 n1 c1,v_=(.bool (bs.headD false))∧X_=[aG g 28 [.slice A1 n1 c1]]∧S_=[dr 1 A1 n1 (fR bs.tail)]∧(n1≤c1)):=by
 refine aO (N:=12) Tryz.func152 rfl rfl (by simp) fun b=> ?_
 refine ba (fun m=>ik (m.rd 0 rfl)) ?_
 rintro⟨hl_r,hA_r⟩
 have hbl:bs.length=n:=by simpa[fR]using hl_r
 refine ah<|aj<|hy (fun _=>ab rfl)<|ai<|ag<|ah<|ah<|aj<|hy (fun m=>ar rfl xe (ax (m.aT 0 rfl) rfl))<|hy (fun _=>aR rfl Tryz.underlying28)<|hy (fun _=>b7 rfl rfl)<|ai<|al (ρ' :=[(5,_),(1,_),(0,_)]) ⟨rfl,rfl,rfl,trivial⟩<|ag<| ?_
 refine cL rfl (fun h=> ?_) (fun h=> ?_)
 ·obtain rfl:bs=[]:=List.eq_nil_of_length_eq_zero (by omega)
  refine ah<|aj<|hy (fun _=>ab rfl)<|ai<|ag<|aU<|aw<| ?_
  refine ak (fun w m=>m.gX 0 rfl .same) ?_
  refine rh (fun m=>ik (m.rd 0 rfl)) ?_
  rintro⟨hl_q,hA_q⟩
  exact bc trivial rfl rfl [0] rfl [0] rfl ⟨_,_,_,rfl,rfl,rfl,hc⟩
 ·obtain⟨b1,t,rfl⟩:∃b1 t,bs=b1::t:=by
   cases bs with
   |nil=>simp at hbl;omega
   |cons b1 t=>exact⟨b1,t,rfl⟩
  refine bu (fun w m=>m.gX 0 rfl (View.DU (k:=1) hc (by omega))) ?_
  refine ba (fun m=>ik (m.rd 0 rfl)) ?_
  rintro⟨hl_q,hA_q⟩
  refine aB<|ag<|ah<|aj<|hy (fun m=>ar rfl xe (ax (m.aT 0 rfl) rfl))<|hy (fun _=>aK rfl rfl Tryz.underlying28 Bz hA_r (show((0:Nat):Int)=0 from rfl) (by omega))<|hy (fun m=>ar rfl DB ((m.rd 1 rfl).cell (j:=0) rfl))<|hy (fun _=>ab rfl)<|ai<|al (ρ' :=[(2,_),(5,_),(1,_),(0,_)]) ⟨rfl,rfl,rfl,rfl,trivial⟩<|ag<|ah<|aj<|hy (fun m=>ar rfl xe (ax (m.aT 0 rfl) rfl))<|hy (fun _=>dQ rfl rfl Tryz.underlying28 Bz (show((1:Nat):Int)=1 from rfl) (by omega))<| ?_
  refine cI (dG 0 rfl rfl rfl Ey rfl (by first|exact Nat.le_of_ble_eq_true rfl|simp) ?_)
  refine ai<|al (ρ' :=[(2,_),(5,_),(1,_),(0,_)]) ⟨rfl,rfl,rfl,rfl,trivial⟩<|ak (X' :=[_]) (S' :=[_,_]) (fun _ m=>m)<|ag<|ah<|aj<|hy (fun _=>aa rfl)<|hy (fun _=>ab rfl)<|ai<|al (ρ' :=[(1,_),(2,_),(5,_),(0,_)]) ⟨rfl,rfl,rfl,rfl,trivial⟩<|ag<|aU<| ?_
  exact bc trivial rfl rfl [0] rfl [0] rfl ⟨_,_,_,rfl,rfl,rfl,(by omega)⟩
def gT(st:List Bool×dg)(c:fj):List Bool×dg:=
 if st.1.headD false then
  match c with
  | .written p r=>(st.1.tail.tail,cN st.2 p (if st.1.tail.headD false then r else r.half))
  | .renamed a b=>(st.1.tail,match cn st.2 a with
   |none=>st.2
   |some r=>cN (eA st.2 a) b r)
  | .removed p=>(st.1.tail,eA st.2 p)
 else(st.1.tail,st.2)
def er(keep:List Bool)(st:cH)(i:Nat):List Bool×dg:=(st.waits.take i).foldl gT (keep,st.b4)
theorem lM{keep:List Bool}{st:cH}{i:Nat}{c:fj}(h:st.waits[i]? =some c):er keep st (i+1)=gT (er keep st i) c:=by
 unfold er
 obtain⟨hi,rfl⟩:=List.getElem?_eq_some_iff.1 h
 rw[List.take_succ_eq_append_getElem hi,List.foldl_append]
 rfl
def BO(rows:List ej)(r:ej):Prop:=∃q∈rows,r=q∨∃k,k≤q.n∧r=⟨q.A,k,q.c,q.l.take k⟩
theorem tC{keep:List Bool}{st:cH}(i:Nat):∀r∈(er keep st i).2.map (·.2),BO (rowsOf st) r:=by
 have base:∀r∈st.b4.map (·.2),BO (rowsOf st) r:=fun r hr=>⟨r,by unfold rowsOf;exact List.mem_append_left _ (List.mem_append_right _ hr),.inl rfl⟩
 have iw:∀{l:dg} {p:List UInt8} {x:ej},x∈(eA l p).map (·.2)→x∈l.map (·.2):=fun{l p x} h=>by
  induction l with
  |nil=>exact h
  |cons a q ih=>
   obtain⟨k,u⟩:=a
   simp only[eA]at h
   split at h
   ·exact List.mem_cons_of_mem _ h
   ·simp only[List.map_cons,List.mem_cons]at h ⊢
    rcases h with rfl|h
    ·exact .inl rfl
    ·exact .inr (ih h)
 induction i with
 |zero=>intro r hr;exact base r (by simpa[er]using hr)
 |succ i ih=>
  cases hc:st.waits[i]? with
  |none=>
   have:er keep st (i+1)=er keep st i:=by
    unfold er
    have:=List.getElem?_eq_none_iff.1 hc
    rw[List.take_of_length_le (by omega),List.take_of_length_le this]
   rw[this]
   exact ih
  |some c=>
   rw[lM hc]
   have hcm:=List.mem_of_getElem? hc
   intro r hr
   unfold gT at hr
   split at hr
   ·cases c with
    |written p q=>
     have hq:q∈rowsOf st:=by
      unfold rowsOf
      exact List.mem_append_right _ (List.mem_filterMap.2 ⟨_,hcm,rfl⟩)
     rcases jv hr with h|h
     ·exact ih r h
     ·rw[h]
      split
      ·exact⟨q,hq,.inl rfl⟩
      ·exact⟨q,hq,.inr ⟨q.n/2,by omega,rfl⟩⟩
    |renamed a b=>
     simp only at hr
     split at hr
     ·exact ih r hr
     ·rename_i u hu
      rcases jv hr with h|h
      ·exact ih r (iw h)
      ·rw[h];exact ih u (List.mem_map.2 ⟨_,iB hu,rfl⟩)
    |removed p=>exact ih r (iw hr)
   ·exact ih r hr
def cH.started(st:cH)(keep:List Bool)(gs:Nat):cH:=
 let L:=(er keep st st.waits.length).2
 {st with gs:=gs,seen:=L,b4:=L,waits:=[],wA:=none,wc:=0,bS:=-1}
theorem mu{st:cH}{keep:List Bool}(gs:Nat):∀r∈rowsOf (st.started keep gs),BO (rowsOf st) r:=by
 intro r hr
 unfold rowsOf cH.started at hr
 simp only[List.filterMap_nil,List.append_nil,List.mem_append,or_self]at hr
 exact tC _ r hr
theorem vz(keep:List Bool)(st:cH)(i:Nat):(er keep st i).2.length≤st.b4.length+i:=by
 induction i with
 |zero=>simp[er]
 |succ i ih=>
  cases hc:st.waits[i]? with
  |none=>
   have:er keep st (i+1)=er keep st i:=by
    unfold er
    have:=List.getElem?_eq_none_iff.1 hc
    rw[List.take_of_length_le (by omega),List.take_of_length_le this]
   rw[this];omega
  |some c=>
   rw[lM hc]
   unfold gT
   split
   ·cases c with
    |written p r=>
     have:=kf (er keep st i).2 p (if(er keep st i).1.tail.headD false then r else r.half)
     show(cN _ _ _).length≤_
     omega
    |renamed a b=>
     simp only
     split
     ·omega
     ·rename_i u hu
      have h1:=kf (eA (er keep st i).2 a) b u
      have h2:=mw (er keep st i).2 a
      omega
    |removed p=>
     have h2:=mw (er keep st i).2 p
     show(eA _ _).length≤_
     omega
   ·show(er keep st i).2.length≤_
    omega
theorem mF.started{st:cH}{k:Nat}(h:mF st k)(keep:List Bool)(gs:Nat):mF (st.started keep gs) k:=by
 have hl:=vz keep st st.waits.length
 have hr:=h.rest
 refine⟨by show(-1:Int)≤_;omega,h.room, ?_, ?_,fun x hx=> ?_⟩
 ·show(er keep st st.waits.length).2.length≤k
  omega
 ·show(er keep st st.waits.length).2.length+0≤k
  omega
 ·obtain⟨q,hq,rfl|⟨j,hj,rfl⟩⟩:=mu gs x hx
  ·exact h.small _ hq
  ·exact Nat.le_trans hj (h.small q hq)
end Go.Proofs.YtmibdabdlgmafaaGreatDoor
end
section
namespace Go.Eng
open Go.RowKit Go.ChangeShapes Go.WideShapes
theorem xn{H:Type}{enc:TypeId×Value→H}{P:Program}{w:World}{base:Nat}{spare:Nat→Bool}{held:Bool}{r:Reach}{b0:Nat}{t:TypeId}{v:Value}{d:DataW H}{ps:List MemPlace}(ht:P.underlying t=some (.int .i64))(hval:Value.okWide P w r b0 t v)(hd:DataW.Trod enc P w base spare held t v d ps):
  ∃n:Int,v= .int .i64 n∧(-9223372036854775808≤n∧n≤9223372036854775807)∧ps=[]:=by
 obtain⟨n,rfl,_,rfl,hw⟩:=open_int ht hval hd
 refine⟨n,rfl, ?_,rfl⟩
 simp only[Lit.wf,IntKind.min,IntKind.max,IntKind.signed,IntKind.bits]at hw
 simp at hw
 omega
end Go.Eng
end
section
namespace Go.Eng
open Go.RowKit Go.ChangeShapes Go.WideShapes
inductive Cell
 |v (x:Value)
 |s (sz:Nat) (A:Option Addr) (n c:Nat) (xs:List Cell)
def Cell.val:Cell→Value
 | .v x=>x
 | .s _ A n c _=>.slice A n c
mutual
def Cell.dp:Cell→Nat→Prop
 | .v _=>fun _=>False
 | .s _ A _ _ xs=>fun k=>(xs≠ []∧∃a,A=some a∧k=a.block)∨oT xs k
def oT:List Cell→Nat→Prop
 | []=>fun _=>False
 |x::r=>fun k=>x.dp k∨oT r k
end
mutual
def Cell.holds(w:World):Cell→Prop
 | .v _=>True
 | .s sz A n c xs=>Rd w sz A n (xs.map Cell.val)∧n≤c∧iZ w xs
def iZ(w:World):List Cell→Prop
 | []=>True
 |x::r=>x.holds w∧iZ w r
end
theorem qg{k:Nat}:∀{xs:List Cell},oT xs k↔∃x∈xs,x.dp k
 | []=>by simp[oT]
 |x::r=>by simp only[oT,qg (xs:=r),List.mem_cons,exists_eq_or_imp]
theorem fz{w:World}:∀{xs:List Cell},iZ w xs↔∀x∈xs,x.holds w
 | []=>by simp[iZ]
 |x::r=>by simp only[iZ,fz (xs:=r),List.mem_cons,forall_eq_or_imp]
mutual
theorem Cell.keep{S:Nat→Prop}{w w' :World}(f:Fr S w w'):∀(c:Cell),(∀k,c.dp k→¬S k)→c.holds w→c.holds w'
 | .v _,_,_=>trivial
 | .s sz A n c xs,h,hh=>by
  obtain⟨h1,h2,h3⟩:=hh
  refine⟨Rd.keep h1 f (fun k hk=>h k ?_),h2,A9 f xs (fun k hk=>h k (.inr hk)) h3⟩
  obtain⟨hne,a,ha,hk⟩:=hk
  exact .inl ⟨fun e=>hne (by rw[e];rfl),a,ha,hk⟩
theorem A9{S:Nat→Prop}{w w' :World}(f:Fr S w w'):∀(xs:List Cell),(∀k,oT xs k→¬S k)→iZ w xs→iZ w' xs
 | [],_,_=>trivial
 |x::r,h,hh=>⟨Cell.keep f x (fun k hk=>h k (.inl hk)) hh.1,A9 f r (fun k hk=>h k (.inr hk)) hh.2⟩
end
mutual
theorem Cell.low{w:World}:∀(c:Cell) {k:Nat},c.holds w→c.dp k→k<w.heap.size
 | .v _,_,_,h=>h.elim
 | .s sz A n c xs,k,hh,hk=>by
  obtain⟨h1,h2,h3⟩:=hh
  rcases hk with⟨hne,a,ha,hk⟩|hk
  ·exact(dr sz A n (xs.map Cell.val)).low h1 ⟨fun e=>hne (List.map_eq_nil_iff.1 e),a,ha,hk⟩
  ·exact Dr xs h3 hk
theorem Dr{w:World}:∀(xs:List Cell) {k:Nat},iZ w xs→oT xs k→k<w.heap.size
 | [],_,_,h=>h.elim
 |x::r,k,hh,hk=>by
  rcases hk with hk|hk
  ·exact Cell.low x hh.1 hk
  ·exact Dr r hh.2 hk
end
def mx(c:Cell):bh:=⟨c.dp,fun w=>c.holds w,fun f h x=>c.keep f h x,fun x hk=>c.low x hk⟩
theorem View.DT{sz n c:Nat}{A:Option Addr}{xs:List Cell}:View (mx (.s sz A n c xs)) (dr sz A n (xs.map Cell.val)):=
 .of (fun w h=>h.1) (fun k hk=>by
  obtain⟨hne,a,ha,hk⟩:=hk
  exact .inl ⟨fun e=>hne (by rw[e];rfl),a,ha,hk⟩)
theorem View.cell{sz n c j:Nat}{A:Option Addr}{xs:List Cell}{y:Cell}(h:xs[j]? =some y):View (mx (.s sz A n c xs)) (mx y):=
 .of (fun w hh=>fz.1 hh.2.2 y (List.mem_of_getElem? h)) (fun k hk=>.inr (qg.2 ⟨y,List.mem_of_getElem? h,hk⟩))
inductive Ty(P:Program):TypeId→List Cell→Prop
 |int {t:TypeId} {k:IntKind} {z:Int} (ht:P.underlying t=some (.int k)) (hw:(Lit.int k z).wf=true):Ty P t [.v (.int k z)]
 |bool {t:TypeId} {b:Bool} (ht:P.underlying t=some .bool):Ty P t [.v (.bool b)]
 |str {t:TypeId} {s:List UInt8} (ht:P.underlying t=some .string) (hs:s.length≤140737488351232):Ty P t [.v (.string (strOf s))]
 |slice {t e:TypeId} {A:Option Addr} {n c:Nat} {xs:List Cell} (ht:P.underlying t=some (.slice e)) (hc:n≤c) (hn:n*P.bytesOf e≤140737488351232) (hl:xs.length=n*P.cellsOf e)
   (h:∀i,i<n→Ty P e ((xs.drop (i*P.cellsOf e)).take (P.cellsOf e))):Ty P t [.s (P.cellsOf e) A n c xs]
 |arr {t e:TypeId} {n:Nat} {xs:List Cell} (ht:P.underlying t=some (.array n e)) (hl:xs.length=P.cellsOf t) (h:∀i,i<n→Ty P e ((xs.drop (i*P.cellsOf e)).take (P.cellsOf e))):Ty P t xs
 |struct {t:TypeId} {fs:Array Field} {xs:List Cell} (ht:P.underlying t=some (.struct fs)) (hl:xs.length=P.cellsOf t) (h:∀(i:Nat) (f:Field),fs[i]? =some f→Ty P f.type ((xs.drop f.offset).take (P.cellsOf f.type))):Ty P t xs
def jh(P:Program):List Field→Nat→Nat→Bool
 | [],o,e=>o == e
 |f::r,o,e=>f.offset == o && jh P r (o+P.cellsOf f.type) e
def parts(P:Program):Nat→TypeId→Bool
 |0,_=>false
 |n+1,t=>match P.underlying t with
  |some (.int _)|some .bool|some .string=>true
  |some (.slice e)=>parts P n e && decide (0<P.cellsOf e)
  |some (.array m e)=>parts P n e && (P.cellsOf t == m*P.cellsOf e)
  |some (.struct fs)=>fs.toList.all (fun f=>parts P n f.type) && jh P fs.toList 0 (P.cellsOf t)
  |_=>false
section
variable{H:Type}{enc:TypeId×Value→H}{P:Program}{w:World}{base:Nat}{spare:Nat→Bool}{held:Bool}
theorem wg{b:Nat}{a:Addr}{n:Nat}{cs:List Value}(h:w.cells? b a n=some cs):cs.length=n∧∀j u,cs[j]? =some u→w.cell? (a.add j)=some u:=by
 obtain⟨hb,hl,hcell⟩:=World.cells?_some h
 refine⟨hl,fun j u hu=> ?_⟩
 have hj:j<n:=by rw[←hl];exact(List.getElem?_eq_some_iff.1 hu).1
 rw[hcell j hj,hu]
theorem iF{e:TypeId}{d:DataW H}{n:Nat}:∀{ds:List (DataW H)},d∈ds→n∈d.weights P e→n∈DataW.weightsAll P e ds
 | [],h,_=>by cases h
 |a::r,h,hn=>by
  simp only[DataW.weightsAll,List.mem_append]
  rcases List.mem_cons.1 h with rfl|h
  ·exact .inl hn
  ·exact .inr (iF h hn)
theorem pieces{sz:Nat}{Q:List Cell→Prop}{R:Nat→List Value→Prop}:∀(m:Nat),(∀i,i<m→∃ys:List Cell,ys.length=sz∧Q ys∧R i (ys.map Cell.val)∧iZ w ys)→
  ∃xs:List Cell,xs.length=m*sz∧(∀i,i<m→Q ((xs.drop (i*sz)).take sz)∧R i (((xs.drop (i*sz)).take sz).map Cell.val))∧iZ w xs
 |0,_=>⟨[],by simp,fun i hi=>absurd hi (by omega),trivial⟩
 |m+1,h=>by
  obtain⟨xs,h1,h2,h3⟩:=pieces m (fun i hi=>h i (by omega))
  obtain⟨ys,h4,h5,h6,h7⟩:=h m (by omega)
  have hlen:(m+1)*sz=m*sz+sz:=by rw[Nat.add_mul,Nat.one_mul]
  refine⟨xs++ys,by rw[List.length_append,h1,h4,hlen],fun i hi=> ?_,fz.2 fun x hx=> ?_⟩
  ·by_cases hm:i=m
   ·subst hm
    have e:((xs++ys).drop (i*sz)).take sz=ys:=by
     rw[←h1,List.drop_left,List.take_of_length_le (by omega)]
    rw[e]
    exact⟨h5,h6⟩
   ·have hi' :i<m:=by omega
    have hle:i*sz+sz≤m*sz:=by
     have:=Nat.mul_le_mul_right sz (show i+1≤m by omega)
     rwa [Nat.add_mul,Nat.one_mul]at this
    have e:((xs++ys).drop (i*sz)).take sz=(xs.drop (i*sz)).take sz:=by
     rw[List.drop_append_of_le_length (by omega),List.take_append_of_le_length (by rw[List.length_drop];omega)]
    rw[e]
    exact h2 i hi'
  ·rcases List.mem_append.1 hx with hx|hx
   ·exact fz.1 h3 x hx
   ·exact fz.1 h7 x hx
theorem mO{xs:List Value}{sz i j:Nat}(hj:j<sz):((xs.drop (i*sz)).take sz)[j]? =xs[i*sz+j]? :=by
 rw[List.getElem?_take,if_pos hj,List.getElem?_drop]
theorem mz{cs:List Value}:∀(fs:List Field) (o e:Nat),jh P fs o e=true→(∀f∈fs,∃ys:List Cell,ys.length=P.cellsOf f.type∧Ty P f.type ys∧ys.map Cell.val=(cs.drop f.offset).take (P.cellsOf f.type)∧iZ w ys)→
  o≤e∧∃xs:List Cell,xs.length=e-o∧xs.map Cell.val=(cs.drop o).take (e-o)∧iZ w xs∧∀f∈fs,o≤f.offset∧Ty P f.type ((xs.drop (f.offset-o)).take (P.cellsOf f.type))
 | [],o,e,hc,_=>by
  have:o=e:=by simpa[jh]using hc
  subst this
  exact⟨Nat.le_refl _,[],by simp,by simp,trivial,by simp⟩
 |f::r,o,e,hc,h=>by
  simp only[jh,Bool.and_eq_true,beq_iff_eq]at hc
  obtain⟨h0,hc⟩:=hc
  obtain⟨hle,xs,h1,h2,h3,h4⟩:=mz r _ e hc (fun g hg=>h g (List.mem_cons_of_mem _ hg))
  obtain⟨ys,h5,h6,h7,h8⟩:=h f (List.mem_cons_self ..)
  rw[h0]at h7
  refine⟨by omega,ys++xs,by rw[List.length_append,h1,h5];omega, ?_,fz.2 fun x hx=> ?_,fun g hg=> ?_⟩
  ·rw[List.map_append,h7,h2,←List.drop_drop,show e-o=P.cellsOf f.type+(e-(o+P.cellsOf f.type)) by omega,List.take_add]
  ·rcases List.mem_append.1 hx with hx|hx
   ·exact fz.1 h8 x hx
   ·exact fz.1 h3 x hx
  ·rcases List.mem_cons.1 hg with rfl|hg
   ·refine⟨by omega, ?_⟩
    rw[h0,Nat.sub_self,List.drop_zero,←h5,List.take_left]
    exact h6
   ·obtain⟨h9,h10⟩:=h4 g hg
    refine⟨by omega, ?_⟩
    have e1:(ys++xs).drop (g.offset-o)=xs.drop (g.offset-(o+P.cellsOf f.type)):=by
     rw[List.drop_append,List.drop_of_length_le (by omega),List.nil_append]
     congr 1
     omega
    rw[e1]
    exact h10
theorem jP:∀(k fuel:Nat) (t:TypeId) (cs:List Value) (x:DataW H×List MemPlace),parts P k t=true→DataW.trod enc P w 0 spare held fuel t cs=some x→(∀q∈DataW.weights P t x.1,q≤140737488351232)→∃xs:List Cell,xs.map Cell.val=cs∧iZ w xs∧Ty P t xs
 |0,fuel,t,cs,x,hp,_,_=>by simp[parts]at hp
 |k+1,fuel,t,cs,x,hp,h,hw=>by
  unfold parts at hp
  split at hp
  ·rename_i q ht
   obtain⟨z,rfl,_,hz⟩:=DataW.trod_int ht h
   exact⟨[.v (.int q z)],rfl,⟨trivial,trivial⟩,.int ht hz⟩
  ·rename_i ht
   obtain⟨b,rfl,_⟩:=DataW.trod_bool ht h
   exact⟨[.v (.bool b)],rfl,⟨trivial,trivial⟩,.bool ht⟩
  ·rename_i ht
   obtain⟨s,rfl,hx,_⟩:=DataW.trod_string ht h
   have h1:=hw s.data.toList.length (by rw[hx];simp[DataW.weights])
   exact⟨[.v (.string s)],rfl,⟨trivial,trivial⟩,.str (s:=bytesOf s) ht h1⟩
  ·rename_i e ht
   simp only[Bool.and_eq_true,decide_eq_true_eq]at hp
   rcases DataW.trod_slice ht h with⟨rfl,rfl⟩|⟨a,len,cap,elems,rest,m,_,rfl,hx,hb,hl,hm,hlen,hel,_,_⟩
   ·exact⟨[.s (P.cellsOf e) none 0 0 []],rfl,⟨⟨Rd.nil _ _ _,Nat.le_refl _,trivial⟩,trivial⟩,.slice ht (Nat.le_refl _) (by simp) (by simp) (fun i hi=>absurd hi (by omega))⟩
   ·have hwe:∀d∈elems.map (·.1),∀q∈DataW.weights P e d,q≤140737488351232:=fun d hd q hq=>hw q (by
     rw[hx]
     simp only[DataW.weights,ht,List.mem_cons,List.mem_append]
     exact .inr (.inl (iF hd hq)))
    obtain⟨xs,h1,h2,h3⟩:=pieces (w:=w) (sz:=P.cellsOf e) (Q:=Ty P e) (R:=fun i vs=>∀j u,vs[j]? =some u→w.cell? (a.add (i*P.cellsOf e+j))=some u) len (fun i hi=>by
     have h1:=hel i hi
     rw[List.getElem?_eq_getElem (by omega)]at h1
     obtain⟨c,hc1,hc2⟩:=Option.bind_eq_some_iff.1 h1
     obtain⟨hcl,hcc⟩:=wg hc1
     obtain⟨ys,h4,h5,h6⟩:=jP k _ e c _ hp.1 hc2 (fun q hq=>hwe _ (List.mem_map.2 ⟨_,List.getElem_mem _,rfl⟩) q hq)
     refine⟨ys,by rw[←hcl,←h4,List.length_map],h6,fun j u hu=> ?_,h5⟩
     rw[h4]at hu
     have:=hcc j u hu
     rwa [add_add]at this)
    have hR:Rd w (P.cellsOf e) (some a) len (xs.map Cell.val):=⟨by rw[List.length_map,h1],fun _ e=>(by cases e),fun q u hu=>by
     have hq:q<len*P.cellsOf e:=by
      have:=(List.getElem?_eq_some_iff.1 hu).1
      rwa [List.length_map,h1]at this
     have hd:q/P.cellsOf e<len:=(Nat.div_lt_iff_lt_mul hp.2).2 hq
     have hmod:=Nat.mod_lt q hp.2
     have hqe:q/P.cellsOf e*P.cellsOf e+q % P.cellsOf e=q:=by
      have:=Nat.div_add_mod q (P.cellsOf e)
      rw[Nat.mul_comm]at this
      exact this
     have:=(h2 _ hd).2 (q % P.cellsOf e) u (by rw[List.map_take,List.map_drop,mO hmod,hqe];exact hu)
     rw[hqe]at this
     simpa using this⟩
    have hn:len*P.bytesOf e≤140737488351232:=by
     have:=hw ((elems.length+rest.length)*P.bytesOf e) (by rw[hx];simp[DataW.weights,ht])
     rw[hlen,Nat.add_mul]at this
     omega
    exact⟨[.s (P.cellsOf e) (some a) len cap xs],rfl,⟨⟨hR,hl,h3⟩,trivial⟩,.slice ht hl hn h1 (fun i hi=>(h2 i hi).1)⟩
  ·rename_i m e ht
   simp only[Bool.and_eq_true,beq_iff_eq]at hp
   obtain⟨ys,n,_,hx,hlen,hyl,hel⟩:=DataW.trod_array ht h
   have hwe:∀d∈ys.map (·.1),∀q∈DataW.weights P e d,q≤140737488351232:=fun d hd q hq=>hw q (by
    rw[hx]
    simp only[DataW.weights,ht]
    exact iF hd hq)
   obtain⟨xs,h1,h2,h3⟩:=pieces (w:=w) (sz:=P.cellsOf e) (Q:=Ty P e) (R:=fun i vs=>vs=(cs.drop (i*P.cellsOf e)).take (P.cellsOf e)) m (fun i hi=>by
    have h1:=hel i hi
    rw[List.getElem?_eq_getElem (by omega)]at h1
    obtain⟨zs,h4,h5,h6⟩:=jP k _ e _ _ hp.1 h1 (fun q hq=>hwe _ (List.mem_map.2 ⟨_,List.getElem_mem _,rfl⟩) q hq)
    refine⟨zs, ?_,h6,h4,h5⟩
    have:=congrArg List.length h4
    rw[List.length_map,List.length_take,List.length_drop,hlen,hp.2]at this
    have hle:i*P.cellsOf e+P.cellsOf e≤m*P.cellsOf e:=by
     have:=Nat.mul_le_mul_right (P.cellsOf e) (show i+1≤m by omega)
     rwa [Nat.add_mul,Nat.one_mul]at this
    omega)
   refine⟨xs, ?_,h3,.arr ht (by rw[h1,hp.2]) (fun i hi=>(h2 i hi).1)⟩
   apply List.ext_getElem?
   intro q
   by_cases hq:q<m*P.cellsOf e
   ·have hpos:0<P.cellsOf e:=by
     rcases Nat.eq_zero_or_pos (P.cellsOf e)with h0|h0
     ·rw[h0,Nat.mul_zero]at hq;omega
     ·exact h0
    have hd:q/P.cellsOf e<m:=(Nat.div_lt_iff_lt_mul hpos).2 hq
    have hmod:=Nat.mod_lt q hpos
    have hqe:q/P.cellsOf e*P.cellsOf e+q % P.cellsOf e=q:=by
     have:=Nat.div_add_mod q (P.cellsOf e)
     rw[Nat.mul_comm]at this
     exact this
    have h4:=congrArg (fun l:List Value=>l[q % P.cellsOf e]?) (h2 _ hd).2
    simp only[List.map_take,List.map_drop]at h4
    rwa [mO hmod,mO hmod,hqe]at h4
   ·rw[List.getElem?_eq_none (by rw[List.length_map,h1];omega),List.getElem?_eq_none (by rw[hlen,hp.2];omega)]
  ·rename_i fs ht
   simp only[Bool.and_eq_true,List.all_eq_true]at hp
   obtain⟨ys,n,_,hx,hlen,hyl,hel⟩:=DataW.trod_struct ht h
   have hw2:∀(i:Nat) (f:Field) (d:DataW H),fs[i]? =some f→(ys.map (·.1))[i]? =some d→∀q∈DataW.weights P f.type d,q≤140737488351232:=fun i f d hf hd q hq=>hw q (by
    rw[hx]
    simp only[DataW.weights,ht]
    exact DataW.weights_mem_each (j:=i) (t:=f.type) (d:=d) (by simp[hf]) hd q hq)
   obtain⟨_,xs,h1,h2,h3,h4⟩:=mz (P:=P) (w:=w) (cs:=cs) fs.toList 0 (P.cellsOf t) hp.2 (fun f hf=>by
    obtain⟨i,hi⟩:=List.mem_iff_getElem?.1 hf
    have hi' :fs[i]? =some f:=by simpa using hi
    have h1:=hel i f hi'
    have hlt:i<ys.length:=by
     rw[hyl]
     exact(Array.getElem?_eq_some_iff.1 hi').1
    rw[List.getElem?_eq_getElem hlt]at h1
    obtain⟨zs,h5,h6,h7⟩:=jP k _ f.type _ _ (hp.1 f hf) h1 (fun q hq=>hw2 i f _ hi' (by rw[List.getElem?_map,List.getElem?_eq_getElem hlt];rfl) q hq)
    have hz:zs.length=P.cellsOf f.type:=by
     have hz:=congrArg List.length h5
     rw[List.length_map,List.length_take,List.length_drop,hlen]at hz
     have hin:∀(l:List Field) (o e:Nat),jh P l o e=true→f∈l→f.offset+P.cellsOf f.type≤e∧o≤e:=by
      intro l
      induction l with
      |nil=>intro o e _ hm;cases hm
      |cons g r ih=>
       intro o e hc hm
       simp only[jh,Bool.and_eq_true,beq_iff_eq]at hc
       have hge:∀(l:List Field) (o e:Nat),jh P l o e=true→o≤e:=by
        intro l
        induction l with
        |nil=>intro o e hc;simp[jh]at hc;omega
        |cons g r ih=>intro o e hc;simp only[jh,Bool.and_eq_true,beq_iff_eq]at hc;have:=ih _ _ hc.2;omega
       rcases List.mem_cons.1 hm with rfl|hm
       ·have:=hge _ _ _ hc.2
        omega
       ·have:=ih _ _ hc.2 hm
        omega
     have:=hin _ _ _ hp.2 hf
     omega
    exact⟨zs,hz,h7,h5,h6⟩)
   refine⟨xs, ?_,h3,.struct ht (by rw[h1];omega) (fun i f hf=> ?_)⟩
   ·rw[h2,List.drop_zero,Nat.sub_zero,←hlen,List.take_length]
   ·have:=(h4 f (by rw[Array.mem_toList_iff];exact Array.mem_of_getElem? hf)).2
    rwa [Nat.sub_zero]at this
  ·cases hp
end
section
variable{P:Program}{t e:TypeId}{xs:List Cell}
theorem xt{k:IntKind}(ht:P.underlying t=some (.int k))(h:Ty P t xs):∃z,xs=[.v (.int k z)]∧(Lit.int k z).wf=true:=by
 cases h with
 |int ht' hw=>rw[ht]at ht';cases ht';exact⟨_,rfl,hw⟩
 |bool ht' =>rw[ht]at ht';cases ht'
 |str ht' =>rw[ht]at ht';cases ht'
 |slice ht' =>rw[ht]at ht';cases ht'
 |arr ht' =>rw[ht]at ht';cases ht'
 |struct ht' =>rw[ht]at ht';cases ht'
theorem tF(ht:P.underlying t=some (.int .i64))(h:Ty P t xs):∃z,xs=[.v (.int .i64 z)]∧-9223372036854775808≤z∧z≤9223372036854775807:=by
 obtain⟨z,rfl,hw⟩:=xt ht h
 refine⟨z,rfl, ?_⟩
 simp only[Lit.wf,IntKind.min,IntKind.max,IntKind.signed,IntKind.bits]at hw
 simp at hw
 omega
theorem Dl(ht:P.underlying t=some (.int .u8))(h:Ty P t xs):∃c:UInt8,xs=[.v (B8 c)]:=by
 obtain⟨z,rfl,hw⟩:=xt ht h
 have hb:=bounds_u8 hw
 refine⟨UInt8.ofNat z.toNat, ?_⟩
 rw[B8,UInt8.toNat_ofNat',Nat.mod_eq_of_lt (by omega)]
 congr 3
 omega
theorem zq(ht:P.underlying t=some .bool)(h:Ty P t xs):∃b,xs=[.v (.bool b)]:=by
 cases h with
 |int ht' =>rw[ht]at ht';cases ht'
 |bool ht' =>exact⟨_,rfl⟩
 |str ht' =>rw[ht]at ht';cases ht'
 |slice ht' =>rw[ht]at ht';cases ht'
 |arr ht' =>rw[ht]at ht';cases ht'
 |struct ht' =>rw[ht]at ht';cases ht'
theorem kv(ht:P.underlying t=some (.slice e))(h:Ty P t xs):∃A n c ys,xs=[.s (P.cellsOf e) A n c ys]∧n≤c∧n*P.bytesOf e≤140737488351232∧ys.length=n*P.cellsOf e∧∀i,i<n→Ty P e ((ys.drop (i*P.cellsOf e)).take (P.cellsOf e)):=by
 cases h with
 |int ht' =>rw[ht]at ht';cases ht'
 |bool ht' =>rw[ht]at ht';cases ht'
 |str ht' =>rw[ht]at ht';cases ht'
 |slice ht' hc hn hl h=>rw[ht]at ht';cases ht';exact⟨_,_,_,_,rfl,hc,hn,hl,h⟩
 |arr ht' =>rw[ht]at ht';cases ht'
 |struct ht' =>rw[ht]at ht';cases ht'
theorem vF{fs:Array Field}(ht:P.underlying t=some (.struct fs))(h:Ty P t xs):xs.length=P.cellsOf t∧∀(i:Nat) (f:Field),fs[i]? =some f→Ty P f.type ((xs.drop f.offset).take (P.cellsOf f.type)):=by
 cases h with
 |int ht' =>rw[ht]at ht';cases ht'
 |bool ht' =>rw[ht]at ht';cases ht'
 |str ht' =>rw[ht]at ht';cases ht'
 |slice ht' =>rw[ht]at ht';cases ht'
 |arr ht' =>rw[ht]at ht';cases ht'
 |struct ht' hl h=>rw[ht]at ht';cases ht';exact⟨hl,h⟩
theorem rR(he:P.underlying e=some (.int .u8))(hc:P.cellsOf e=1):∀{n:Nat} {ys:List Cell},ys.length=n→(∀i,i<n→Ty P e ((ys.drop i).take 1))→∃l:List UInt8,ys.map Cell.val=aZ l∧l.length=n:=by
 intro n ys hl h
 refine⟨ys.map fun y=>match y.val with| .int _ z=>UInt8.ofNat z.toNat|_=>0, ?_,by simpa using hl⟩
 apply List.ext_getElem?
 intro i
 simp only[aZ,List.map_map,List.getElem?_map]
 by_cases hi:i<n
 ·obtain⟨c,hc⟩:=Dl he (h i hi)
  have h2:((ys.drop i).take 1)[0]? =some (.v (B8 c)):=by rw[hc];rfl
  rw[List.getElem?_take,if_pos (by omega),List.getElem?_drop,Nat.add_zero]at h2
  rw[h2]
  simp[Cell.val,B8]
 ·rw[List.getElem?_eq_none (by omega)]
  rfl
theorem xC(ht:P.underlying t=some (.slice e))(he:P.underlying e=some (.int .u8))(hc:P.cellsOf e=1)(hb:P.bytesOf e=1)(h:Ty P t xs):∃A n c ys l,xs=[.s 1 A n c ys]∧n≤c∧n≤140737488351232∧ys.map Cell.val=aZ l∧l.length=n:=by
 obtain⟨A,n,c,ys,rfl,h1,h2,h3,h4⟩:=kv ht h
 rw[hc]at h3 h4 ⊢
 rw[hb]at h2
 obtain⟨l,h5,h6⟩:=rR he hc (by omega:ys.length=n) (fun i hi=>by have:=h4 i hi;rwa [Nat.mul_one]at this)
 exact⟨A,n,c,ys,l,rfl,h1,by omega,h5,h6⟩
end
theorem fV{α:Type}{xs ys:List α}{sz i o:Nat}{y:α}(h:(xs.drop (i*sz)).take sz=ys)(ho:ys[o]? =some y):xs[i*sz+o]? =some y:=by
 rw[←h,List.getElem?_take]at ho
 split at ho
 ·rwa [List.getElem?_drop]at ho
 ·cases ho
theorem kB{xs:List Cell}{j:Nat}{y:Cell}(h:xs[j]? =some y):(xs.map Cell.val)[j]? =some y.val:=by rw[List.getElem?_map,h];rfl
theorem dm{w:World}{sz n i o:Nat}{A:Option Addr}{xs:List Value}{u:Value}(h:Rd w sz A n xs)(hu:xs[i*sz+o]? =some u):w.cell? (((A.getD d0).add (i*sz)).add o)=some u:=by
 rw[add_add]
 exact h.cell hu
theorem DY{w:World}{sz n c:Nat}{A:Option Addr}{xs:List Cell}(h:(mx (.s sz A n c xs)).holds w):xs.length=n*sz∧(0<n→A≠none)∧n≤c:=⟨by have:=h.1.1;rwa [List.length_map]at this,h.1.2.1,h.2.1⟩
theorem View.rowOf{sz n c:Nat}{A:Option Addr}{xs:List Cell}{vs:List Value}(h:xs.map Cell.val=vs):View (mx (.s sz A n c xs)) (dr sz A n vs):=h▸View.DT
theorem View.um{sz n c j sz' n' c' :Nat}{A A' :Option Addr}{xs ys:List Cell}{vs:List Value}(h:xs[j]? =some (.s sz' A' n' c' ys))(hb:ys.map Cell.val=vs):View (mx (.s sz A n c xs)) (dr sz' A' n' vs):=(View.cell h).trans (View.rowOf hb)
section
variable{H:Type}{enc:TypeId×Value→H}{P:Program}{W:World}{spare:Nat→Bool}{held:Bool}{tss:List TypeId}{dss:List (DataW H)}
theorem th{t:TypeId}{v:Value}{d:DataW H}{ps:List MemPlace}{j:Nat}(k:Nat)(hp:parts P k t=true)(h:DataW.Trod enc P W 0 spare held t v d ps)(hsz:(DataW.weightsEach P tss dss).all (· ≤reachBytes)=true)(hjt:tss[j]? =some t)(hjd:dss[j]? =some d):
  ∃xs:List Cell,xs.map Cell.val=v.cells.toList∧iZ W xs∧Ty P t xs:=by
 obtain⟨fuel,hf⟩:=h
 refine jP k fuel t _ _ hp hf (fun q hq=> ?_)
 have:=List.all_eq_true.1 hsz q (DataW.weights_mem_each hjt hjd q hq)
 have hr:reachBytes=140737488351232:=rfl
 simp at this
 omega
theorem AD{t e:TypeId}{A:Option Addr}{n c:Nat}{d:DataW H}{ps:List MemPlace}{j:Nat}(k:Nat)(hp:parts P k t=true)(ht:P.underlying t=some (.slice e))(h:DataW.Trod enc P W 0 spare held t (.slice A n c) d ps)(hsz:(DataW.weightsEach P tss dss).all (· ≤reachBytes)=true)(hjt:tss[j]? =some t)(hjd:dss[j]? =some d):
  ∃ys:List Cell,(mx (.s (P.cellsOf e) A n c ys)).holds W∧Ty P t [.s (P.cellsOf e) A n c ys]:=by
 obtain⟨xs,h1,h2,h3⟩:=th k hp h hsz hjt hjd
 obtain⟨A',n',c',ys,rfl,_⟩:=kv ht h3
 have e1:[Cell.val (.s (P.cellsOf e) A' n' c' ys)]=[Value.slice A n c]:=h1
 simp only[Cell.val,List.cons.injEq,Value.slice.injEq,and_true]at e1
 obtain⟨rfl,rfl,rfl⟩:=e1
 exact⟨ys,h2.1,h3⟩
end
end Go.Eng
end
