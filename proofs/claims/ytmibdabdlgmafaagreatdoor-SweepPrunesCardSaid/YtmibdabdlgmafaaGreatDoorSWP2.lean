/- Part. -/
import Derived.Test.YtmibdabdlgmafaaGreatDoorSWP1
import Derived.Test.YtmibdabdlgmafaaGreatDoorProg
import Derived.KernelRfl
import Derived.Lib.Bytealg
import Derived.Test.YtmibdabdlgmafaaGreatDoorRows
import Derived.ProofKit
import Derived.LaidMore
import Derived.OpenShut
import Derived.MakeChecks
import Derived.LaidHandle
import Derived.LaidLaws
import Derived.Lib.BytesEntry
import Derived.Sort.Grow
import Derived.Shelf.SlSortCmp.NoneTotal
import Derived.Ground.SlsfProg
import Derived.Recover
import Derived.WideKeyEntry
set_option linter.all false
section
namespace Go.Hx
open Go.Eng
def kT(n:Nat)(x:UInt32):UInt32:=.ofNat (x.toNat/2 ^ n+x.toNat % 2 ^ n*2 ^ (32-n))
theorem mB{n:Nat}(hn:n≤32)(x:UInt32):(kT n x).toNat=x.toNat/2 ^ n+x.toNat % 2 ^ n*2 ^ (32-n):=by
 rw[kT,UInt32.toNat_ofNat',Nat.mod_eq_of_lt]
 have h1:=x.toNat_lt
 have h2:2 ^ n*2 ^ (32-n)=2 ^ 32:=by rw[←Nat.pow_add];congr 1;omega
 have h3:x.toNat % 2 ^ n<2 ^ n:=Nat.mod_lt _ (Nat.two_pow_pos n)
 have h4:x.toNat/2 ^ n<2 ^ (32-n):=Nat.div_lt_of_lt_mul (by omega)
 have h5:x.toNat % 2 ^ n*2 ^ (32-n)≤(2 ^ n-1)*2 ^ (32-n):=Nat.mul_le_mul_right _ (by omega)
 have h6:(2 ^ n-1)*2 ^ (32-n)+2 ^ (32-n)=2 ^ 32:=by
  rw[←h2,Nat.sub_mul,Nat.one_mul]
  have:=Nat.le_mul_of_pos_left (2 ^ (32-n)) (Nat.two_pow_pos n)
  omega
 omega
def tQ(x:UInt32):UInt32:=x/2+x % 2*2147483648
theorem x9(x:UInt32):(tQ x).toNat=x.toNat/2+x.toNat % 2*2147483648:=by
 have h1:=x.toNat_lt
 rw[tQ,UInt32.toNat_add,UInt32.toNat_mul,UInt32.toNat_div,UInt32.toNat_mod]
 show(x.toNat/2+x.toNat % 2*2147483648 % 4294967296) % 4294967296=_
 have:x.toNat % 2<2:=Nat.mod_lt _ (by decide)
 omega
theorem xS(x:UInt32):kT 0 x=x:=by
 apply UInt32.toNat_inj.1
 rw[mB (by decide)]
 simp[Nat.mod_one]
theorem yf{n:Nat}(hn:n<32)(x:UInt32):kT (n+1) x=tQ (kT n x):=by
 apply UInt32.toNat_inj.1
 rw[x9,mB (by omega),mB (by omega)]
 obtain⟨k,hk⟩:∃k,32-n=k+1:=⟨31-n,by omega⟩
 have hk2:32-(n+1)=k:=by omega
 rw[hk,hk2,Nat.pow_succ 2 k,Nat.pow_succ 2 n]
 have hq:x.toNat/(2 ^ n*2)=x.toNat/2 ^ n/2:=(Nat.div_div_eq_div_mul ..).symm
 have hm:x.toNat % (2 ^ n*2)=x.toNat % 2 ^ n+2 ^ n*(x.toNat/2 ^ n % 2):=Nat.mod_mul ..
 rw[hq,hm]
 generalize x.toNat/2 ^ n=q
 generalize x.toNat % 2 ^ n=m
 have h31:2 ^ n*2 ^ k=2147483648:=by rw[←Nat.pow_add,show n+k=31 by omega]
 have e1:(q+m*(2 ^ k*2))/2=q/2+m*2 ^ k:=by
  rw[show m*(2 ^ k*2)=(m*2 ^ k)*2 by rw[Nat.mul_assoc]];omega
 have e2:(q+m*(2 ^ k*2)) % 2=q % 2:=by
  rw[show m*(2 ^ k*2)=(m*2 ^ k)*2 by rw[Nat.mul_assoc]];omega
 rw[e1,e2,Nat.add_mul,Nat.mul_right_comm (2 ^ n),h31]
 omega
theorem Cr{n:Nat}(h0:0<n)(hn:n<32)(x:UInt32):UInt32.ofNat (x.toNat*2 ^ (32-n)) ||| UInt32.ofNat (x.toNat/2 ^ n)=kT n x:=by
 apply UInt32.toNat_inj.1
 have h1:=x.toNat_lt
 rw[mB (by omega),UInt32.toNat_or,UInt32.toNat_ofNat',UInt32.toNat_ofNat']
 have h2:2 ^ n*2 ^ (32-n)=2 ^ 32:=by rw[←Nat.pow_add];congr 1;omega
 have h4:x.toNat/2 ^ n<2 ^ (32-n):=Nat.div_lt_of_lt_mul (by omega)
 have h5:x.toNat/2 ^ n≤x.toNat:=Nat.div_le_self ..
 rw[Nat.mod_eq_of_lt (a:=x.toNat/2 ^ n) (by omega)]
 have h6:x.toNat*2 ^ (32-n) % 2 ^ 32=2 ^ (32-n)*(x.toNat % 2 ^ n):=by
  rw[←h2,Nat.mul_mod_mul_right,Nat.mul_comm]
 rw[h6,←Nat.two_pow_add_eq_or_of_lt h4,Nat.mul_comm,Nat.add_comm]
def fM:List UInt32:=[1116352408,1899447441,3049323471,3921009573,961987163,1508970993,2453635748,2870763221,3624381080,310598401,607225278,1426881987,1925078388,2162078206,2614888103,3248222580,3835390401,4022224774,264347078,604807628,770255983,1249150122,1555081692,1996064986,2554220882,2821834349,2952996808,3210313671,3336571891,3584528711,113926993,338241895,666307205,773529912,1294757372,1396182291,1695183700,1986661051,2177026350,2456956037,2730485921,2820302411,3259730800,3345764771,3516065817,3600352804,4094571909,275423344,430227734,506948616,659060556,883997877,958139571,1322822218,1537002063,1747873779,1955562222,2024104815,2227730452,2361852424,2428436474,2756734187,3204031479,3329325298]
def mw:List UInt32:=[1779033703,3144134277,1013904242,2773480762,1359893119,2600822924,528734635,1541459225]
def turns(a b c:Nat)(x:UInt32):UInt32:=kT a x ^^^ kT b x ^^^ kT c x
def at8(b:List UInt8)(i:Nat):Nat:=(b.getD i 0).toNat
def k8(b:List UInt8)(i:Nat):UInt32:=.ofNat (at8 b i*16777216+at8 b (i+1)*65536+at8 b (i+2)*256+at8 b (i+3))
def wp(b:List UInt8)(i:Nat):Nat→Nat
 |0=>0
 |j+1=>wp b i j*256+at8 b (i+j)
theorem n0(b:List UInt8)(i:Nat):at8 b i<256:=(b.getD i 0).toNat_lt
theorem De(b:List UInt8)(i:Nat):∀j,wp b i j<256 ^ j
 |0=>Nat.one_pos
 |j+1=>by
  have h1:=De b i j
  have h2:=n0 b (i+j)
  rw[wp,Nat.pow_succ]
  omega
theorem BL{b:List UInt8}{i j:Nat}(hj:j<4):(UInt32.ofNat (wp b i j)*256) ||| (b.getD (i+j) 0).toUInt32=UInt32.ofNat (wp b i (j+1)):=by
 apply UInt32.toNat_inj.1
 have h1:=De b i j
 have h0:256 ^ j≤256 ^ 3:=Nat.pow_le_pow_right (by decide) (by omega)
 have h2:=n0 b (i+j)
 have h3:wp b i j<16777216:=Nat.lt_of_lt_of_le h1 h0
 rw[UInt32.toNat_or,UInt32.toNat_mul,UInt32.toNat_ofNat',UInt8.toNat_toUInt32,UInt32.toNat_ofNat',wp]
 show(wp b i j % 4294967296*256 % 4294967296 ||| at8 b (i+j))=_
 rw[Nat.mod_eq_of_lt (a:=wp b i j) (by omega),Nat.mod_eq_of_lt (a:=wp b i j*256) (by omega),Nat.mod_eq_of_lt (a:=wp b i j*256+_) (by omega),show wp b i j*256=2 ^ 8*wp b i j by omega,Nat.two_pow_add_eq_or_of_lt (i:=8) h2]
theorem D0(b:List UInt8)(i:Nat):wp b i 4=at8 b i*16777216+at8 b (i+1)*65536+at8 b (i+2)*256+at8 b (i+3):=by
 have e1:wp b i 1=wp b i 0*256+at8 b (i+0):=rfl
 have e2:wp b i 2=wp b i 1*256+at8 b (i+1):=rfl
 have e3:wp b i 3=wp b i 2*256+at8 b (i+2):=rfl
 have e4:wp b i 4=wp b i 3*256+at8 b (i+3):=rfl
 have e0:wp b i 0=0:=rfl
 rw[Nat.add_zero]at e1
 rw[e4,e3,e2,e1,e0]
 generalize at8 b i=p
 generalize at8 b (i+1)=q
 generalize at8 b (i+2)=r
 generalize at8 b (i+3)=s
 omega
theorem C4(b:List UInt8)(i:Nat):UInt32.ofNat (wp b i 4)=k8 b i:=congrArg UInt32.ofNat (D0 b i)
theorem xI(b:List UInt8)(i:Nat):(b.getD i 0).toUInt32*16777216+(b.getD (i+1) 0).toUInt32*65536+(b.getD (i+2) 0).toUInt32*256+(b.getD (i+3) 0).toUInt32=k8 b i:=by
 apply UInt32.toNat_inj.1
 have h0:(b.getD i 0).toNat<256:=n0 b i
 have h1:(b.getD (i+1) 0).toNat<256:=n0 b (i+1)
 have h2:(b.getD (i+2) 0).toNat<256:=n0 b (i+2)
 have h3:(b.getD (i+3) 0).toNat<256:=n0 b (i+3)
 have k1:(16777216:UInt32).toNat=16777216:=rfl
 have k2:(65536:UInt32).toNat=65536:=rfl
 have k3:(256:UInt32).toNat=256:=rfl
 simp only[k8,at8,UInt32.toNat_add,UInt32.toNat_mul,UInt8.toNat_toUInt32,UInt32.toNat_ofNat',k1,k2,k3]
 generalize(b.getD i 0).toNat=p at*
 generalize(b.getD (i+1) 0).toNat=q at*
 generalize(b.getD (i+2) 0).toNat=r at*
 generalize(b.getD (i+3) 0).toNat=s at*
 omega
def Hz(x:UInt32):UInt32:=kT 7 x ^^^ kT 18 x ^^^ (x/8)
def GA(x:UInt32):UInt32:=kT 17 x ^^^ kT 19 x ^^^ (x/1024)
def ny(w:List UInt32)(i:Nat):UInt32:=w.getD (i-16) 0+Hz (w.getD (i-15) 0)+w.getD (i-7) 0+GA (w.getD (i-2) 0)
def wl(b:List UInt8):Nat→List UInt32
 |0=>[]
 |i+1=>wl b i++[if i<16 then k8 b (4*i)else ny (wl b i) i]
theorem fD(b:List UInt8):∀i,(wl b i).length=i
 |0=>rfl
 |i+1=>by rw[wl,List.length_append,fD b i];rfl
def v_(v:List UInt32)(i:Nat):UInt32:=v.getD i 0
def rt(v:List UInt32)(k w:UInt32):UInt32:=v_ v 7+turns 6 11 25 (v_ v 4)+((v_ v 4 &&& v_ v 5) ^^^ (~~~(v_ v 4) &&& v_ v 6))+k+w
def ru(v:List UInt32):UInt32:=turns 2 13 22 (v_ v 0)+((v_ v 0 &&& v_ v 1) ^^^ (v_ v 0 &&& v_ v 2) ^^^ (v_ v 1 &&& v_ v 2))
def He(v:List UInt32)(k w:UInt32):List UInt32:=[rt v k w+ru v,v_ v 0,v_ v 1,v_ v 2,v_ v 3+rt v k w,v_ v 4,v_ v 5,v_ v 6]
def kM(w v:List UInt32):Nat→List UInt32
 |0=>v
 |i+1=>He (kM w v i) (fM.getD i 0) (w.getD i 0)
theorem kY{w v:List UInt32}(h:v.length=8):∀i,(kM w v i).length=8
 |0=>h
 |i+1=>rfl
def fT(v h:List UInt32)(i:Nat):List UInt32:=(List.range v.length).map fun j=>if j<i then v_ v j+v_ h j else v_ v j
def eC(h:List UInt32)(b:List UInt8):List UInt32:=fT (kM (wl b 64) h 64) h 8
theorem jo{h:List UInt32}(hl:h.length=8)(b:List UInt8):(eC h b).length=8:=by simp[eC,fT,kY hl]
theorem qZ{v h:List UInt32}:fT v h 0=v:=by
 apply List.ext_getElem?
 intro i
 simp only[fT,Nat.not_lt_zero,if_false,List.getElem?_map]
 by_cases hi:i<v.length
 ·simp[hi,v_,List.getD]
 ·rw[List.getElem?_eq_none (by simpa using hi),List.getElem?_eq_none (by omega)];rfl
theorem q7{v h:List UInt32}{i:Nat}(hi:i<v.length):fT v h (i+1)=(fT v h i).set i (v_ (fT v h i) i+v_ h i):=by
 apply List.ext_getElem?
 intro j
 have e:v_ (fT v h i) i=v_ v i:=by simp[fT,v_,List.getD,hi]
 rw[e]
 by_cases hj:j<v.length
 ·by_cases hij:i=j
  ·subst hij
   simp[fT,hi]
  ·rw[List.getElem?_set_ne hij]
   simp only[fT,List.getElem?_map,List.getElem?_range hj,Option.map_some]
   congr 1
   by_cases h1:j<i
   ·rw[if_pos h1,if_pos (by omega)]
   ·rw[if_neg h1,if_neg (by omega)]
 ·rw[List.getElem?_eq_none (by simp[fT];omega),List.getElem?_eq_none (by simp[fT];omega)]
def oC:Nat→List UInt32→List UInt8→List UInt32
 |0,h,_=>h
 |n+1,h,l=>oC n (eC h (l.take 64)) (l.drop 64)
def fz(h:List UInt32)(l:List UInt8):List UInt32:=oC (l.length/64) h l
theorem qJ:∀(n:Nat) (h:List UInt32) (l b:List UInt8),l.length=64*n→b.length=64→oC (n+1) h (l++b)=eC (oC n h l) b
 |0,h,l,b,hl,hb=>by
  obtain rfl:=List.eq_nil_of_length_eq_zero hl
  simp only[oC,List.nil_append]
  rw[List.take_of_length_le (by omega)]
 |n+1,h,l,b,hl,hb=>by
  have h1:(l++b).take 64=l.take 64:=by rw[List.take_append_of_le_length (by omega)]
  have h2:(l++b).drop 64=l.drop 64++b:=by rw[List.drop_append_of_le_length (by omega)]
  rw[oC,h1,h2,qJ n _ (l.drop 64) b (by rw[List.length_drop];omega) hb]
  rfl
theorem pF{h:List UInt32}{l b:List UInt8}(hl:l.length % 64=0)(hb:b.length=64):fz h (l++b)=eC (fz h l) b:=by
 unfold fz
 rw[List.length_append,hb,show(l.length+64)/64=l.length/64+1 by omega]
 exact qJ _ h l b (by omega) hb
theorem nc:∀(n:Nat) (h:List UInt32) (l:List UInt8),h.length=8→(oC n h l).length=8
 |0,h,l,hl=>hl
 |n+1,h,l,hl=>nc n _ _ (jo hl _)
theorem mV{h:List UInt32}(l:List UInt8)(hl:h.length=8):(fz h l).length=8:=nc _ _ _ hl
def Bp(x:UInt32):List UInt8:=[.ofNat (x/16777216).toNat,.ofNat (x/65536).toNat,.ofNat (x/256).toNat,.ofNat x.toNat]
def eU(h:List UInt32):List UInt8:=h.flatMap Bp
def s9(n:Nat):List UInt8:=(List.range 8).map fun i=>.ofNat (n/256 ^ (7-i))
def iQ(n:Nat):Nat:=(119-n % 64) % 64
def jx(b:List UInt8):List UInt8:=b++(128::List.replicate (iQ b.length) 0)++s9 (8*b.length)
theorem oe(b:List UInt8):(jx b).length % 64=0:=by
 simp only[jx,List.length_append,List.length_cons,List.length_replicate,s9,List.length_map,List.length_range,iQ]
 omega
def bk(b:List UInt8):List UInt8:=eU (fz mw (jx b))
theorem mH{h:List UInt32}(hl:h.length=8):(eU h).length=32:=by
 match h,hl with
 | [a,b,c,d,e,f,g,i],_=>rfl
theorem br(b:List UInt8):(bk b).length=32:=mH (mV _ rfl)
end Go.Hx
end
section
namespace Go.Proofs.YtmibdabdlgmafaaGreatDoor
open Go.Eng
theorem fS:dD Tryz.prog 3=some false:=by kernel_rfl
theorem s8:fA Tryz.prog 3=some 1:=by kernel_rfl
theorem Fi:TI Tryz.prog 3 (.int .i64 0) 1 8:=by unfold TI;kernel_rfl
theorem iX:dD Tryz.prog 5=some false:=by kernel_rfl
theorem ea:fA Tryz.prog 5=some 1:=by kernel_rfl
theorem fa:TI Tryz.prog 5 (.int .u8 0) 1 1:=by unfold TI;kernel_rfl
theorem lF:dD Tryz.prog 9=some false:=by kernel_rfl
theorem Hp:fA Tryz.prog 9=some 1:=by kernel_rfl
theorem Hr:TI Tryz.prog 9 (.string ⟨#[]⟩) 1 16:=by unfold TI;kernel_rfl
theorem ek:dD Tryz.prog 27=some false:=by kernel_rfl
theorem p9:fA Tryz.prog 27=some 1:=by kernel_rfl
theorem tB:TI Tryz.prog 27 (.slice none 0 0) 1 24:=by unfold TI;kernel_rfl
theorem kV:dD Tryz.prog 35=some false:=by kernel_rfl
theorem oO:dD Tryz.prog 36=some false:=by kernel_rfl
theorem FC:fA Tryz.prog 36=some 1:=by kernel_rfl
theorem GR:dD Tryz.prog 37=some false:=by kernel_rfl
theorem FW:fA Tryz.prog 37=some 1:=by kernel_rfl
theorem cd:dD Tryz.prog 39=some true:=by kernel_rfl
theorem bh:fA Tryz.prog 39=some 5:=by kernel_rfl
theorem fG:TI Tryz.prog 39 (.agg (([.int .i64 0])++([.slice none 0 0])++([.slice none 0 0])++([.slice none 0 0])++([.int .i64 0]):List Value).toArray) 5 88:=by unfold TI;kernel_rfl
theorem zd:jU Tryz.prog 39 0=some (0,1,3):=by kernel_rfl
theorem gr:jU Tryz.prog 39 1=some (1,1,36):=by kernel_rfl
theorem EI:jU Tryz.prog 39 2=some (2,1,36):=by kernel_rfl
theorem sv:jU Tryz.prog 39 3=some (3,1,37):=by kernel_rfl
theorem gW:jU Tryz.prog 39 4=some (4,1,3):=by kernel_rfl
theorem GZ:dD Tryz.prog 44=some false:=by kernel_rfl
theorem Hq:fA Tryz.prog 44=some 1:=by kernel_rfl
theorem Ev:TI Tryz.prog 44 (.slice none 0 0) 1 24:=by unfold TI;kernel_rfl
theorem lP:dD Tryz.prog 47=some false:=by kernel_rfl
theorem x3:fA Tryz.prog 47=some 1:=by kernel_rfl
theorem G3:TI Tryz.prog 47 (.int .i64 0) 1 8:=by unfold TI;kernel_rfl
theorem b9:dD Tryz.prog 53=some true:=by kernel_rfl
theorem bf:fA Tryz.prog 53=some 32:=by kernel_rfl
theorem cS:TI Tryz.prog 53 (.agg (aV (List.replicate 32 0):List Value).toArray) 32 32:=by unfold TI;kernel_rfl
theorem vY{l:List UInt8}(h:l.length=32):Tryz.prog.keyLits 2 53 (aV l)=some (l.map fun b=>Lit.int .u8 (b.toNat:Int)):=fv (D:=0) Tryz.underlying53 Tryz.underlying5 (by kernel_rfl) (by kernel_rfl) h
theorem oZ{N:Nat}{D:List Deferred}{ρ:Env}{w:World}{ty t' :TypeId}{x y:Operand}{l m:List UInt8}(hx:ev ρ x=some (.agg (aV l).toArray))(hy:ev ρ y=some (.agg (aV m).toArray))(hl:l.length=32)(hm:m.length=32):Yl Tryz.prog N D ρ w (.binOp .eql 53 x y t') ty (.bool (decide (l=m))):=
 FO (m:=5) hx hy (by decide) (by kernel_rfl) (by kernel_rfl) b9 (by rw[az,hl];kernel_rfl) (by rw[az,hm];kernel_rfl) (vY hl) (vY hm) jl
theorem o1{N:Nat}{D:List Deferred}{ρ:Env}{w:World}{ty t' :TypeId}{x y:Operand}{l m:List UInt8}(hx:ev ρ x=some (.agg (aV l).toArray))(hy:ev ρ y=some (.agg (aV m).toArray))(hl:l.length=32)(hm:m.length=32):Yl Tryz.prog N D ρ w (.binOp .neq 53 x y t') ty (.bool (decide (¬l=m))):=
 GO (m:=5) hx hy (by decide) (by kernel_rfl) (by kernel_rfl) b9 (by rw[az,hl];kernel_rfl) (by rw[az,hm];kernel_rfl) (vY hl) (vY hm) jl
theorem Ha:dD Tryz.prog 75=some true:=by kernel_rfl
theorem Hm:fA Tryz.prog 75=some 3:=by kernel_rfl
theorem Hd:TI Tryz.prog 75 (.agg (([.int .i64 0])++([.int .i64 0])++([.int .i64 0]):List Value).toArray) 3 24:=by unfold TI;kernel_rfl
theorem AI:dD Tryz.prog 80=some false:=by kernel_rfl
theorem G7:fA Tryz.prog 80=some 1:=by kernel_rfl
theorem Bh:dD Tryz.prog 82=some true:=by kernel_rfl
theorem pf:fA Tryz.prog 82=some 36:=by kernel_rfl
theorem zE:TI Tryz.prog 82 (.agg ((([.int .i64 0])++([.int .i64 0])++([.int .i64 0]))++(aV (List.replicate 32 0))++([.slice none 0 0]):List Value).toArray) 36 80:=by unfold TI;kernel_rfl
theorem DU:jU Tryz.prog 82 0=some (0,3,75):=by kernel_rfl
theorem DP:pc Tryz.prog 82 0=some (0,3):=by kernel_rfl
theorem El:jU Tryz.prog 82 1=some (3,32,53):=by kernel_rfl
theorem qz:jU Tryz.prog 82 2=some (35,1,80):=by kernel_rfl
theorem GG:dD Tryz.prog 88=some true:=by kernel_rfl
theorem Ak:fA Tryz.prog 88=some 36:=by kernel_rfl
theorem xp:TI Tryz.prog 88 (.agg ((([.int .i64 0])++([.int .i64 0])++([.int .i64 0]))++(aV (List.replicate 32 0))++([.slice none 0 0]):List Value).toArray) 36 80:=by unfold TI;kernel_rfl
theorem Eg:pc Tryz.prog 88 0=some (0,3):=by kernel_rfl
theorem ES:pc Tryz.prog 88 1=some (3,32):=by kernel_rfl
theorem DG:jU Tryz.prog 88 2=some (35,1,80):=by kernel_rfl
theorem E5:pc Tryz.prog 88 2=some (35,1):=by kernel_rfl
theorem Fz:dD Tryz.prog 100=some true:=by kernel_rfl
theorem w6:fA Tryz.prog 100=some 33:=by kernel_rfl
theorem wD:TI Tryz.prog 100 (.agg ((aV (List.replicate 32 0))++([.int .i64 0]):List Value).toArray) 33 40:=by unfold TI;kernel_rfl
theorem wT:jU Tryz.prog 100 0=some (0,32,53):=by kernel_rfl
theorem Bw:pc Tryz.prog 100 0=some (0,32):=by kernel_rfl
theorem Bt:pc Tryz.prog 100 1=some (32,1):=by kernel_rfl
theorem Ft:TI Tryz.prog 121 (.agg (([.pointer none])++(([.int .i64 0])++([.slice none 0 0])++([.slice none 0 0])++([.slice none 0 0])++([.int .i64 0])):List Value).toArray) 6 96:=by unfold TI;kernel_rfl
theorem fp:jU Tryz.prog 121 0=some (0,1,35):=by kernel_rfl
theorem BH:pc Tryz.prog 121 0=some (0,1):=by kernel_rfl
theorem eD:jU Tryz.prog 121 1=some (1,5,39):=by kernel_rfl
theorem Ce:pc Tryz.prog 121 1=some (1,5):=by kernel_rfl
theorem rR:dD Tryz.prog 156=some true:=by kernel_rfl
theorem eQ:fA Tryz.prog 156=some 2:=by kernel_rfl
theorem jd:TI Tryz.prog 156 (.agg (([.string ⟨#[]⟩])++([.string ⟨#[]⟩]):List Value).toArray) 2 32:=by unfold TI;kernel_rfl
theorem eM:jU Tryz.prog 156 0=some (0,1,9):=by kernel_rfl
theorem oW:jU Tryz.prog 156 1=some (1,1,9):=by kernel_rfl
theorem bZ:dD Tryz.prog 166=some false:=by kernel_rfl
theorem bR:fA Tryz.prog 166=some 1:=by kernel_rfl
theorem oI:TI Tryz.prog 166 (.int .u32 0) 1 4:=by unfold TI;kernel_rfl
theorem nk:dD Tryz.prog 174=some false:=by kernel_rfl
theorem Ge:fA Tryz.prog 174=some 1:=by kernel_rfl
theorem vL:dD Tryz.prog 175=some false:=by kernel_rfl
theorem vX:fA Tryz.prog 175=some 1:=by kernel_rfl
theorem F1:TI Tryz.prog 177 (.agg (([.int .i64 0])++([.map none])++([.map none])++([.slice none 0 0])++([.int .i64 0]):List Value).toArray) 5 56:=by unfold TI;kernel_rfl
theorem BX:jU Tryz.prog 177 0=some (0,1,3):=by kernel_rfl
theorem ic:jU Tryz.prog 177 1=some (1,1,174):=by kernel_rfl
theorem Cb:jU Tryz.prog 177 2=some (2,1,174):=by kernel_rfl
theorem jh:jU Tryz.prog 177 3=some (3,1,175):=by kernel_rfl
theorem mO:jU Tryz.prog 177 4=some (4,1,3):=by kernel_rfl
theorem Dv:dD Tryz.prog 186=some true:=by kernel_rfl
theorem Dc:fA Tryz.prog 186=some 4:=by kernel_rfl
theorem pB:TI Tryz.prog 186 (.agg (([.int .i64 0])++([.string ⟨#[]⟩])++([.string ⟨#[]⟩])++([.string ⟨#[]⟩]):List Value).toArray) 4 56:=by unfold TI;kernel_rfl
theorem xb:jU Tryz.prog 186 0=some (0,1,3):=by kernel_rfl
theorem pb:jU Tryz.prog 186 1=some (1,1,9):=by kernel_rfl
theorem CR:jU Tryz.prog 186 2=some (2,1,9):=by kernel_rfl
theorem BZ:jU Tryz.prog 186 3=some (3,1,9):=by kernel_rfl
theorem Gp:TI Tryz.prog 189 (.agg (([.string ⟨#[]⟩])++([.slice none 0 0]):List Value).toArray) 2 40:=by unfold TI;kernel_rfl
theorem CM:jU Tryz.prog 189 0=some (0,1,9):=by kernel_rfl
theorem BK:jU Tryz.prog 189 1=some (1,1,27):=by kernel_rfl
theorem rS:TI Tryz.prog 232 (.nilIface) 1 16:=by unfold TI;kernel_rfl
theorem FE:TI Tryz.prog 237 (.agg (([.string ⟨#[]⟩]):List Value).toArray) 1 16:=by unfold TI;kernel_rfl
theorem Cc:jU Tryz.prog 237 0=some (0,1,9):=by kernel_rfl
theorem Gn:TI Tryz.prog 257 (.agg (([.string ⟨#[]⟩])++([.string ⟨#[]⟩]):List Value).toArray) 2 32:=by unfold TI;kernel_rfl
theorem sE:jU Tryz.prog 257 0=some (0,1,9):=by kernel_rfl
theorem CW:jU Tryz.prog 257 1=some (1,1,9):=by kernel_rfl
theorem Db:fA Tryz.prog 288=some 1:=by kernel_rfl
theorem vZ:TI Tryz.prog 288 (.agg (([.int .i64 0]):List Value).toArray) 1 8:=by unfold TI;kernel_rfl
theorem B4:jU Tryz.prog 288 0=some (0,1,47):=by kernel_rfl
theorem rL:dD Tryz.prog 295=some true:=by kernel_rfl
theorem jE:fA Tryz.prog 295=some 3:=by kernel_rfl
theorem oE:TI Tryz.prog 295 (.agg (([.slice none 0 0])++([.int .i64 0])++([.int .i64 0]):List Value).toArray) 3 40:=by unfold TI;kernel_rfl
theorem CA:jU Tryz.prog 295 0=some (0,1,27):=by kernel_rfl
theorem Ck:jU Tryz.prog 295 2=some (2,1,47):=by kernel_rfl
theorem vU:dD Tryz.prog 298=some true:=by kernel_rfl
theorem l5:fA Tryz.prog 298=some 2:=by kernel_rfl
theorem rp:TI Tryz.prog 298 (.agg (([.int .i64 0])++([.int .i64 0]):List Value).toArray) 2 16:=by unfold TI;kernel_rfl
theorem lG:jU Tryz.prog 298 0=some (0,1,3):=by kernel_rfl
theorem wF:jU Tryz.prog 298 1=some (1,1,3):=by kernel_rfl
theorem rY:dD Tryz.prog 306=some true:=by kernel_rfl
theorem lS:fA Tryz.prog 306=some 8:=by kernel_rfl
theorem wy:TI Tryz.prog 306 (.agg ((List.replicate 8 ([.int .u32 0])).flatten:List Value).toArray) 8 32:=by unfold TI;kernel_rfl
theorem Du:TI Tryz.prog 308 (.agg (((List.replicate 8 ([.int .u32 0])).flatten)++([.int .i64 0])++([.slice none 0 0]):List Value).toArray) 10 64:=by unfold TI;kernel_rfl
theorem oX:jU Tryz.prog 308 0=some (0,8,306):=by kernel_rfl
theorem mI:jU Tryz.prog 308 1=some (8,1,3):=by kernel_rfl
theorem kg:jU Tryz.prog 308 2=some (9,1,27):=by kernel_rfl
theorem ot:dD Tryz.prog 322=some false:=by kernel_rfl
theorem Dn:dD Tryz.prog 354=some true:=by kernel_rfl
theorem wZ:fA Tryz.prog 354=some 64:=by kernel_rfl
theorem yG:TI Tryz.prog 354 (.agg ((List.replicate 64 ([.int .u32 0])).flatten:List Value).toArray) 64 256:=by unfold TI;kernel_rfl
theorem y6:dD Tryz.prog 357=some false:=by kernel_rfl
theorem Fy:TI Tryz.prog 359 (.agg (([.slice none 0 0])++([.map none])++([.int .i64 0]):List Value).toArray) 3 40:=by unfold TI;kernel_rfl
theorem j9:jU Tryz.prog 359 0=some (0,1,27):=by kernel_rfl
theorem sC:jU Tryz.prog 359 1=some (1,1,357):=by kernel_rfl
theorem ij:jU Tryz.prog 359 2=some (2,1,3):=by kernel_rfl
theorem vR:dD Tryz.prog 364=some true:=by kernel_rfl
theorem uF:fA Tryz.prog 364=some 4:=by kernel_rfl
theorem Fv:TI Tryz.prog 364 (.agg (aV (List.replicate 4 0):List Value).toArray) 4 4:=by unfold TI;kernel_rfl
end Go.Proofs.YtmibdabdlgmafaaGreatDoor
end
section
namespace Go.Hx
open Go.Eng
def mT(x:Nat):Nat:=if x % 2=1 then(x/2) ^^^ 2197175160 else x/2
theorem zC{x:Nat}(h:x<4294967296):mT x<4294967296:=by
 unfold mT
 split
 ·exact Nat.xor_lt_two_pow (n:=32) (by omega) (by decide)
 ·omega
def gk:Nat→Nat→Nat
 |0,x=>x
 |n+1,x=>mT (gk n x)
theorem lN{x:Nat}(h:x<4294967296):∀n,gk n x<4294967296
 |0=>h
 |n+1=>zC (lN h n)
def kv(n:Nat)(l:List UInt8):Nat:=l.foldl (fun n b=>gk 8 (n ^^^ b.toNat)) n
theorem nB{n:Nat}(h:n<4294967296):∀l:List UInt8,kv n l<4294967296:=by
 intro l
 induction l generalizing n with
 |nil=>exact h
 |cons a r ih=>exact ih (lN (Nat.xor_lt_two_pow (n:=32) h (by have:=a.toNat_lt;omega)) 8)
theorem pT(n:Nat)(l:List UInt8)(b:UInt8):kv n (l++[b])=gk 8 (kv n l ^^^ b.toNat):=by simp[kv]
theorem ur{m:Nat}(h:m<4294967296):4294967295 ^^^ m=4294967295-m:=by
 have h1:(BitVec.allOnes 32 ^^^ BitVec.ofNat 32 m)= ~~~ BitVec.ofNat 32 m:=BitVec.allOnes_xor
 have h2:=congrArg BitVec.toNat h1
 rw[BitVec.toNat_xor,BitVec.toNat_not,BitVec.toNat_allOnes,BitVec.toNat_ofNat,Nat.mod_eq_of_lt h]at h2
 exact h2
def cZ(l:List UInt8):Nat:=4294967295-kv 4294967295 l
theorem jL(l:List UInt8):cZ l<4294967296:=by unfold cZ;omega
def gI(n:Nat):List UInt8:=[UInt8.ofNat n,UInt8.ofNat (n/256),UInt8.ofNat (n/65536),UInt8.ofNat (n/16777216)]
def s7:Nat→Nat→Nat
 |0,n=>n
 |k+1,n=>s7 k n/256
def EA(k n:Nat):List UInt8:=(List.range k).map fun i=>UInt8.ofNat (s7 i n)
theorem y7(k n:Nat):EA (k+1) n=EA k n++[UInt8.ofNat (s7 k n)]:=by simp[EA,List.range_succ]
theorem z1(n:Nat):EA 4 n=gI n:=by
 simp only[EA,List.range_succ,List.range_zero,List.nil_append,List.cons_append,List.map_cons,List.map_nil,s7,gI,Nat.div_div_eq_div_mul]
theorem wX{n b:Nat}(h:n<b):∀k,s7 k n<b
 |0=>h
 |k+1=>by have:=wX h k;simp only[s7];omega
theorem fq(n:Nat):(gI n).length=4:=rfl
def zR(l:List UInt8):List UInt8:=l++gI (cZ l)
theorem xN(x:Nat)(h:x<4294967296):(x/2) ^^^ (2197175160*(x % 2))=mT x:=by
 unfold mT
 split
 ·rename_i h1;rw[h1]
 ·rename_i h1
  have:x % 2=0:=by omega
  rw[this];simp
theorem gX(n:Nat):IntKind.u8.wrap (n:Int)=((UInt8.ofNat n).toNat:Int):=by
 simp[IntKind.wrap,IntKind.signed,IntKind.bits]
theorem GY(x:Nat)(h:x<4294967296):bits .and .u32 (x:Int) 1=((x % 2:Nat):Int):=by
 have:=u32_and_nat x 1 h (by decide)
 rw[Nat.and_one_is_mod]at this
 exact this
theorem z8(x:Nat)(h:x<4294967296):bits .xor .u32 ((x:Int)/2) (2197175160*((x % 2:Nat):Int))=((mT x:Nat):Int):=by
 have h2:x % 2=0∨x % 2=1:=by omega
 have h3:2197175160*(x % 2)<4294967296:=by rcases h2 with h2|h2 <;> rw[h2] <;> decide
 have:=u32_xor_nat (x/2) (2197175160*(x % 2)) (by omega) h3
 rw[xN x h]at this
 rw[←this]
 congr 1
theorem uG(x:Nat)(h:x<4294967296)(b:UInt8):bits .xor .u32 (x:Int) (b.toNat:Int)=((x ^^^ b.toNat:Nat):Int):=u32_xor_nat x b.toNat h (by have:=b.toNat_lt;omega)
theorem zB(x:Nat)(h:x<4294967296):bits .xor .u32 ((x:Int)/2) 2197175160=(((x/2) ^^^ 2197175160:Nat):Int):=u32_xor_nat (x/2) 2197175160 (by omega) (by decide)
theorem ox{x:Nat}(h:x<4294967296)(b:UInt8):x ^^^ b.toNat<4294967296:=Nat.xor_lt_two_pow (n:=32) h (by have:=b.toNat_lt;omega)
end Go.Hx
end
section
namespace Go.Hx
open Go.Eng
def kj:List UInt8:=[48,49,50,51,52,53,54,55,56,57,97,98,99,100,101,102]
def pV(b:UInt8):List UInt8:=[kj.getD (b.toNat/16) 0,kj.getD (b.toNat % 16) 0]
def cf(l:List UInt8):List UInt8:=l.flatMap pV
theorem dQ(l:List UInt8):(cf l).length=2*l.length:=by
 induction l with
 |nil=>rfl
 |cons a r ih=>simp only[cf,List.flatMap_cons,List.length_append,List.length_cons]at ih ⊢;rw[ih];simp[pV];omega
theorem uH(l m:List UInt8):cf (l++m)=cf l++cf m:=by simp[cf]
theorem dY{l:List UInt8}{k:Nat}(h:k<l.length):l.take (k+1)=l.take k++[l.getD k 0]:=by
 rw[List.take_succ_eq_append_getElem h];simp[List.getD,List.getElem?_eq_getElem h]
theorem ra{l:List UInt8}{k:Nat}(h:k<l.length):cf (l.take (k+1))=cf (l.take k)++pV (l.getD k 0):=by
 rw[dY h,uH];simp[cf]
theorem tX(j:Nat)(h:j<16):((bytesOf ⟨#[48,49,50,51,52,53,54,55,56,57,97,98,99,100,101,102]⟩).take (j+1)).drop j=[kj.getD j 0]:=by
 revert j;decide
theorem x4{l:List UInt8}{k:Nat}(h:k<l.length):strOf (cf (l.take k))++strOf (((bytesOf ⟨#[48,49,50,51,52,53,54,55,56,57,97,98,99,100,101,102]⟩).take ((l.getD k 0).toNat/16+1)).drop ((l.getD k 0).toNat/16))++
  strOf (((bytesOf ⟨#[48,49,50,51,52,53,54,55,56,57,97,98,99,100,101,102]⟩).take ((l.getD k 0).toNat % 16+1)).drop ((l.getD k 0).toNat % 16))=strOf (cf (l.take (k+1))):=by
 have hb:=(l.getD k 0).toNat_lt
 rw[tX _ (by omega),tX _ (by omega),dA,dA,ra h]
 simp[pV]
theorem wG(i:Int)(h0:0≤i)(h:i<16):(#[48,49,50,51,52,53,54,55,56,57,97,98,99,100,101,102]:Array UInt8)[i.toNat]? =some (kj.getD i.toNat 0):=by
 have:i.toNat<16:=by omega
 generalize i.toNat=j at this
 revert j
 decide
theorem C9(x:UInt8):(#[48,49,50,51,52,53,54,55,56,57,97,98,99,100,101,102]:Array UInt8)[((x.toNat:Int)/16).toNat]? =some (kj.getD (x.toNat/16) 0):=by
 have h:=x.toNat_lt
 rw[wG _ (by omega) (by omega)]
 rfl
theorem BW(x:UInt8):(#[48,49,50,51,52,53,54,55,56,57,97,98,99,100,101,102]:Array UInt8)[((x.toNat % 16:Nat):Int).toNat]? =some (kj.getD (x.toNat % 16) 0):=by
 rw[wG _ (by omega) (by omega)]
 rfl
theorem FK(x:UInt8):bits .and .u8 (x.toNat:Int) 15=((x.toNat % 16:Nat):Int):=by
 have:=u8_and_nat x.toNat 15 (by have:=x.toNat_lt;omega) (by decide)
 rw[show((15:Nat):Int)=15 from rfl]at this
 rw[this]
 congr 1
 exact Nat.and_two_pow_sub_one_eq_mod x.toNat 4
end Go.Hx
end
section
namespace Go.Hx
open Go.Eng
def im(c:UInt8):Int:=if 48≤c.toNat∧c.toNat≤57 then(c.toNat:Int)-48 else if 97≤c.toNat∧c.toNat≤102 then(c.toNat:Int)-87 else-1
theorem iw(c:UInt8):-1≤im c∧im c≤15:=by unfold im;split <;> (try split) <;> omega
def unhex:List UInt8→Option (List UInt8)
 | []=>some []
 | [_]=>none
 |a::b::r=>if im a<0∨im b<0 then none else(unhex r).map (UInt8.ofNat (16*(im a).toNat+(im b).toNat)::·)
theorem me:∀(l:List UInt8) (n:Nat) (a b:UInt8) (x:List UInt8),l.length=2*n→unhex l=some x→unhex (l++[a,b])=if im a<0∨im b<0 then none else some (x++[UInt8.ofNat (16*(im a).toNat+(im b).toNat)])
 | [],n,a,b,x,_,h=>by
  simp only[unhex,Option.some.injEq]at h
  subst h
  simp[unhex]
 | [c],n,a,b,x,hl,h=>by simp at hl;omega
 |c::d::r,n,a,b,x,hl,h=>by
  simp only[unhex]at h
  simp only[List.cons_append,unhex]
  split at h
  ·cases h
  ·rename_i hcd
   rw[if_neg hcd]
   simp only[Option.map_eq_some_iff]at h
   obtain⟨y,hy,rfl⟩:=h
   rw[me r (n-1) a b y (by simp at hl;omega) hy]
   split <;> simp
theorem fR:∀(l m:List UInt8) (n:Nat),l.length=2*n→unhex l=none→unhex (l++m)=none
 | [],m,n,_,h=>by simp[unhex]at h
 | [c],m,n,hl,h=>by simp at hl;omega
 |c::d::r,m,n,hl,h=>by
  simp only[unhex]at h
  simp only[List.cons_append,unhex]
  split at h
  ·rename_i hcd;rw[if_pos hcd]
  ·rename_i hcd
   rw[if_neg hcd]
   simp only[Option.map_eq_none_iff]at h
   rw[fR r m (n-1) (by simp at hl;omega) h]
   rfl
theorem nX:∀(l:List UInt8),l.length % 2=1→unhex l=none
 | [],h=>by simp at h
 | [_],_=>rfl
 |a::b::r,h=>by
  simp only[unhex]
  split
  ·rfl
  ·rw[nX r (by simp at h;omega)];rfl
theorem fN:∀(l x:List UInt8),unhex l=some x→l.length=2*x.length
 | [],x,h=>by simp[unhex]at h;subst h;rfl
 | [_],x,h=>by simp[unhex]at h
 |a::b::r,x,h=>by
  simp only[unhex]at h
  split at h
  ·cases h
  ·simp only[Option.map_eq_some_iff]at h
   obtain⟨y,hy,rfl⟩:=h
   have:=fN r y hy
   simp;omega
theorem uy(k:Nat)(h:k<16):im (kj.getD k 0)=k:=by
 revert k;decide
theorem kn:∀(l:List UInt8),unhex (cf l)=some l
 | []=>rfl
 |a::r=>by
  have ih:=kn r
  have ha:=a.toNat_lt
  have h1:=uy (a.toNat/16) (by omega)
  have h2:=uy (a.toNat % 16) (by omega)
  have e:cf (a::r)=kj.getD (a.toNat/16) 0::kj.getD (a.toNat % 16) 0::cf r:=by simp[cf,pV]
  rw[e,unhex,h1,h2,if_neg (by omega),ih]
  simp only[Option.map_some,Int.toNat_natCast]
  congr 2
  have e2:16*(a.toNat/16)+a.toNat % 16=a.toNat:=by omega
  rw[e2]
  simp
theorem Ax(a b:UInt8)(ha:0≤im a)(hb:0≤im b):16*im a+im b=((UInt8.ofNat (16*(im a).toNat+(im b).toNat)).toNat:Int):=by
 have h1:=iw a
 have h2:=iw b
 rw[UInt8.toNat_ofNat',Nat.mod_eq_of_lt (by omega)]
 omega
theorem tV{l:List UInt8}{k:Nat}(h:2*k+1<l.length):l.take (2*(k+1))=l.take (2*k)++[l.getD (2*k) 0,l.getD (2*k+1) 0]:=by
 have e:2*(k+1)=2*k+1+1:=by omega
 rw[e,dY h,dY (by omega)]
 simp
theorem AP{l m:List UInt8}(h:cf l=cf m):l=m:=by
 have:=kn l
 rw[h,kn m]at this
 simpa using this.symm
theorem p7(c:UInt8):Lib.indexByte kj c=im c:=by
 have h:∀n,n<256→Lib.indexByte kj (UInt8.ofNat n)=im (UInt8.ofNat n):=by decide+kernel
 have:=h c.toNat c.toNat_lt
 rwa [UInt8.ofNat_toNat]at this
theorem D4(a b:Int)(ha:0≤a)(ha' :a<16)(hb:0≤b)(hb' :b<16):bits .or .i64 (a*16) b=16*a+b:=by
 have h:∀n,n<16→∀m,m<16→bits .or .i64 (((n:Nat):Int)*16) ((m:Nat):Int)=16*((n:Nat):Int)+((m:Nat):Int):=by decide+kernel
 have:=h a.toNat (by omega) b.toNat (by omega)
 rwa [Int.toNat_of_nonneg ha,Int.toNat_of_nonneg hb]at this
end Go.Hx
end
section
set_option maxRecDepth 20000
namespace Go.Proofs.YtmibdabdlgmafaaGreatDoor
open Go.Eng Go.Hx
theorem Ci(g:Nat)(bt:TypeId)(x:Nat)(hx:x<4294967296)(w:World)(hb:e8 w g bt [.int .u32 (x:Int)]):
  Calls Tryz.prog 298 #[.pointer (some ⟨g,0,none⟩)] w fun e w' =>e= .returned (.tuple #[])∧Fr (fun i=>i=g) w w' ∧e8 w' g bt [.int .u32 (mT x:Nat)]:=by
 have hc:w.cell? ⟨g,0,none⟩=some (.int .u32 (x:Int)):=hb.cell rfl
 have h3:(0:Int)≤2197175160*((x % 2:Nat):Int)∧2197175160*((x % 2:Nat):Int)<4294967296:=by omega
 refine enter (N:=9) Tryz.func298 rfl rfl (by simp) ?_
 refine aW<|bc<|nq (ay rfl bZ hc)<|nq (gV (by simp) rfl rfl (GY x hx))<|nq (ab rfl)<|ba<|bB (ae (t:=1) rfl<|ae (t:=0) rfl<|aC)<|aF<|bc<|nq (ay rfl bZ hc)<|nq (oq (p:=2) rfl rfl (by decide) (by decide) (by decide))<|nq (aa rfl)<|nq (fB rfl rfl (wY h3.1 h3.2))<|nq (gV (by simp) rfl rfl (z8 x hx))<| ?_
 refine Bo (wR rfl rfl bR rfl hb (by simp) fun w1 hf1 hb1 hs1=> ?_)
 refine ba<|bB (ae (t:=1) rfl<|ae (t:=0) rfl<|aC)<| ?_
 exact GI trivial rfl ⟨rfl,hf1,hb1⟩
theorem Bk(x n:Nat)(hx:x<4294967296)(hn:n≤1000000)(w:World):
  Calls Tryz.prog 273 #[.int .u32 (x:Int),.int .i64 (n:Int)] w fun e w' =>e= .returned (.int .u32 (gk n x:Nat))∧Fr No w w' :=by
 refine enter (N:=14) Tryz.func273 rfl rfl (by simp) ?_
 refine aW<|bc<| ?_
 refine nx (pW rfl fun g w1 hg hf1 hb1=> ?_)
 refine nq (ab rfl)<|ba<|aF<|aW<|bc<|nq (kD rfl rfl)<|nq (ab rfl)<|ba<|bB (ae (t:=5) rfl<|ae (t:=4) rfl<|ae (t:=2) rfl<|ae (t:=0) rfl<|ae (t:=1) rfl<|aC)<|aF<|aW<|aW<|bc<|nq (aa rfl)<|nq (aa rfl)<|ba<|aF<|cW<| ?_
 refine kS (fun k=>n-k) (fun k=>[(2,.pointer (some ⟨g,0,none⟩)),(5,.func (.func 298) #[] #[.pointer (some ⟨g,0,none⟩)]),(7,.int .i64 (n:Int)),(8,.int .i64 (k:Nat))]) (fun k w' =>k≤n∧Fr No w w' ∧e8 w' g 166 [.int .u32 (gk k x:Nat)]) 0 (⟨Nat.zero_le _,hf1,hb1⟩) (ae (t:=2) rfl<|ae (t:=5) rfl<|ae (t:=7) rfl<|ae (t:=8) rfl<|aC) (fun k w2 ⟨hk,hf2,hb2⟩=> ?_)
 refine aW<|bc<|nq (bq rfl rfl)<|ba<|aF<|aW<| ?_
 refine nF rfl (fun h=> ?_) (fun h=> ?_)
 ·refine dN<|aF<|aW<|cW<|bc<|nq (aa rfl)<| ?_
  refine nx (w9 rfl rfl Tryz.call298 (first:=[]) (cap:=[_]) (Ci g _ _ (lN hx k) _ hb2) ?_)
  rintro e_ w3 ⟨rfl,hf3,hb3⟩
  refine⟨_,rfl, ?_⟩
  refine ba<|bB (ae (t:=9) rfl<|ae (t:=2) rfl<|ae (t:=5) rfl<|ae (t:=7) rfl<|ae (t:=8) rfl<|aC)<|ff<|aF<|bc<|nq (aM rfl rfl (bG (by omega) (by omega)))<|nq (aa rfl)<|ba<|bB (ae (t:=8) rfl<|ae (t:=9) rfl<|ae (t:=2) rfl<|ae (t:=5) rfl<|ae (t:=7) rfl<|aC)<| ?_
  refine lf (k+1) (ae (t:=2) rfl<|ae (t:=5) rfl<|ae (t:=7) rfl<|ae (t:=8) rfl<|aC) (⟨by omega,hf2.new hf3 (fun i hi=>by omega),hb3⟩) (by omega)
 ·obtain rfl:k=n:=by omega
  refine jk<|bS<|bS<|cT<|aF<|aW<|bc<|nq (ay rfl bZ ((hb2.cell rfl)))<|nq (ab rfl)<|ba<|bB (ae (t:=4) rfl<|ae (t:=9) rfl<|ae (t:=2) rfl<|ae (t:=5) rfl<|ae (t:=7) rfl<|ae (t:=8) rfl<|aC)<|aF<|dO<| ?_
  exact eW trivial rfl rfl ⟨rfl,hf2⟩
theorem CZ(A:Option Addr)(n c:Nat)(l:List UInt8)(s:Nat)(hs:s<4294967296)(w:World)(hr:Rd w 1 A n (aV l))(hn:n≤140737488351232):
  Calls Tryz.prog 232 #[.int .u32 (s:Int),.slice A n c] w fun e w' =>e= .returned (.int .u32 (4294967295-kv (4294967295-s) l:Nat))∧Fr No w w' :=by
 have hl:l.length=n:=by have:=hr.1;rw[az]at this;omega
 refine enter (N:=25) Tryz.func232 rfl rfl (by simp) ?_
 refine aW<|bc<|nq (ab rfl)<|ba<|aF<|aW<|bc<|nq (aa rfl)<|nq (yV (sf rfl hs) (congrArg (fun n:Nat=>Value.int .u32 (n:Int)) (ur hs)))<|nq (ab rfl)<|ba<|bB (ae (t:=5) rfl<|ae (t:=4) rfl<|ae (t:=0) rfl<|ae (t:=1) rfl<|aC)<|aF<|aW<|aW<|bc<|nq (aa rfl)<|nq (aS rfl Tryz.underlying27)<|nq (aa rfl)<|ba<|bB (ae (t:=11) rfl<|ae (t:=10) rfl<|ae (t:=5) rfl<|ae (t:=4) rfl<|ae (t:=0) rfl<|ae (t:=1) rfl<|aC)<|aF<|cW<| ?_
 refine kS (fun k=>n-k) (fun k=>[(1,.slice A n c),(5,.int .u32 (kv (4294967295-s) (l.take k):Nat)),(10,.int .i64 (n:Int)),(11,.int .i64 (k:Nat))]) (fun k w' =>k≤n∧Fr No w w') 0 (⟨Nat.zero_le _,Fr.refl _ _⟩) (ae (t:=1) rfl<|ae (t:=5) rfl<|ae (t:=10) rfl<|ae (t:=11) rfl<|aC) (fun k w2 ⟨hk,hf2⟩=> ?_)
 refine aW<|bc<|nq (bq rfl rfl)<|ba<|aF<|aW<| ?_
 refine nF rfl (fun h=> ?_) (fun h=> ?_)
 ·have hkn:k<l.length:=by omega
  have hm:=nB (n:=4294967295-s) (by omega) (l.take k)
  have hbt:=(l.getD k 0).toNat_lt
  have r2:=hr.mU hf2
  refine dN<|aF<|aW<|cW<|aW<|bc<|nq (aa rfl)<|nq (ab rfl)<|ba<|bB (ae (t:=6) rfl<|ae (t:=12) rfl<|ae (t:=1) rfl<|ae (t:=5) rfl<|ae (t:=10) rfl<|ae (t:=11) rfl<|aC)<|aF<|bc<|nq (aa rfl)<|nq (aa rfl)<|nq (aa rfl)<|nq (aT rfl rfl Tryz.underlying27 ea r2.2.1 rfl (by omega))<|nq (ay rfl iX (r2.cell (bL hkn)))<|nq (bX rfl Tryz.underlying5 Tryz.underlying166 ((wY (by omega) (by omega))))<|nq (gV (by simp) rfl rfl (uG _ hm _))<| ?_
  refine nx (eh rfl Tryz.call273 (Bk _ 8 (ox hm _) (by decide) _) ?_)
  rintro e_ w3 ⟨rfl,hf3⟩
  refine⟨_,rfl, ?_⟩
  rw[←pT,←Go.Hx.dY hkn]
  refine nq (ab rfl)<|ba<|bB (ae (t:=5) rfl<|ae (t:=6) rfl<|ae (t:=12) rfl<|ae (t:=1) rfl<|ae (t:=10) rfl<|ae (t:=11) rfl<|aC)<|ff<|aF<|bc<|nq (aM rfl rfl (bG (by omega) (by omega)))<|nq (aa rfl)<|ba<|bB (ae (t:=11) rfl<|ae (t:=5) rfl<|ae (t:=6) rfl<|ae (t:=12) rfl<|ae (t:=1) rfl<|ae (t:=10) rfl<|aC)<| ?_
  refine lf (k+1) (ae (t:=1) rfl<|ae (t:=5) rfl<|ae (t:=10) rfl<|ae (t:=11) rfl<|aC) (⟨by omega,hf2.cy hf3⟩) (by omega)
 ·obtain rfl:k=n:=by omega
  have hm:=nB (n:=4294967295-s) (by omega) (l.take k)
  refine jk<|bS<|bS<|cT<|aF<|aW<|bc<|nq (aa rfl)<|nq (sf rfl hm)<|nq (ab rfl)<|ba<|bB (ae (t:=4) rfl<|ae (t:=12) rfl<|ae (t:=1) rfl<|ae (t:=5) rfl<|ae (t:=10) rfl<|ae (t:=11) rfl<|aC)<|aF<|dO<| ?_
  rw[List.take_of_length_le (by omega)]at hm ⊢
  rw[ur hm]
  exact eW trivial rfl rfl ⟨rfl,hf2⟩
theorem zu(A:Option Addr)(n c:Nat)(l:List UInt8)(w:World)(hr:Rd w 1 A n (aV l))(hn:n≤140737488351232):
  Calls Tryz.prog 180 #[.slice A n c] w fun e w' =>e= .returned (.int .u32 (cZ l:Nat))∧Fr No w w' :=by
 refine enter (N:=5) Tryz.func180 rfl rfl (by simp) ?_
 refine aW<|bc<|nq (ab rfl)<|ba<|aF<|aW<|bc<|nq (aa rfl)<| ?_
 refine nx (eh rfl Tryz.call232 (CZ A n c l 0 (by decide) w hr hn) ?_)
 rintro e_ w1 ⟨rfl,hf1⟩
 refine⟨_,rfl, ?_⟩
 refine nq (ab rfl)<|ba<|bB (ae (t:=2) rfl<|ae (t:=0) rfl<|aC)<|aF<|dO<| ?_
 exact eW trivial rfl rfl ⟨rfl,hf1⟩
theorem clone(A:Option Addr)(n c:Nat)(l:List UInt8)(w:World)(hr:Rd w 1 A n (aV l))(hn:n≤140737488351232):
  Calls Tryz.prog 117 #[.slice A n c] w fun e w' =>∃v,e= .returned v∧Go.Eng.Own w' w.heap.size 5 1 v n (aV l)∧Fr No w w' :=by
 have hl:l.length=n:=by have:=hr.1;rw[az]at this;omega
 refine enter (N:=8) Tryz.func117 rfl rfl (by simp) ?_
 refine aW<|bc<|nq (ab rfl)<|ba<|aF<|aW<|aW<|bc<|nq (aa rfl)<|nq (Er rfl rfl Tryz.underlying27)<|ba<|bB (ae (t:=4) rfl<|ae (t:=2) rfl<|ae (t:=0) rfl<|aC)<|aF<| ?_
 cases A with
 |none=>
  have h0:n=0:=by
   rcases Nat.eq_zero_or_pos n with h|h
   ·exact h
   ·exact absurd rfl (hr.2.1 h)
  subst h0
  obtain rfl:l=[]:=List.eq_nil_of_length_eq_zero hl
  refine xO rfl (rfl) ?_
  refine aW<|bc<|nq (ab rfl)<|ba<|aF<|dO<|bF<| ?_
  exact eW trivial rfl rfl ⟨_,rfl,Own.nil _ _ _ _,Fr.refl _ _⟩
 |some a=>
  refine qb rfl (rfl) ?_
  refine dN<|aF<|aW<|bc<| ?_
  refine nx (DX Tryz.underlying27 fa fun g w1 hg hf1 hb1=> ?_)
  refine nq (aa rfl)<| ?_
  refine nx (kL rfl rfl Tryz.underlying27 Tryz.underlying27 (by exact .inl rfl) fa rfl (Own.Ga hb1 hg) (Src.bP (hr.mU hf1)) gL (by unfold maxLen;omega) (by omega) hf1.size fun v w2 ho hf2 hv=> ?_)
  refine nq (ab rfl)<|ba<|bB (ae (t:=2) rfl<|ae (t:=4) rfl<|ae (t:=0) rfl<|aC)<|aF<|dO<| ?_
  refine eW trivial rfl rfl ⟨v,rfl, ?_,hf1.new hf2 (fun i hi=>by have:i=g:=hi;omega)⟩
  simpa using ho
theorem A7(A:Option Addr)(n c:Nat)(l:List UInt8)(s:Nat)(hs:s<4294967296)(w:World)(hr:Rd w 1 A n (aV l))(hn:n≤140737488351232):
  Calls Tryz.prog 243 #[.int .u32 (s:Int),.slice A n c] w fun e w' =>e= .returned (.int .u32 (4294967295-kv (4294967295-s) l:Nat))∧w=w' :=by
 have hl:l.length=n:=by have:=hr.1;rw[az]at this;omega
 refine enter (N:=37) Tryz.func243 rfl rfl (by simp) ?_
 refine aW<|bc<|nq (ab rfl)<|ba<|aF<|aW<|bc<|nq (aa rfl)<|nq (cn rfl rfl ((show IntKind.u32.wrap (4294967295-(s:Int))=((4294967295-s:Nat):Int) by rw[wY (by omega) (by omega)];omega)))<|nq (ab rfl)<|ba<|bB (ae (t:=5) rfl<|ae (t:=4) rfl<|ae (t:=0) rfl<|ae (t:=1) rfl<|aC)<|aF<|aW<|aW<|bc<|nq (ab rfl)<|ba<|aF<|cW<| ?_
 refine kS (fun k=>n-k) (fun k=>[(1,.slice A n c),(5,.int .u32 (kv (4294967295-s) (l.take k):Nat)),(6,.int .i64 (k:Nat))]) (fun k w' =>k≤n∧w=w') 0 (⟨Nat.zero_le _,rfl⟩) (ae (t:=1) rfl<|ae (t:=5) rfl<|ae (t:=6) rfl<|aC) (fun k w2 ⟨hk,hw⟩=> ?_)
 obtain rfl:=hw
 refine aW<|aW<|bc<|nq (aa rfl)<|nq (aa rfl)<|nq (aS rfl Tryz.underlying27)<|nq (bq rfl rfl)<|ba<|bB (ae (t:=13) rfl<|ae (t:=1) rfl<|ae (t:=5) rfl<|ae (t:=6) rfl<|aC)<|aF<| ?_
 refine nF rfl (fun h=> ?_) (fun h=> ?_)
 ·have hkn:k<l.length:=by omega
  have hm:=nB (n:=4294967295-s) (by omega) (l.take k)
  have hbt:=(l.getD k 0).toNat_lt
  have hx:=ox hm (l.getD k 0)
  refine dN<|aF<|aW<|cW<|aW<|bc<|nq (aa rfl)<|nq (aa rfl)<|nq (aa rfl)<|nq (aT rfl rfl Tryz.underlying27 ea hr.2.1 rfl (by omega))<|nq (ay rfl iX (hr.cell (bL hkn)))<|nq (bX rfl Tryz.underlying5 Tryz.underlying166 ((wY (by omega) (by omega))))<|nq (gV (by simp) rfl rfl (uG _ hm _))<|nq (ab rfl)<|ba<|bB (ae (t:=5) rfl<|ae (t:=13) rfl<|ae (t:=1) rfl<|ae (t:=6) rfl<|aC)<|aF<|aW<|bc<|nq (ab rfl)<|ba<|aF<|cW<| ?_
  generalize hX:kv (4294967295-s) (l.take k) ^^^ (l.getD k 0).toNat=X at hx
  refine kS (fun q=>8-q) (fun q=>[(1,.slice A n c),(5,.int .u32 (gk q X:Nat)),(6,.int .i64 (k:Nat)),(7,.int .i64 (q:Nat))]) (fun q w' =>q≤8∧w=w') 0 (⟨Nat.zero_le _,rfl⟩) (ae (t:=1) rfl<|ae (t:=5) rfl<|ae (t:=6) rfl<|ae (t:=7) rfl<|aC) (fun q w3 ⟨hq,hw⟩=> ?_)
  obtain rfl:=hw
  have hc:=lN hx q
  refine aW<|aW<|bc<|nq (aa rfl)<|nq (bq rfl rfl)<|ba<|bB (ae (t:=24) rfl<|ae (t:=1) rfl<|ae (t:=5) rfl<|ae (t:=6) rfl<|ae (t:=7) rfl<|aC)<|aF<| ?_
  refine nF rfl (fun h2=> ?_) (fun h2=> ?_)
  ·refine dN<|aF<|aW<|cW<|aW<|bc<|nq (aa rfl)<|nq (gN rfl rfl (by omega) (by omega))<|nq (cJ rfl rfl)<|ba<|bB (ae (t:=29) rfl<|ae (t:=24) rfl<|ae (t:=1) rfl<|ae (t:=5) rfl<|ae (t:=6) rfl<|ae (t:=7) rfl<|aC)<|aF<| ?_
   refine nF rfl (fun h3=> ?_) (fun h3=> ?_)
   ·refine bc<|nq (aa rfl)<|nq (ky rfl rfl (by omega) (by omega) (wY (by omega) (by omega)))<|nq (gV (by simp) rfl rfl (zB _ hc))<|nq (ab rfl)<|ba<|bB (ae (t:=5) rfl<|ae (t:=29) rfl<|ae (t:=24) rfl<|ae (t:=1) rfl<|ae (t:=6) rfl<|ae (t:=7) rfl<|aC)<|ff<|aF<|bc<|nq (aa rfl)<|nq (aM rfl rfl (bG (by omega) (by omega)))<|nq (ab rfl)<|ba<|bB (ae (t:=7) rfl<|ae (t:=5) rfl<|ae (t:=29) rfl<|ae (t:=24) rfl<|ae (t:=1) rfl<|ae (t:=6) rfl<|aC)<| ?_
    rw[show gk q X/2 ^^^ 2197175160=gk (q+1) X by rw[gk,mT,if_pos (by omega)]]
    refine lf (q+1) (ae (t:=1) rfl<|ae (t:=5) rfl<|ae (t:=6) rfl<|ae (t:=7) rfl<|aC) (⟨by omega,rfl⟩) (by omega)
   ·refine bc<|nq (aa rfl)<|nq (ky rfl rfl (by omega) (by omega) (wY (by omega) (by omega)))<|nq (ab rfl)<|ba<|bB (ae (t:=5) rfl<|ae (t:=29) rfl<|ae (t:=24) rfl<|ae (t:=1) rfl<|ae (t:=6) rfl<|ae (t:=7) rfl<|aC)<|ff<|aF<|bc<|nq (aa rfl)<|nq (aM rfl rfl (bG (by omega) (by omega)))<|nq (ab rfl)<|ba<|bB (ae (t:=7) rfl<|ae (t:=5) rfl<|ae (t:=29) rfl<|ae (t:=24) rfl<|ae (t:=1) rfl<|ae (t:=6) rfl<|aC)<| ?_
    rw[show(gk q X:Int)/2=((gk (q+1) X:Nat):Int) by rw[gk,mT,if_neg (by omega)];omega]
    refine lf (q+1) (ae (t:=1) rfl<|ae (t:=5) rfl<|ae (t:=6) rfl<|ae (t:=7) rfl<|aC) (⟨by omega,rfl⟩) (by omega)
  ·obtain rfl:q=8:=by omega
   refine jk<|bS<|bS<|cT<|ff<|aF<|bc<|nq (aa rfl)<|nq (aM rfl rfl (bG (by omega) (by omega)))<|nq (ab rfl)<|ba<|bB (ae (t:=6) rfl<|ae (t:=24) rfl<|ae (t:=1) rfl<|ae (t:=5) rfl<|ae (t:=7) rfl<|aC)<| ?_
   rw[←hX,←pT,←Go.Hx.dY hkn]
   refine lf (k+1) (ae (t:=1) rfl<|ae (t:=5) rfl<|ae (t:=6) rfl<|aC) (⟨by omega,rfl⟩) (by omega)
 ·obtain rfl:k=n:=by omega
  have hm:=nB (n:=4294967295-s) (by omega) (l.take k)
  refine jk<|bS<|bS<|cT<|aF<|aW<|bc<|nq (aa rfl)<|nq (cn rfl rfl ((show IntKind.u32.wrap (4294967295-((kv (4294967295-s) (l.take k):Nat):Int))=((4294967295-kv (4294967295-s) (l.take k):Nat):Int) by rw[wY (by omega) (by omega)];omega)))<|nq (ab rfl)<|ba<|bB (ae (t:=4) rfl<|ae (t:=13) rfl<|ae (t:=1) rfl<|ae (t:=5) rfl<|ae (t:=6) rfl<|aC)<|aF<|dO<| ?_
  rw[List.take_of_length_le (by omega)]
  exact eW trivial rfl rfl ⟨rfl,rfl⟩
theorem CF(A:Option Addr)(n c:Nat)(l:List UInt8)(w:World)(hr:Rd w 1 A n (aV l))(hn:n≤70368744177664):
  Calls Tryz.prog 189 #[.slice A n c] w fun e w' =>∃v,e= .returned v∧Go.Eng.Own w' w.heap.size 5 1 v (n+4) (aV (zR l))∧Fr No w w' :=by
 have hl:l.length=n:=by have:=hr.1;rw[az]at this;omega
 refine enter (N:=24) Tryz.func189 rfl rfl (by simp) ?_
 refine aW<|bc<|nq (ab rfl)<|ba<|aF<|aW<|bc<|nq (aa rfl)<| ?_
 refine nx (eh rfl Tryz.call243 (A7 A n c l 0 (by decide) w hr (by omega)) ?_)
 rintro e_ w1 ⟨rfl,rfl⟩
 refine⟨_,rfl, ?_⟩
 refine nq (ab rfl)<|ba<|bB (ae (t:=3) rfl<|ae (t:=2) rfl<|ae (t:=0) rfl<|aC)<|aF<|aW<|bc<|nq (ab rfl)<|ba<|aF<|aW<|bc<|nq (aa rfl)<|nq (aa rfl)<| ?_
 refine nx (kL rfl rfl Tryz.underlying27 Tryz.underlying27 (by exact .inl rfl) fa rfl (Own.nil w w.heap.size _ 1) (Src.bP hr) gL (by unfold maxLen;omega) (by omega) (Nat.le_refl _) fun v w2 hv hf2 hvv=> ?_)
 have hlt:=jL l
 have f2:Fr No w w2:=hf2.mono (fun _ _ e=>e.elim)
 refine nq (ab rfl)<|ba<|bB (ae (t:=4) rfl<|ae (t:=3) rfl<|ae (t:=2) rfl<|ae (t:=0) rfl<|aC)<|aF<|aW<|aW<|bc<|nq (ab rfl)<|ba<|aF<|cW<| ?_
 refine sd (fun k _=>4-k) (fun k v=>[(3,.int .u32 (s7 k (cZ l):Nat)),(4,v),(5,.int .i64 (k:Nat))]) (fun k v w' =>k≤4∧Go.Eng.Own w' w.heap.size 5 1 v (n+k) (aV (l++EA k (cZ l)))∧Fr No w w') 0 v (⟨Nat.zero_le _,by simpa[EA]using hv,f2⟩) (ae (t:=3) rfl<|ae (t:=4) rfl<|ae (t:=5) rfl<|aC) (fun k v w3 ⟨hk,ho,hf⟩=> ?_)
 refine aW<|aW<|bc<|nq (aa rfl)<|nq (bq rfl rfl)<|ba<|bB (ae (t:=12) rfl<|ae (t:=3) rfl<|ae (t:=4) rfl<|ae (t:=5) rfl<|aC)<|aF<| ?_
 refine nF rfl (fun h=> ?_) (fun h=> ?_)
 ·have hs8:=wX hlt k
  refine dN<|aF<|aW<|cW<|aW<|bc<|nq (aa rfl)<|nq (aa rfl)<|nq (gN rfl rfl (by omega) (by omega))<|nq (bX rfl Tryz.underlying166 Tryz.underlying5 ((show IntKind.u8.wrap (((s7 k (cZ l):Nat):Int) % 256)=((UInt8.ofNat (s7 k (cZ l))).toNat:Int) by simp[IntKind.wrap,IntKind.signed,IntKind.bits])))<| ?_
  refine nx (na Tryz.underlying27 fa rfl rfl rfl (by simp[Value.cells,B8]) (by decide) (by decide) fun g w4 hg hf4 hb4=> ?_)
  refine nx (kL rfl rfl Tryz.underlying27 Tryz.underlying27 (by exact .inl rfl) fa rfl (ho.mU hf4) (Src.gi hb4 rfl) (aZ (l:=[_])) (by unfold maxLen;omega) (by omega) (hf.cy hf4).size fun v5 w5 ho5 hf5 hv5=> ?_)
  refine nq (ab rfl)<|ba<|bB (ae (t:=4) rfl<|ae (t:=12) rfl<|ae (t:=3) rfl<|ae (t:=5) rfl<|aC)<|aF<|bc<|nq (aa rfl)<|nq (ky rfl rfl (by omega) (by omega) (wY (by omega) (by omega)))<|nq (ab rfl)<|ba<|bB (ae (t:=3) rfl<|ae (t:=4) rfl<|ae (t:=12) rfl<|ae (t:=5) rfl<|aC)<|ff<|aF<|bc<|nq (aa rfl)<|nq (aM rfl rfl (bG (by omega) (by omega)))<|nq (ab rfl)<|ba<|bB (ae (t:=5) rfl<|ae (t:=3) rfl<|ae (t:=4) rfl<|ae (t:=12) rfl<|aC)<| ?_
  refine pN (k+1) v5 (ae (t:=3) rfl<|ae (t:=4) rfl<|ae (t:=5) rfl<|aC) (⟨by omega,by rw[y7,←List.append_assoc,bH];exact ho5,(hf.cy hf4).new hf5 (fun i hi=>(ho.from hi).1)⟩) (by omega)
 ·obtain rfl:k=4:=by omega
  refine jk<|bS<|bS<|cT<|aF<|aW<|bc<|nq (aa rfl)<|nq (ab rfl)<|ba<|bB (ae (t:=2) rfl<|ae (t:=12) rfl<|ae (t:=3) rfl<|ae (t:=4) rfl<|ae (t:=5) rfl<|aC)<|aF<|dO<| ?_
  rw[z1]at ho
  exact eW trivial rfl rfl ⟨v,rfl,ho,hf⟩
end Go.Proofs.YtmibdabdlgmafaaGreatDoor
end
section
set_option maxRecDepth 20000
namespace Go.Proofs.YtmibdabdlgmafaaGreatDoor
open Go.Eng Go.Hx
theorem vj(A:Option Addr)(n c:Nat)(l:List UInt8)(A' :Option Addr)(n' c' :Nat)(l' :List UInt8)(w:World)(hr:Rd w 1 A n (aV l))(hr' :Rd w 1 A' n' (aV l')):
  Calls Tryz.prog 215 #[.slice A n c,.slice A' n' c'] w fun e w' =>e= .returned (.bool (decide (l=l')))∧w=w' :=by
 refine enter (N:=10) Tryz.func215 rfl rfl (by simp) ?_
 refine aW<|bc<|nq (ab rfl)<|ba<|aF<|aW<|bc<|nq (aa rfl)<|nq (kB rfl Tryz.underlying27 Tryz.underlying5 Tryz.underlying9 hr)<|nq (aa rfl)<|nq (kB rfl Tryz.underlying27 Tryz.underlying5 Tryz.underlying9 hr')<|nq (rj rfl rfl)<|nq (ab rfl)<|ba<|bB (ae (t:=4) rfl<|ae (t:=0) rfl<|ae (t:=1) rfl<|aC)<|aF<|dO<| ?_
 refine eW trivial rfl rfl ⟨?_,rfl⟩
 simp only[cI]
end Go.Proofs.YtmibdabdlgmafaaGreatDoor
end
section
set_option maxRecDepth 20000
namespace Go.Proofs.YtmibdabdlgmafaaGreatDoor
open Go.Eng Go.Hx
theorem oG{A A1:Option Addr}{n c n1 c1:Nat}{l l1:List UInt8}:ck Tryz.prog 215 [.slice A n c,.slice A1 n1 c1] [] [dr 1 A n (aV l),dr 1 A1 n1 (aV l1)] (fun v_ X_ S_=>v_=(.bool (decide (l=l1)))∧X_=[]∧S_=[]):=by
 exact fP fun m=>Calls.mono (vj A n c l A1 n1 c1 l1 _ (m.rd 0 rfl) (m.rd 1 rfl)) (fun e w' ⟨h,hw⟩=>⟨_,h,⟨rfl,rfl,rfl⟩,hw▸Fr.refl _ _⟩)
theorem su{A:Option Addr}{n c:Nat}{l:List UInt8}(hn:n≤140737488351232):ck Tryz.prog 117 [.slice A n c] [] [dr 1 A n (aV l)] (fun v_ X_ S_=>∃v,v_=v∧X_=[aG 5 1 v n (aV l)]∧S_=[]):=by
 exact kN fun m=>Calls.mono (clone A n c l _ (m.rd 0 rfl) hn) (fun e w' ⟨v,h,ho,hf⟩=>⟨v,v,_,_,_,_,h,⟨v,rfl,rfl,rfl⟩,ho,hf⟩)
end Go.Proofs.YtmibdabdlgmafaaGreatDoor
end
section
set_option maxRecDepth 20000
namespace Go.Proofs.YtmibdabdlgmafaaGreatDoor
open Go.Eng Go.Hx
def fh:bn:=dr 1 (some ⟨1,0,none⟩) 64 (ei fM)
theorem Ff{n:Nat}(h0:0<n)(hn:n<32):IntKind.u64.wrap (-(n:Int))=((18446744073709551616-n:Nat):Int):=by
 simp[IntKind.wrap,IntKind.signed,IntKind.bits]
 omega
theorem AN{n:Nat}(h0:0<n)(hn:n<32):bits .and .u64 ((18446744073709551616-n:Nat):Int) 31=((32-n:Nat):Int):=by
 have h:=u64_and_nat (18446744073709551616-n) 31 (by omega) (by decide)
 rw[show((31:Nat):Int)=31 from rfl]at h
 rw[h,show(31:Nat)=2 ^ 5-1 from rfl,Nat.and_two_pow_sub_one_eq_mod]
 congr 1
 show(18446744073709551616-n) % 32=32-n
 omega
theorem vm{x:UInt32}{n:Nat}(h0:0<n)(hn:n<32):ck Tryz.prog 296 [Wd x,.int .i64 (-(n:Int))] [] [] (fun v_ X_ S_=>v_=(Wd (kT n x))∧X_=[]∧S_=[]):=by
 refine aP (N:=17) Tryz.func296 rfl rfl (by simp) fun b=> ?_
 have hs:IntKind.u64.wrap (32-((32-n:Nat):Int))=(n:Int):=by
  rw[show(32:Int)-((32-n:Nat):Int)=(n:Int) by omega]
  simp[IntKind.wrap,IntKind.signed,IntKind.bits]
  omega
 refine ah<|aj<|hy (fun _=>ab rfl)<|ai<|ag<|ah<|aj<|hy (fun _=>aa rfl)<|hy (fun _=>bX rfl Tryz.underlying3 Tryz.underlying263 (Ff h0 hn))<|hy (fun _=>gV (by simp) rfl rfl (AN h0 hn))<|hy (fun _=>ab rfl)<|ai<|al (ρ' :=[(5,_),(4,_),(0,_),(1,_)]) ⟨rfl,rfl,rfl,rfl,trivial⟩<|ag<|ah<|aj<|hy (fun _=>aa rfl)<|hy (fun _=>aa rfl)<|hy (fun _=>(AG (k:=32-n) (by omega) rfl rfl))<|hy (fun _=>aa rfl)<|hy (fun _=>aa rfl)<|hy (fun _=>cn rfl rfl hs)<|hy (fun _=>(yN (k:=n) hn rfl rfl))<|hy (fun _=>yV (Dx rfl rfl) ((show Wd (UInt32.ofNat (x.toNat*2 ^ (32-n)) ||| UInt32.ofNat (x.toNat/2 ^ n))=Wd (kT n x) by rw[Cr h0 hn])))<|hy (fun _=>ab rfl)<|ai<|al (ρ' :=[(4,_),(5,_),(0,_),(1,_)]) ⟨rfl,rfl,rfl,rfl,trivial⟩<|ag<|aX<| ?_
 exact bg trivial rfl rfl [] rfl [] rfl ⟨rfl,rfl,rfl⟩
theorem wW{x:UInt32}{n1 n2 n3:Nat}(h1:0<n1∧n1<32)(h2:0<n2∧n2<32)(h3:0<n3∧n3<32):ck Tryz.prog 269 [Wd x,.int .i64 (n1:Int),.int .i64 (n2:Int),.int .i64 (n3:Int)] [] [] (fun v_ X_ S_=>v_=(Wd (turns n1 n2 n3 x))∧X_=[]∧S_=[]):=by
 refine aP (N:=23) Tryz.func269 rfl rfl (by simp) fun b=> ?_
 refine ah<|aj<|hy (fun _=>ab rfl)<|ai<|ag<|ah<|aj<|hy (fun _=>aa rfl)<|hy (fun _=>aa rfl)<|hy (fun _=>wH rfl (bG (by omega) (by omega)))<| ?_
 refine hx (aq rfl Tryz.call296 (vm h1.1 h1.2 (n:=n1)) [] rfl [] rfl ?_)
 rintro _ _ _ ⟨rfl,rfl,rfl⟩
 refine hy (fun _=>aa rfl)<|hy (fun _=>aa rfl)<|hy (fun _=>wH rfl (bG (by omega) (by omega)))<| ?_
 refine hx (aq rfl Tryz.call296 (vm h2.1 h2.2 (n:=n2)) [] rfl [] rfl ?_)
 rintro _ _ _ ⟨rfl,rfl,rfl⟩
 refine hy (fun _=>er rfl rfl)<|hy (fun _=>aa rfl)<|hy (fun _=>aa rfl)<|hy (fun _=>wH rfl (bG (by omega) (by omega)))<| ?_
 refine hx (aq rfl Tryz.call296 (vm h3.1 h3.2 (n:=n3)) [] rfl [] rfl ?_)
 rintro _ _ _ ⟨rfl,rfl,rfl⟩
 refine hy (fun _=>er rfl rfl)<|hy (fun _=>ab rfl)<|ai<|al (ρ' :=[(8,_),(0,_),(1,_),(2,_),(3,_)]) ⟨rfl,rfl,rfl,rfl,rfl,trivial⟩<|ak (X' :=[]) (S' :=[]) (fun _ m=>m)<|ag<|aX<| ?_
 exact bg trivial rfl rfl [] rfl [] rfl ⟨rfl,rfl,rfl⟩
theorem nj{a:List UInt32}{i k n:Nat}(ha:a.length=i)(hk:k<i):(ei (a++List.replicate n 0))[k]? =some (Wd (a.getD k 0)):=by
 rw[bo (by simp;omega)]
 simp[List.getD,List.getElem?_append_left (show k<a.length by omega)]
theorem CX{a r:List UInt32}{i:Nat}{x:UInt32}(ha:a.length=i):(ei (a++x::r))[i]? =some (Wd x):=by
 subst ha
 simp[ei]
theorem w7{a r:List UInt32}{i:Nat}{x y:UInt32}(ha:a.length=i):(ei (a++x::r)).set i (Wd y)=ei (a++y::r):=by
 subst ha
 simp[ei,List.set_append]
theorem vT{a r:List UInt32}{y:UInt32}:a++y::r=(a++[y])++r:=by simp
theorem Fk{A:Option Addr}{c:Nat}{l:List UInt8}(hc:64≤c):ck Tryz.prog 268 [.slice A 64 c] [] [dr 1 A 64 (aV l)] (fun v_ X_ S_=>v_=(.agg (ei (wl l 64)).toArray)∧X_=[]∧S_=[]):=by
 refine aP (N:=75) Tryz.func268 rfl rfl (by simp) fun b=> ?_
 refine aY (fun m=>gY (m.rd 0 rfl)) ?_
 rintro⟨hl_r,hA_r⟩
 have hl:l.length=64:=hl_r
 refine ah<|aj<| ?_
 refine hx (aN yG (fun g2=> ?_))
 refine ai<|ak (X' :=[_]) (S' :=[_]) (fun _ m=>m)<|ag<|ah<|aj<| ?_
 refine hx (aN yG (fun g3=> ?_))
 refine aO (fun w m=>m.bQ 0 rfl (show _=aL g3 354 (ei (wl l 0++List.replicate (64-0) 0))from rfl)) ?_
 refine ai<|ak (X' :=[_,_]) (S' :=[_]) (fun _ m=>m)<|ag<|ah<|ah<|aj<|hy (fun _=>aa rfl)<|ai<|ag<|aI<| ?_
 refine dx (fun i=>64-i) (fun i=>[(9,.int .i64 (i:Nat))]) (fun i=>[aL g3 354 (ei (wl l i++List.replicate (64-i) 0))]) (fun i=>[]) (fun i=>i≤64) 0 [(3,_),(2,_),(0,_)] ⟨rfl,rfl,rfl,trivial⟩ [0] rfl [] rfl (Nat.zero_le _) ⟨rfl,trivial⟩ (fun i hI=> ?_)
 have hwl:=fD l i
 refine ah<|aj<|hy (fun _=>bq rfl rfl)<|ai<|ag<|ah<| ?_
 refine cD rfl (fun h=> ?_) (fun h=> ?_)
 ·have hr64:(List.replicate (64-i) (0:UInt32))=0::List.replicate (63-i) 0:=by rw[show 64-i=(63-i)+1 by omega,List.replicate_succ]
  have hr63:(64-(i+1))=63-i:=by omega
  refine aD<|ag<|ah<|aI<|ah<|aj<|hy (fun _=>aa rfl)<|hy (fun _=>ab rfl)<|ai<|al (ρ' :=[(4,_),(10,_),(9,_),(3,_),(2,_),(0,_)]) ⟨rfl,rfl,rfl,rfl,rfl,rfl,trivial⟩<|ag<|ah<|ah<|aj<|hy (fun _=>aa rfl)<|hy (fun _=>bq rfl rfl)<|ai<|al (ρ' :=[(13,_),(4,_),(10,_),(9,_),(3,_),(2,_),(0,_)]) ⟨rfl,rfl,rfl,rfl,rfl,rfl,rfl,trivial⟩<|ag<| ?_
  refine cD rfl (fun h16=> ?_) (fun h16=> ?_)
  ·have hws:wl l (i+1)=wl l i++[k8 l (4*i)]:=by rw[wl,if_pos (by omega)]
   refine bx (fun w m=>m.iW 0 rfl (View.sub (k:=4*i) (m:=4) hc (by omega))) ?_
   refine aY (fun m=>gY (m.rd 0 rfl)) ?_
   rintro⟨hl_r4,hA_r4⟩
   refine ah<|ah<|aj<|hy (fun _=>aa rfl)<|hy (fun _=>aa rfl)<|hy (fun _=>fB rfl rfl (bG (by omega) (by omega)))<|hy (fun _=>aa rfl)<|hy (fun _=>fB rfl rfl (bG (by omega) (by omega)))<|hy (fun _=>aM rfl rfl (bG (by omega) (by omega)))<|hy (fun _=>yV (eS rfl rfl rfl Tryz.underlying27 ea (show((4*i:Nat):Int)=_ by omega) (show((4*i+4:Nat):Int)=_ by omega) (by omega) (by omega)) ((show Value.slice (if c=4*i then A else A.map (·.add (4*i*1))) (4*i+4-4*i) (c-4*i)= .slice (if c=4*i then A else A.map (·.add (4*i*1))) 4 (c-4*i) by rw[Nat.add_sub_cancel_left])))<|hy (fun _=>aS rfl Tryz.underlying27)<|hy (fun _=>aa rfl)<|ai<|al (ρ' :=[(22,_),(21,_),(20,_),(13,_),(4,_),(10,_),(9,_),(3,_),(2,_),(0,_)]) ⟨rfl,rfl,rfl,rfl,rfl,rfl,rfl,rfl,rfl,rfl,trivial⟩<|ag<|aI<| ?_
   refine bx (fun w m=>m.bQ 0 rfl (show _=aL g3 354 (ei (wl l i++UInt32.ofNat (wp l (4*i) 0)::List.replicate (63-i) 0))from by rw[hr64];rfl)) ?_
   refine dx (fun j=>4-j) (fun j=>[(22,.int .i64 (j:Nat))]) (fun j=>[aL g3 354 (ei (wl l i++UInt32.ofNat (wp l (4*i) j)::List.replicate (63-i) 0))]) (fun j=>[]) (fun j=>j≤4) 0 [(21,_),(20,_),(13,_),(4,_),(10,_),(9,_),(3,_),(2,_),(0,_)] ⟨rfl,rfl,rfl,rfl,rfl,rfl,rfl,rfl,rfl,trivial⟩ [0] rfl [] rfl (Nat.zero_le _) ⟨rfl,trivial⟩ (fun j hj4=> ?_)
   refine ah<|aj<|hy (fun _=>bq rfl rfl)<|ai<|ag<|ah<| ?_
   refine cD rfl (fun hj=> ?_) (fun hj=> ?_)
   ·have hgl:((l.drop (4*i)).take 4).getD j 0=l.getD (4*i+j) 0:=by
     simp[List.getD,List.getElem?_take,List.getElem?_drop,show j<4 by omega]
    refine aD<|ag<|ah<|aI<|ah<|aj<|hy (fun _=>aT rfl rfl Tryz.underlying27 ea hA_r4 rfl (by omega))<|hy (fun m=>ay rfl iX ((m.rd 0 rfl).cell (bL (by omega))))<|hy (fun _=>ab rfl)<|ai<|al (ρ' :=[(6,_),(23,_),(22,_),(21,_),(20,_),(13,_),(4,_),(10,_),(9,_),(3,_),(2,_),(0,_)]) ⟨rfl,rfl,rfl,rfl,rfl,rfl,rfl,rfl,rfl,rfl,rfl,rfl,trivial⟩<|ag<|aj<|hy (fun _=>aa rfl)<|hy (fun _=>aa rfl)<|hy (fun _=>b6 rfl rfl Tryz.underlying354 bR rfl (by omega))<|hy (fun m=>ay rfl bZ ((m.a6 0 rfl).ax i _ (CX hwl)))<|hy (fun _=>C8 (k:=8) (b:=256) (by decide) rfl rfl rfl)<|hy (fun _=>aa rfl)<|hy (fun _=>za rfl Tryz.underlying5 Tryz.underlying166)<|hy (fun _=>yV (Dx rfl rfl) ((show Wd ((UInt32.ofNat (wp l (4*i) j)*256) ||| (((l.drop (4*i)).take 4).getD j 0).toUInt32)=Wd (UInt32.ofNat (wp l (4*i) (j+1))) by rw[hgl,BL (by omega)])))<|hy (fun _=>b6 rfl rfl Tryz.underlying354 bR rfl (by omega))<| ?_
    refine cL (cG 0 rfl rfl rfl bR rfl (by rw[bA];simp only[List.length_append,List.length_cons,List.length_replicate,hwl];omega) ?_)
    refine ai<|al (ρ' :=[(6,_),(23,_),(22,_),(21,_),(20,_),(13,_),(4,_),(10,_),(9,_),(3,_),(2,_),(0,_)]) ⟨rfl,rfl,rfl,rfl,rfl,rfl,rfl,rfl,rfl,rfl,rfl,rfl,trivial⟩<|ak (X' :=[_,_]) (S' :=[_,_]) (fun _ m=>m)<|aQ<|ag<|aj<|hy (fun _=>aM rfl rfl (bG (by omega) (by omega)))<|hy (fun _=>aa rfl)<|ai<|al (ρ' :=[(22,_),(6,_),(23,_),(21,_),(20,_),(13,_),(4,_),(10,_),(9,_),(3,_),(2,_),(0,_)]) ⟨rfl,rfl,rfl,rfl,rfl,rfl,rfl,rfl,rfl,rfl,rfl,rfl,trivial⟩<| ?_
    refine ak (fun w m=>m.bQ 0 rfl (show _=aL g3 354 (ei (wl l i++UInt32.ofNat (wp l (4*i) (j+1))::List.replicate (63-i) 0))from by rw[Nat.zero_add,w7 hwl])) ?_
    refine cR (j+1) ⟨rfl,rfl,rfl,rfl,rfl,rfl,rfl,rfl,rfl,rfl,trivial⟩ [0,0] rfl [0,1] rfl (by omega) (by omega)
   ·obtain rfl:j=4:=by omega
    refine bJ<|ao<|ao<|aB<|ag<|bJ<|ao<|aB<|ag<|aj<|hy (fun _=>aM rfl rfl (bG (by omega) (by omega)))<|hy (fun _=>aa rfl)<|ai<|al (ρ' :=[(9,_),(23,_),(22,_),(21,_),(20,_),(13,_),(4,_),(10,_),(3,_),(2,_),(0,_)]) ⟨rfl,rfl,rfl,rfl,rfl,rfl,rfl,rfl,rfl,rfl,rfl,trivial⟩<| ?_
    refine ak (fun w m=>m.bQ 0 rfl (show _=aL g3 354 (ei (wl l (i+1)++List.replicate (64-(i+1)) 0))from by rw[C4,vT,hws,hr63])) ?_
    refine cR (i+1) ⟨rfl,rfl,rfl,rfl,trivial⟩ [0,0] rfl [1] rfl (by omega) (by omega)
  ·have hws:wl l (i+1)=wl l i++[ny (wl l i) i]:=by rw[wl,if_neg (by omega)]
   refine aD<|ag<|ah<|c5 [] [(0,some 0),(1,some 0),(2,some 0),(3,some 0),(4,some 0),(5,some 0),(6,some 0),(7,some 0),(8,some 0),(9,some 0)] (by kernel_rfl) (by kernel_rfl) rfl 99<|an (aa rfl)<|an (cn rfl rfl (bG (by omega) (by omega)))<|an (b6 rfl rfl Tryz.underlying354 bR (show((i-15:Nat):Int)=_ by omega) (by omega))<|cr (fun m=>ay rfl bZ ((m.a6 0 rfl).ax (i-15) _ (nj hwl (by omega))))<|an (aa rfl)<|an (cn rfl rfl (bG (by omega) (by omega)))<|an (b6 rfl rfl Tryz.underlying354 bR (show((i-2:Nat):Int)=_ by omega) (by omega))<|cr (fun m=>ay rfl bZ ((m.a6 0 rfl).ax (i-2) _ (nj hwl (by omega))))<|an (ab rfl)<|an (ab rfl)<|bD<|al (ρ' :=[(8,_),(7,_),(13,_),(4,_),(10,_),(9,_),(3,_),(2,_),(0,_)]) ⟨rfl,rfl,rfl,rfl,rfl,rfl,rfl,rfl,rfl,trivial⟩<|ag<|c5 [6,8,20,22,29] [(0,some 4),(1,some 4),(2,some 4),(3,some 4),(4,some 4),(5,some 0),(7,some 1),(10,some 4),(11,some 4),(14,some 4),(15,some 4),(16,some 4),(17,some 4),(19,some 2),(21,some 3),(24,some 4),(25,some 4),(6,none),(8,none),(9,some 4),(12,some 4),(13,some 4),(18,some 4),(20,none),(22,none),(23,some 4),(26,some 4),(27,some 4),(28,some 4),(29,none)] (by kernel_rfl) (by kernel_rfl) rfl 4<|an (aa rfl)<|an (aa rfl)<|an (cn rfl rfl (bG (by omega) (by omega)))<|an (b6 rfl rfl Tryz.underlying354 bR (show((i-16:Nat):Int)=_ by omega) (by omega))<|cr (fun m=>ay rfl bZ ((m.a6 0 rfl).ax (i-16) _ (nj hwl (by omega))))<|an (aa rfl)<|an (aa rfl)<|an (aa rfl)<|an (mP (k:=3) (b:=8) (by decide) rfl rfl rfl)<|an (aa rfl)<|an (cn rfl rfl (bG (by omega) (by omega)))<|an (b6 rfl rfl Tryz.underlying354 bR (show((i-7:Nat):Int)=_ by omega) (by omega))<|cr (fun m=>ay rfl bZ ((m.a6 0 rfl).ax (i-7) _ (nj hwl (by omega))))<|an (aa rfl)<|an (aa rfl)<|an (aa rfl)<|an (mP (k:=10) (b:=1024) (by decide) rfl rfl rfl)<| ?_
   refine ew (aq rfl Tryz.call296 (vm (by decide) (by decide) (n:=7)) [] rfl [] rfl ?_)
   rintro _ _ _ ⟨rfl,rfl,rfl⟩
   refine⟨(fun _=>wk [0,0] [0] rfl rfl), ?_⟩
   refine ew (aq rfl Tryz.call296 (vm (by decide) (by decide) (n:=18)) [] rfl [] rfl ?_)
   rintro _ _ _ ⟨rfl,rfl,rfl⟩
   refine⟨(fun _=>wk [0,0] [0] rfl rfl), ?_⟩
   refine an (er rfl rfl)<|an (er rfl rfl)<|an (dE rfl rfl)<|an (dE rfl rfl)<| ?_
   refine ew (aq rfl Tryz.call296 (vm (by decide) (by decide) (n:=17)) [] rfl [] rfl ?_)
   rintro _ _ _ ⟨rfl,rfl,rfl⟩
   refine⟨(fun _=>wk [0,0] [0] rfl rfl), ?_⟩
   refine ew (aq rfl Tryz.call296 (vm (by decide) (by decide) (n:=19)) [] rfl [] rfl ?_)
   rintro _ _ _ ⟨rfl,rfl,rfl⟩
   refine⟨(fun _=>wk [0,0] [0] rfl rfl), ?_⟩
   refine an (er rfl rfl)<|an (er rfl rfl)<|an (yV (dE rfl rfl) ((rfl:_=Wd (ny (wl l i) i))))<|an (b6 rfl rfl Tryz.underlying354 bR rfl (by omega))<| ?_
   refine kE (cG 0 rfl rfl rfl bR rfl (by rw[bA];simp only[List.length_append,List.length_replicate,hwl];omega) ⟨(fun h=>absurd h (by decide)), ?_⟩)
   refine bD<|al (ρ' :=[(8,_),(7,_),(13,_),(4,_),(10,_),(9,_),(3,_),(2,_),(0,_)]) ⟨rfl,rfl,rfl,rfl,rfl,rfl,rfl,rfl,rfl,trivial⟩<|ak (X' :=[_,_]) (S' :=[_]) (fun _ m=>m)<|aQ<|ag<|aj<|hy (fun _=>aM rfl rfl (bG (by omega) (by omega)))<|hy (fun _=>aa rfl)<|ai<|al (ρ' :=[(9,_),(8,_),(7,_),(13,_),(4,_),(10,_),(3,_),(2,_),(0,_)]) ⟨rfl,rfl,rfl,rfl,rfl,rfl,rfl,rfl,rfl,trivial⟩<| ?_
   refine ak (fun w m=>m.bQ 0 rfl (show _=aL g3 354 (ei (wl l (i+1)++List.replicate (64-(i+1)) 0))from by rw[Nat.zero_add,hr64,w7 hwl,vT,hws,hr63])) ?_
   refine cR (i+1) ⟨rfl,rfl,rfl,rfl,trivial⟩ [0,0] rfl [0] rfl (by omega) (by omega)
 ·obtain rfl:i=64:=by omega
  refine bx (fun w m=>m.bQ 0 rfl (show _=aL g3 354 (ei (wl l 64))from by rw[Nat.sub_self];simp)) ?_
  refine bJ<|ao<|ao<|aB<|ag<|ah<|aj<|hy (fun m=>yV (aU rfl Dn wZ (by rw[bA,fD]) ((m.a6 0 rfl).ax)) ((rfl:_=Value.agg (ei (wl l 64)).toArray)))<| ?_
  refine cL (aJ 1 rfl rfl rfl wZ (by rw[bA,fD]) hC rfl ?_)
  refine ai<|al (ρ' :=[(10,_),(9,_),(3,_),(2,_),(0,_)]) ⟨rfl,rfl,rfl,rfl,rfl,trivial⟩<|ak (X' :=[_,_]) (S' :=[_]) (fun _ m=>m)<|ag<|aX<| ?_
  exact fl trivial rfl rfl Dn wZ (by rw[bA,fD]) (fun m=>(m.a6 0 rfl).ax) [] rfl [] rfl ⟨rfl,rfl,rfl⟩
theorem uo(v h:List UInt32)(i:Nat):(fT v h i).length=v.length:=by simp[fT]
theorem Hn{A:Option Addr}{c:Nat}{l:List UInt8}{h:List UInt32}(hc:64≤c)(hh:h.length=8):ck Tryz.prog 227 [.agg (ei h).toArray,.slice A 64 c] [] [dr 1 A 64 (aV l),fh] (fun v_ X_ S_=>v_=(.agg (ei (eC h l)).toArray)∧X_=[]∧S_=[]):=by
 refine aP (N:=99) Tryz.func227 rfl rfl (by simp) fun b=> ?_
 refine aY (fun m=>gY (m.rd 0 rfl)) ?_
 rintro⟨hl_r,hA_r⟩
 refine ah<|aj<| ?_
 refine hx (cw rfl (fun g2=> ?_))
 refine aO (fun w m=>m.bQ 0 rfl (show _=aL g2 306 (ei h)from congrArg (aL _ _) (bp _))) ?_
 refine hx (aN wy (fun g4=> ?_))
 refine ai<|ak (X' :=[_,_]) (S' :=[_,_]) (fun _ m=>m)<|ag<|ah<|aj<|hy (fun _=>aa rfl)<| ?_
 refine hx (aq rfl Tryz.call268 (Fk (by omega)) [] rfl [0] rfl ?_)
 rintro _ _ _ ⟨rfl,rfl,rfl⟩
 obtain⟨W,hW⟩:∃W,wl l 64=W:=⟨_,rfl⟩
 have hw64:W.length=64:=by rw[←hW];exact fD l 64
 rw[hW]
 refine hx (aN yG (fun g5=> ?_))
 refine cL (aJ 0 rfl rfl rfl wZ (by rw[bA,hw64]) hC rfl ?_)
 refine ai<|al (ρ' :=[(5,_),(4,_),(2,_),(0,_),(1,_)]) ⟨rfl,rfl,rfl,rfl,rfl,trivial⟩<|ak (X' :=[_,_,_]) (S' :=[_,_]) (fun _ m=>m)<|ag<|ah<|aj<|hy (fun m=>yV (aU rfl rY lS (by rw[bA,hh]) ((m.a6 2 rfl).ax)) ((rfl:_=Value.agg (ei h).toArray)))<| ?_
 refine hx (aN wy (fun g6=> ?_))
 refine cL (aJ 0 rfl rfl rfl lS (by rw[bA,hh]) hC rfl ?_)
 refine ai<|al (ρ' :=[(6,_),(5,_),(4,_),(2,_),(0,_),(1,_)]) ⟨rfl,rfl,rfl,rfl,rfl,rfl,trivial⟩<|ak (X' :=[_,_,_,_]) (S' :=[_,_]) (fun _ m=>m)<|ag<|ah<|ah<|aj<|hy (fun _=>aa rfl)<|ai<|ag<|aI<| ?_
 refine dx (fun i=>64-i) (fun i=>[(16,.int .i64 (i:Nat))]) (fun i=>[aL g6 306 (ei (kM W h i))]) (fun i=>[]) (fun i=>i≤64) 0 [(6,_),(5,_),(4,_),(2,_),(0,_),(1,_)] ⟨rfl,rfl,rfl,rfl,rfl,rfl,trivial⟩ [0] rfl [] rfl (Nat.zero_le _) ⟨rfl,trivial⟩ (fun i hI=> ?_)
 have hv:=kY (w:=W) hh i
 have hro:fM.length=64:=rfl
 refine ah<|aj<|hy (fun _=>bq rfl rfl)<|ai<|ag<|ah<| ?_
 refine cD rfl (fun hlt=> ?_) (fun hlt=> ?_)
 ·generalize hvd:kM W h i=v at hv ⊢
  refine aD<|ag<|ah<|aI<|ah<|aj<|hy (fun _=>aa rfl)<|hy (fun _=>ab rfl)<|ai<|al (ρ' :=[(7,_),(17,_),(16,_),(6,_),(5,_),(4,_),(2,_),(0,_),(1,_)]) ⟨rfl,rfl,rfl,rfl,rfl,rfl,rfl,rfl,rfl,trivial⟩<|ag<|ah<|c5 [] [(0,some 0),(1,some 0),(2,some 0),(3,some 0),(4,some 0),(5,some 0)] (by kernel_rfl) (by kernel_rfl) rfl 99<|an (b6 rfl rfl Tryz.underlying306 bR (show((4:Nat):Int)=4 from rfl) (by omega))<|cr (fun m=>ay rfl bZ ((m.a6 0 rfl).ax 4 _ (bo (by omega))))<|an (b6 rfl rfl Tryz.underlying306 bR (show((0:Nat):Int)=0 from rfl) (by omega))<|cr (fun m=>ay rfl bZ ((m.a6 0 rfl).ax 0 _ (bo (by omega))))<|an (ab rfl)<|an (ab rfl)<|bD<|al (ρ' :=[(9,_),(8,_),(7,_),(17,_),(16,_),(6,_),(5,_),(4,_),(2,_),(0,_),(1,_)]) ⟨rfl,rfl,rfl,rfl,rfl,rfl,rfl,rfl,rfl,rfl,rfl,trivial⟩<|ag<|ah<|c5 [3] [(0,some 1),(1,some 1),(2,some 0),(5,some 1),(6,some 1),(7,some 1),(8,some 1),(9,some 1),(10,some 1),(11,some 1),(12,some 1),(13,some 1),(14,some 1),(16,some 1),(17,some 1),(18,some 1),(20,some 1),(21,some 1),(22,some 1),(3,none),(4,some 1),(15,some 1),(19,some 1),(23,some 1),(24,some 1)] (by kernel_rfl) (by kernel_rfl) rfl 99<|an (b6 rfl rfl Tryz.underlying306 bR (show((7:Nat):Int)=7 from rfl) (by omega))<|cr (fun m=>ay rfl bZ ((m.a6 0 rfl).ax 7 _ (bo (by omega))))<|an (aa rfl)<|an (aa rfl)<|an (b6 rfl rfl Tryz.underlying306 bR (show((5:Nat):Int)=5 from rfl) (by omega))<|cr (fun m=>ay rfl bZ ((m.a6 0 rfl).ax 5 _ (bo (by omega))))<|an (jz rfl rfl)<|an (aa rfl)<|an (D3 rfl)<|an (b6 rfl rfl Tryz.underlying306 bR (show((6:Nat):Int)=6 from rfl) (by omega))<|cr (fun m=>ay rfl bZ ((m.a6 0 rfl).ax 6 _ (bo (by omega))))<|an (jz rfl rfl)<|an (er rfl rfl)<|an (aa rfl)<|an (b6 rfl rfl Tryz.underlying354 bR rfl (by omega))<|cr (fun m=>ay rfl bZ ((show Rd _ 1 _ 64 (ei fM)from m.FV 1 rfl).cell (j:=i) (bo (by omega))))<|an (aa rfl)<|an (b6 rfl rfl Tryz.underlying354 bR rfl (by omega))<|cr (fun m=>ay rfl bZ ((m.a6 1 rfl).ax i _ (bo (by omega))))<| ?_
  refine ew (aq rfl Tryz.call269 (wW (by decide) (by decide) (by decide) (n1:=6) (n2:=11) (n3:=25)) [] rfl [] rfl ?_)
  rintro _ _ _ ⟨rfl,rfl,rfl⟩
  refine⟨(fun _=>wk [0,0,0,0] [0,1] rfl rfl), ?_⟩
  refine an (dE rfl rfl)<|an (dE rfl rfl)<|an (dE rfl rfl)<| ?_
  generalize hk:fM.getD i 0=k
  refine an (yV (dE rfl rfl) ((rfl:_=Wd (rt v k (W.getD i 0)))))<|an (ab rfl)<|bD<|al (ρ' :=[(10,_),(9,_),(8,_),(7,_),(17,_),(16,_),(6,_),(5,_),(4,_),(2,_),(0,_),(1,_)]) ⟨rfl,rfl,rfl,rfl,rfl,rfl,rfl,rfl,rfl,rfl,rfl,rfl,trivial⟩<|ak (X' :=[_,_,_,_]) (S' :=[_,_]) (fun _ m=>m)<|ag<|ah<|c5 [1] [(0,some 0),(2,some 1),(3,some 1),(4,some 1),(5,some 1),(6,some 1),(7,some 1),(8,some 1),(9,some 1),(10,some 1),(11,some 1),(12,some 1),(13,some 1),(14,some 1),(15,some 1),(16,some 1),(1,none),(17,some 1),(18,some 1)] (by kernel_rfl) (by kernel_rfl) rfl 99<|an (aa rfl)<|an (aa rfl)<|an (b6 rfl rfl Tryz.underlying306 bR (show((1:Nat):Int)=1 from rfl) (by omega))<|cr (fun m=>ay rfl bZ ((m.a6 0 rfl).ax 1 _ (bo (by omega))))<|an (jz rfl rfl)<|an (aa rfl)<|an (b6 rfl rfl Tryz.underlying306 bR (show((2:Nat):Int)=2 from rfl) (by omega))<|cr (fun m=>ay rfl bZ ((m.a6 0 rfl).ax 2 _ (bo (by omega))))<|an (jz rfl rfl)<|an (er rfl rfl)<|an (b6 rfl rfl Tryz.underlying306 bR (show((1:Nat):Int)=1 from rfl) (by omega))<|cr (fun m=>ay rfl bZ ((m.a6 0 rfl).ax 1 _ (bo (by omega))))<|an (b6 rfl rfl Tryz.underlying306 bR (show((2:Nat):Int)=2 from rfl) (by omega))<|cr (fun m=>ay rfl bZ ((m.a6 0 rfl).ax 2 _ (bo (by omega))))<|an (jz rfl rfl)<|an (er rfl rfl)<| ?_
  refine ew (aq rfl Tryz.call269 (wW (by decide) (by decide) (by decide) (n1:=2) (n2:=13) (n3:=22)) [] rfl [] rfl ?_)
  rintro _ _ _ ⟨rfl,rfl,rfl⟩
  refine⟨(fun _=>wk [0,0,0,0] [0,1] rfl rfl), ?_⟩
  refine an (yV (dE rfl rfl) ((rfl:_=Wd (ru v))))<|an (ab rfl)<|bD<|al (ρ' :=[(11,_),(10,_),(9,_),(8,_),(7,_),(17,_),(16,_),(6,_),(5,_),(4,_),(2,_),(0,_),(1,_)]) ⟨rfl,rfl,rfl,rfl,rfl,rfl,rfl,rfl,rfl,rfl,rfl,rfl,rfl,trivial⟩<|ak (X' :=[_,_,_,_]) (S' :=[_,_]) (fun _ m=>m)<|ag<|aj<|hy (fun _=>aa rfl)<|hy (fun _=>aa rfl)<|hy (fun _=>dE rfl rfl)<|hy (fun _=>b6 rfl rfl Tryz.underlying306 bR (show((0:Nat):Int)=0 from rfl) (by omega))<|hy (fun m=>ay rfl bZ ((m.a6 0 rfl).ax 0 _ (bo (by omega))))<|hy (fun _=>b6 rfl rfl Tryz.underlying306 bR (show((1:Nat):Int)=1 from rfl) (by omega))<|hy (fun m=>ay rfl bZ ((m.a6 0 rfl).ax 1 _ (bo (by omega))))<|hy (fun _=>b6 rfl rfl Tryz.underlying306 bR (show((2:Nat):Int)=2 from rfl) (by omega))<|hy (fun m=>ay rfl bZ ((m.a6 0 rfl).ax 2 _ (bo (by omega))))<|hy (fun _=>b6 rfl rfl Tryz.underlying306 bR (show((3:Nat):Int)=3 from rfl) (by omega))<|hy (fun m=>ay rfl bZ ((m.a6 0 rfl).ax 3 _ (bo (by omega))))<|hy (fun _=>aa rfl)<|hy (fun _=>dE rfl rfl)<|hy (fun _=>b6 rfl rfl Tryz.underlying306 bR (show((4:Nat):Int)=4 from rfl) (by omega))<|hy (fun m=>ay rfl bZ ((m.a6 0 rfl).ax 4 _ (bo (by omega))))<|hy (fun _=>b6 rfl rfl Tryz.underlying306 bR (show((5:Nat):Int)=5 from rfl) (by omega))<|hy (fun m=>ay rfl bZ ((m.a6 0 rfl).ax 5 _ (bo (by omega))))<|hy (fun _=>b6 rfl rfl Tryz.underlying306 bR (show((6:Nat):Int)=6 from rfl) (by omega))<|hy (fun m=>ay rfl bZ ((m.a6 0 rfl).ax 6 _ (bo (by omega))))<|hy (fun _=>yV (tW (n:=8) wy (by kernel_rfl) rfl (by kernel_rfl) rfl (by kernel_rfl) (by kernel_rfl) (rk (l:=[_,_,_,_,_,_,_,_]))) ((rfl:_=Value.agg (ei (He v k (W.getD i 0))).toArray)))<| ?_
  refine cL (aJ 0 rfl rfl rfl lS rfl hC (by rw[bA,hv]) ?_)
  refine ai<|al (ρ' :=[(11,_),(10,_),(9,_),(8,_),(7,_),(17,_),(16,_),(6,_),(5,_),(4,_),(2,_),(0,_),(1,_)]) ⟨rfl,rfl,rfl,rfl,rfl,rfl,rfl,rfl,rfl,rfl,rfl,rfl,rfl,trivial⟩<|ak (X' :=[_,_,_,_]) (S' :=[_,_]) (fun _ m=>m)<|aQ<|ag<|aj<|hy (fun _=>aM rfl rfl (bG (by omega) (by omega)))<|hy (fun _=>aa rfl)<|ai<|al (ρ' :=[(16,_),(11,_),(10,_),(9,_),(8,_),(7,_),(17,_),(6,_),(5,_),(4,_),(2,_),(0,_),(1,_)]) ⟨rfl,rfl,rfl,rfl,rfl,rfl,rfl,rfl,rfl,rfl,rfl,rfl,rfl,trivial⟩<| ?_
  refine ak (fun w m=>m.bQ 0 rfl (show _=aL g6 306 (ei (kM W h (i+1)))from by rw[←hvd,←hk];rfl)) ?_
  refine cR (i+1) ⟨rfl,rfl,rfl,rfl,rfl,rfl,rfl,trivial⟩ [0,0,0,0] rfl [0,1] rfl (by omega) (by omega)
 ·obtain rfl:i=64:=by omega
  generalize hvv:kM W h 64=v at hv ⊢
  refine bx (fun w m=>m.bQ 0 rfl (show _=aL g6 306 (ei (fT v h 0))from by rw[qZ])) ?_
  refine bJ<|ao<|ao<|aB<|ag<|ah<|ah<|aj<|hy (fun _=>aa rfl)<|ai<|ag<|aI<| ?_
  refine dx (fun j=>8-j) (fun j=>[(86,.int .i64 (j:Nat))]) (fun j=>[aL g6 306 (ei (fT v h j))]) (fun j=>[]) (fun j=>j≤8) 0 [(17,_),(16,_),(6,_),(5,_),(4,_),(2,_),(0,_),(1,_)] ⟨rfl,rfl,rfl,rfl,rfl,rfl,rfl,rfl,trivial⟩ [0] rfl [] rfl (Nat.zero_le _) ⟨rfl,trivial⟩ (fun j hj8=> ?_)
  have hsl:=uo v h j
  refine ah<|aj<|hy (fun _=>bq rfl rfl)<|ai<|ag<|ah<| ?_
  refine cD rfl (fun hj=> ?_) (fun hj=> ?_)
  ·refine aD<|ag<|ah<|aI<|ah<|aj<|hy (fun _=>aa rfl)<|hy (fun _=>ab rfl)<|ai<|al (ρ' :=[(12,_),(87,_),(86,_),(17,_),(16,_),(6,_),(5,_),(4,_),(2,_),(0,_),(1,_)]) ⟨rfl,rfl,rfl,rfl,rfl,rfl,rfl,rfl,rfl,rfl,rfl,trivial⟩<|ag<|c5 [8] [(0,some 0),(1,some 0),(2,some 0),(3,some 0),(4,some 0),(5,some 0),(6,some 0),(7,some 0),(8,none)] (by kernel_rfl) (by kernel_rfl) rfl 0<|an (aa rfl)<|an (b6 rfl rfl Tryz.underlying306 bR rfl (by omega))<|cr (fun m=>ay rfl bZ ((m.a6 0 rfl).ax j _ (bo (by omega))))<|an (aa rfl)<|an (b6 rfl rfl Tryz.underlying306 bR rfl (by omega))<|cr (fun m=>ay rfl bZ ((m.a6 3 rfl).ax j _ (bo (by omega))))<|an (yV (dE rfl rfl) ((rfl:_=Wd (v_ (fT v h j) j+v_ h j))))<|an (b6 rfl rfl Tryz.underlying306 bR rfl (by omega))<| ?_
   refine kE (cG 0 rfl rfl rfl bR rfl (by rw[bA];omega) ⟨(fun h=>absurd h (by decide)), ?_⟩)
   refine bD<|al (ρ' :=[(12,_),(87,_),(86,_),(17,_),(16,_),(6,_),(5,_),(4,_),(2,_),(0,_),(1,_)]) ⟨rfl,rfl,rfl,rfl,rfl,rfl,rfl,rfl,rfl,rfl,rfl,trivial⟩<|ak (X' :=[_,_,_,_]) (S' :=[_,_]) (fun _ m=>m)<|aQ<|ag<|aj<|hy (fun _=>aM rfl rfl (bG (by omega) (by omega)))<|hy (fun _=>aa rfl)<|ai<|al (ρ' :=[(86,_),(12,_),(87,_),(17,_),(16,_),(6,_),(5,_),(4,_),(2,_),(0,_),(1,_)]) ⟨rfl,rfl,rfl,rfl,rfl,rfl,rfl,rfl,rfl,rfl,rfl,trivial⟩<| ?_
   refine ak (fun w m=>m.bQ 0 rfl (show _=aL g6 306 (ei (fT v h (j+1)))from by rw[Nat.zero_add,v8,q7 (by omega)])) ?_
   refine cR (j+1) ⟨rfl,rfl,rfl,rfl,rfl,rfl,rfl,rfl,rfl,trivial⟩ [0,0,0,0] rfl [0,1] rfl (by omega) (by omega)
  ·obtain rfl:j=8:=by omega
   have hB:fT v h 8=eC h l:=by rw[eC,hW,hvv]
   rw[hB]
   have hbl:=jo hh l
   refine bJ<|ao<|ao<|aB<|ag<|ah<|aj<|hy (fun m=>yV (aU rfl rY lS (by rw[bA,hbl]) ((m.a6 0 rfl).ax)) ((rfl:_=Value.agg (ei (eC h l)).toArray)))<| ?_
   refine cL (aJ 2 rfl rfl rfl lS (by rw[bA,hbl]) hC rfl ?_)
   refine ai<|al (ρ' :=[(87,_),(86,_),(17,_),(16,_),(6,_),(5,_),(4,_),(2,_),(0,_),(1,_)]) ⟨rfl,rfl,rfl,rfl,rfl,rfl,rfl,rfl,rfl,rfl,trivial⟩<|ak (X' :=[_,_,_,_]) (S' :=[_,_]) (fun _ m=>m)<|ag<|aX<| ?_
   exact fl trivial rfl rfl rY lS (by rw[bA,hbl]) (fun m=>(m.a6 0 rfl).ax) [] rfl [] rfl ⟨rfl,rfl,rfl⟩
end Go.Proofs.YtmibdabdlgmafaaGreatDoor
end
section
set_option maxRecDepth 100000
namespace Go.Proofs.YtmibdabdlgmafaaGreatDoor
open Go.Eng Go.Hx Go.ChangeShapes Go.WideShapes Go.ChangeAt Go.WideMaps Go.WideElems Go.RowKit
theorem E9 : Tryz.prog.globalNamed "lighterage/sha.roots" = some 1 := by kernel_rfl
theorem DF:(Tryz.prog.globals[1]?).map (·.type)=some 354:=by kernel_rfl
theorem vd:(Rows.laid_lighterage_sha_roots:DataW Unit)= .agg (fM.map fun x=>.lit (.int .u32 (x.toNat:Int))):=by kernel_rfl
theorem Ac (os : Os) (args : Array Value) : laidMetH Tryz.prog [("lighterage/sha.roots", Rows.laid_lighterage_sha_roots)] ((World.doorLaid Tryz.prog 400 os).forCall (fun _ _ => 0) ⟨#[], args, []⟩).memory :=
  laidMetH_of_parts3 (fuel:=8) (laidMet_of_run' 8 (by kernel_rfl) (by kernel_rfl)) (by kernel_rfl) (by kernel_rfl)
theorem qW {W : World} (h : laidMetH Tryz.prog [("lighterage/sha.roots", Rows.laid_lighterage_sha_roots)] W) : fh.holds W := by
  rw[MakeChecks.laidMetH_plain _ _ _ (by kernel_rfl)]at h
  obtain⟨ps,⟨g0,t0,cs0,f0,p0,q0,hg0,ht0,hv0,hd0,_,_⟩,_,_⟩:=h
  obtain rfl:=Option.some.inj (E9.symm.trans hg0)
  obtain rfl:=Option.some.inj (DF.symm.trans ht0)
  rw[vd]at hd0
  obtain⟨xs,m1,rfl,hx1,hlen,hn,hel⟩:=DataW.trod_array Tryz.underlying354 hd0
  have c3:Tryz.prog.cellsOf 166=1:=by kernel_rfl
  simp only[Prod.mk.injEq,DataW.agg.injEq]at hx1
  refine⟨by rw[bA];rfl,fun _=>by simp,fun j u hu=> ?_⟩
  have hj:j<64:=by
    obtain⟨h1,_⟩:=List.getElem?_eq_some_iff.1 hu
    rw[bA]at h1
    exact h1
  have h0:=hel j hj
  have hxj:(xs.map (·.1))[j]? =(fM.map fun x=>DataW.lit (Lit.int .u32 (x.toNat:Int)))[j]? :=by rw[←hx1.1]
  obtain⟨y,hy⟩:∃y,xs[j]? =some y:=⟨_,List.getElem?_eq_getElem (by omega)⟩
  rw[hy]at h0
  obtain⟨n,e1,e2,_⟩:=DataW.trod_int Tryz.underlying166 h0
  rw[List.getElem?_map,hy,List.getElem?_map]at hxj
  rw[ei,List.getElem?_map]at hu
  cases hr:fM[j]? with
  |none=>rw[hr]at hu;cases hu
  |some r=>
    rw[hr]at hu hxj
    rw[e2]at hxj
    have hn2:n=(r.toNat:Int):=by simpa using hxj
    have hu2:u= .int .u32 (r.toNat:Int):=by simpa using hu.symm
    have h5:=World.var?_cell hg0 hv0 j
    rw[c3,Nat.mul_one]at e1
    have h6:cs0[j]? =some (.int .u32 n):=by
      have h7:(List.take 1 (List.drop j cs0.toList))[0]? =some (.int .u32 n):=by rw[e1];rfl
      rw[List.getElem?_take,if_pos (by decide),List.getElem?_drop,Nat.add_zero]at h7
      simpa using h7
    show W.cell? ((Option.getD (some _) d0).add j)=some u
    rw[hu2,←hn2,←h6,←h5]
    have e:(⟨1,0,none⟩:Addr).add j=⟨1,j,none⟩:=by simp[Addr.add];omega
    exact congrArg W.cell? e
end Go.Proofs.YtmibdabdlgmafaaGreatDoor
end
section
namespace Go.Hx
open Go.Eng
abbrev cb:=Lib.compareBytes
theorem nZ(a b:UInt8):a<b∨a=b∨b<a:=by
 rcases Nat.lt_trichotomy a.toNat b.toNat with h|h|h
 ·exact .inl h
 ·exact .inr (.inl (UInt8.toNat_inj.1 h))
 ·exact .inr (.inr h)
theorem mM:∀a:List UInt8,cb a a=0
 | []=>rfl
 |x::a=>by simp[cb,Lib.compareBytes,UInt8.lt_irrefl];exact mM a
theorem gz(x y:UInt8)(a b:List UInt8):cb (x::a) (y::b)=if x<y then-1 else if y<x then 1 else cb a b:=rfl
theorem iA{x y:UInt8}(h:x<y):¬y<x:=by
 have:x.toNat<y.toNat:=h
 intro h'
 have:y.toNat<x.toNat:=h'
 omega
theorem gp:∀a b:List UInt8,cb b a=-cb a b
 | [],[]=>rfl
 | [],_::_=>rfl
 |_::_,[]=>rfl
 |x::a,y::b=>by
  rw[gz,gz]
  have ih:=gp a b
  rcases nZ x y with h|h|h
  ·rw[if_neg (iA h),if_pos h,if_pos h];rfl
  ·subst h;simp[UInt8.lt_irrefl,ih]
  ·rw[if_pos h,if_neg (iA h),if_pos h]
theorem pk:∀a b:List UInt8,cb a b=0→a=b
 | [],[],_=>rfl
 | [],_::_,h=>by simp[cb,Lib.compareBytes]at h
 |_::_,[],h=>by simp[cb,Lib.compareBytes]at h
 |x::a,y::b,h=>by
  rw[gz]at h
  rcases nZ x y with h1|h1|h1
  ·rw[if_pos h1]at h;omega
  ·subst h1
   simp only[UInt8.lt_irrefl,if_false]at h
   rw[pk a b h]
  ·rw[if_neg (iA h1),if_pos h1]at h;omega
theorem mA:∀a b c:List UInt8,cb a b≤0→cb b c≤0→cb a c≤0
 | [],b,[],_,_=>by simp[cb,Lib.compareBytes]
 | [],b,_::_,_,_=>by simp[cb,Lib.compareBytes]
 |x::a,[],c,h,_=>by simp[cb,Lib.compareBytes]at h
 |x::a,y::b,[],_,h=>by simp[cb,Lib.compareBytes]at h
 |x::a,y::b,z::c,h,h' =>by
  rw[gz]at h h' ⊢
  rcases nZ x y with h1|h1|h1
  ·rcases nZ y z with h2|h2|h2
   ·have:x<z:=by
     have a1:x.toNat<y.toNat:=h1
     have a2:y.toNat<z.toNat:=h2
     show x.toNat<z.toNat
     omega
    rw[if_pos this];decide
   ·subst h2;rw[if_pos h1];decide
   ·rw[if_neg (iA h2),if_pos h2]at h';omega
  ·subst h1
   simp only[UInt8.lt_irrefl,if_false]at h
   rcases nZ x z with h2|h2|h2
   ·rw[if_pos h2];decide
   ·subst h2
    simp only[UInt8.lt_irrefl,if_false]at h' ⊢
    exact mA a b c h h'
   ·rw[if_neg (iA h2),if_pos h2]at h';omega
  ·rw[if_neg (iA h1),if_pos h1]at h;omega
theorem Bi:∀(a b:List UInt8) (k:Nat),a.take k=b.take k→k<a.length→k<b.length→cb a b=if a.getD k 0<b.getD k 0 then-1 else if b.getD k 0<a.getD k 0 then 1 else cb (a.drop (k+1)) (b.drop (k+1))
 | [],b,k,_,h,_=>by simp at h
 |_::_,[],k,_,_,h=>by simp at h
 |x::a,y::b,0,_,_,_=>by rw[gz];simp
 |x::a,y::b,k+1,h,h1,h2=>by
  simp only[List.take_succ_cons,List.cons.injEq]at h
  obtain⟨rfl,h⟩:=h
  rw[gz]
  simp only[UInt8.lt_irrefl,if_false,List.getD_cons_succ,List.drop_succ_cons]
  exact Bi a b k h (by simpa using h1) (by simpa using h2)
theorem Gr{a b:List UInt8}{k:Nat}(h:a.take k=b.take k)(h1:k<a.length)(h2:k<b.length)(hlt:a.getD k 0<b.getD k 0):cb a b=-1:=by rw[Bi a b k h h1 h2,if_pos hlt]
theorem FH{a b:List UInt8}{k:Nat}(h:a.take k=b.take k)(h1:k<a.length)(h2:k<b.length)(hlt:b.getD k 0<a.getD k 0):cb a b=1:=by rw[Bi a b k h h1 h2,if_neg (iA hlt),if_pos hlt]
theorem xP{a b:List UInt8}{k:Nat}(h:a.take k=b.take k)(h1:k<a.length)(h2:k<b.length)(n1:¬a.getD k 0<b.getD k 0)(n2:¬b.getD k 0<a.getD k 0):a.take (k+1)=b.take (k+1):=by
 rw[dY h1,dY h2,h]
 rcases nZ (a.getD k 0) (b.getD k 0)with h|h|h
 ·exact absurd h n1
 ·rw[h]
 ·exact absurd h n2
theorem pd:∀i j:Nat,i<16→j<16→(kj.getD i 0<kj.getD j 0↔i<j):=by
 have:∀i,i<16→∀j,j<16→(kj.getD i 0<kj.getD j 0↔i<j):=by decide+kernel
 exact fun i j hi hj=>this i hi j hj
theorem wg:∀a b:List UInt8,cb (cf a) (cf b)=cb a b
 | [],[]=>rfl
 | [],y::b=>by simp[cf,pV,cb,Lib.compareBytes]
 |x::a,[]=>by simp[cf,pV,cb,Lib.compareBytes]
 |x::a,y::b=>by
  have e:∀(a:UInt8) (r:List UInt8),cf (a::r)=kj.getD (a.toNat/16) 0::kj.getD (a.toNat % 16) 0::cf r:=by intro a r;simp[cf,pV]
  have hx:=x.toNat_lt
  have hy:=y.toNat_lt
  rw[e,e,gz,gz,gz,wg a b]
  have l1:=pd (x.toNat/16) (y.toNat/16) (by omega) (by omega)
  have l2:=pd (y.toNat/16) (x.toNat/16) (by omega) (by omega)
  have l3:=pd (x.toNat % 16) (y.toNat % 16) (by omega) (by omega)
  have l4:=pd (y.toNat % 16) (x.toNat % 16) (by omega) (by omega)
  have m1:(x<y)↔x.toNat<y.toNat:=Iff.rfl
  have m2:(y<x)↔y.toNat<x.toNat:=Iff.rfl
  simp only[l1,l2,l3,l4,m1,m2]
  split
  ·rw[if_pos (by omega)]
  ·split
   ·rw[if_neg (by omega),if_pos (by omega)]
   ·split
    ·rw[if_pos (by omega)]
    ·split
     ·rw[if_neg (by omega),if_pos (by omega)]
     ·rw[if_neg (by omega),if_neg (by omega)]
theorem rH{P:Program}{w:World}{A:Option Addr}{n c:Nat}{l:List UInt8}(h:Rd w 1 A n (aV l)):(Extern.Bytes.bytesOf (.slice A n c)).run P w= .ok (strOf l) w:=by
 have hl:l.length=n:=by have:=h.1;rw[az]at this;omega
 cases A with
 |none=>
  have:l=[]:=by
   rcases Nat.eq_zero_or_pos n with h0|h0
   ·exact List.eq_nil_of_length_eq_zero (by omega)
   ·exact absurd rfl (h.2.1 h0)
  subst this
  rfl
 |some a=>
  have hr:=Lib.run_loadBytesX (P:=P) (w:=w) (l.map fun b=>((b.toNat:Nat):Int)) a .empty (fun j x hx=>by
   rw[List.getElem?_map,Option.map_eq_some_iff]at hx
   obtain⟨u,hu,rfl⟩:=hx
   exact h.2.2 j (B8 u) (by simp[aV,List.getElem?_map,hu]))
  have e:Lib.bytesOf (l.map fun b=>((b.toNat:Nat):Int))=l:=by
   simp only[Lib.bytesOf,List.map_map]
   conv=>rhs;rw[←List.map_id l]
   apply List.map_congr_left
   intro b _
   simp
  rw[e,List.length_map,hl]at hr
  simp only[Extern.Bytes.bytesOf]
  rw[hr]
  simp[strOf]
theorem tO{P:Program}{w:World}{A A' :Option Addr}{n c n' c' :Nat}{l l' :List UInt8}(h:Rd w 1 A n (aV l))(h' :Rd w 1 A' n' (aV l')):(Extern.BytealgCompare.compare #[.slice A n c,.slice A' n' c']).run P w= .ok (.int .i64 (cb l l')) w:=by
 change Sem.run P (do pure (goInt (Extern.BytealgCompare.cmp (←Extern.Bytes.bytesOf (.slice A n c)) (←Extern.Bytes.bytesOf (.slice A' n' c'))))) w=_
 simp only[Sem.run_bind,Sem.run_pure,Result.andThen,rH h,rH h']
 rw[Lib.cmp_eq]
 rfl
end Go.Hx
end
section
set_option maxRecDepth 20000
namespace Go.Proofs.YtmibdabdlgmafaaGreatDoor
open Go.Eng Go.Hx
theorem H0(A:Option Addr)(n c:Nat)(l:List UInt8)(m:Nat)(w:World)(hr:Rd w 1 A n (aV l))(hc:n≤c)(hn:n≤140737488351232):
  Calls Tryz.prog 32 #[.slice A n c,.int .i64 (m:Int)] w fun e w' =>∃v,e= .returned v∧Go.Eng.Own w' w.heap.size 5 1 v (min n m) (aV (l.take m))∧Fr No w w' :=by
 have hl:l.length=n:=by have:=hr.1;rw[az]at this;omega
 have hrd:Rd w 1 A (min n m) (aV (l.take m)):=by
  have:=hr.take (k:=min n m) (by omega)
  have e:(aV l).take (min n m*1)=aV (l.take m):=by
   rw[aV,aV,←List.map_take,Nat.mul_one]
   congr 1
   by_cases h:m≤n
   ·congr 1;omega
   ·rw[List.take_of_length_le (by omega),List.take_of_length_le (by omega)]
  rw[e]at this
  exact this
 refine enter (N:=14) Tryz.func32 rfl rfl (by simp) ?_
 refine aW<|bc<|nq (ab rfl)<|ba<|aF<|aW<|bc<|nq (ab rfl)<|ba<|aF<|aW<|bc<|nq (aa rfl)<|nq (aa rfl)<|nq (aa rfl)<|nq (aS rfl Tryz.underlying27)<|nq (aa rfl)<|nq (uB rfl rfl)<|nq (kZ rfl rfl Tryz.underlying27 ea (show((min n m:Nat):Int)=_ by omega) ((by omega)))<| ?_
 refine nx (kL rfl rfl Tryz.underlying27 Tryz.underlying27 (by exact .inl rfl) fa rfl (Own.nil w w.heap.size _ 1) (Src.bP hrd) aZ (by unfold maxLen;omega) (by omega) (by omega) fun v w1 ho hf hv=> ?_)
 refine nq (ab rfl)<|ba<|bB (ae (t:=4) rfl<|ae (t:=5) rfl<|ae (t:=0) rfl<|ae (t:=1) rfl<|aC)<|aF<|dO<| ?_
 refine eW trivial rfl rfl ⟨v,rfl, ?_,hf.mono (fun _ _ e=>e.elim)⟩
 simpa using ho
def ef(n m:Int):Int:=(if n<0 then-(n+1)else n) % m
theorem n9(n m:Int)(hm:0<m):0≤ef n m∧ef n m<m:=⟨Int.emod_nonneg _ (by omega),Int.emod_lt_of_pos _ hm⟩
theorem Ay(n m:Int)(w:World)(h1:-9223372036854775808≤n)(h2:n≤9223372036854775807)(hm:0<m):
  Calls Tryz.prog 16 #[.int .i64 n,.int .i64 m] w fun e w' =>e= .returned (.int .i64 (ef n m))∧w=w' :=by
 refine enter (N:=13) Tryz.func16 rfl rfl (by simp) ?_
 refine aW<|bc<|nq (ab rfl)<|ba<|aF<|aW<|aW<|bc<|nq (aa rfl)<|nq (bq rfl rfl)<|ba<|bB (ae (t:=6) rfl<|ae (t:=4) rfl<|ae (t:=0) rfl<|ae (t:=1) rfl<|aC)<|aF<| ?_
 refine nF rfl (fun h=> ?_) (fun h=> ?_)
 ·refine bc<|nq (aa rfl)<|nq (aM rfl rfl (bG (by omega) (by omega)))<|nq (wH rfl (bG (by omega) (by omega)))<|nq (ab rfl)<|ba<|bB (ae (t:=0) rfl<|ae (t:=6) rfl<|ae (t:=4) rfl<|ae (t:=1) rfl<|aC)<|aF<|aW<|bc<|nq (aa rfl)<|nq (aa rfl)<|nq (gN rfl rfl (by omega) (by omega))<|nq (ab rfl)<|ba<|bB (ae (t:=4) rfl<|ae (t:=0) rfl<|ae (t:=6) rfl<|ae (t:=1) rfl<|aC)<|aF<|dO<| ?_
  refine eW trivial rfl rfl ⟨?_,rfl⟩
  simp only[ef,if_pos h]
 ·refine dN<|aF<|aW<|bc<|nq (aa rfl)<|nq (aa rfl)<|nq (gN rfl rfl (by omega) (by omega))<|nq (ab rfl)<|ba<|bB (ae (t:=4) rfl<|ae (t:=6) rfl<|ae (t:=0) rfl<|ae (t:=1) rfl<|aC)<|aF<|dO<| ?_
  refine eW trivial rfl rfl ⟨?_,rfl⟩
  simp only[ef,if_neg h]
theorem sW(A:Option Addr)(n c:Nat)(l:List UInt8)(A' :Option Addr)(n' c' :Nat)(l' :List UInt8)(w:World)(h:Rd w 1 A n (aV l))(h' :Rd w 1 A' n' (aV l')):
  Calls Tryz.prog 208 #[.slice A n c,.slice A' n' c'] w fun e w' =>e= .returned (.int .i64 (cb l l'))∧w=w' :=by
 refine enter (N:=8) Tryz.func208 rfl rfl (by simp) ?_
 refine aW<|bc<|nq (ab rfl)<|ba<|aF<|aW<|bc<|nq (aa rfl)<|nq (aa rfl)<| ?_
 refine nq (wM rfl Tryz.func256 (by kernel_rfl) (by kernel_rfl) (by kernel_rfl) (show _=some Extern.BytealgCompare.compare by kernel_rfl) (tO h h')) ?_
 refine nq (ab rfl)<|ba<|bB (ae (t:=4) rfl<|ae (t:=0) rfl<|ae (t:=1) rfl<|aC)<|aF<|dO<| ?_
 exact eW trivial rfl rfl ⟨rfl,rfl⟩
theorem An(a b:List UInt8)(w:World)(ha:a.length=32)(hb:b.length=32):
  Calls Tryz.prog 171 #[.agg (aV a).toArray,.agg (aV b).toArray] w fun e w' =>e= .returned (.int .i64 (cb a b))∧Fr No w w' :=by
 refine enter (N:=24) Tryz.func171 rfl rfl (by simp) ?_
 refine aW<|bc<| ?_
 refine nx (pW rfl fun g1 w1 hg1 hf1 hb1=> ?_)
 refine nx (pW rfl fun g2 w2 hg2 hf2 hb2=> ?_)
 rw[bp]at hb1 hb2
 refine nq (ab rfl)<|ba<|aF<|aW<|aW<|bc<|nq (ab rfl)<|ba<|aF<|cW<| ?_
 refine kS (fun k=>32-k) (fun k=>[(2,.pointer (some ⟨g1,0,none⟩)),(3,.pointer (some ⟨g2,0,none⟩)),(5,.int .i64 (k:Nat))]) (fun k w' =>k≤32∧a.take k=b.take k∧Fr No w2 w') 0 (⟨Nat.zero_le _,rfl,Fr.refl _ _⟩) (ae (t:=2) rfl<|ae (t:=3) rfl<|ae (t:=5) rfl<|aC) (fun k w3 ⟨hk,hab,hf3⟩=> ?_)
 refine aW<|aW<|bc<|nq (aa rfl)<|nq (bq rfl rfl)<|ba<|bB (ae (t:=7) rfl<|ae (t:=2) rfl<|ae (t:=3) rfl<|ae (t:=5) rfl<|aC)<|aF<| ?_
 refine nF rfl (fun h=> ?_) (fun h=> ?_)
 ·have hk2:k<32:=by omega
  have h1:∀w',Fr No w2 w' →e8 w' g1 53 (aV a):=fun w' f=>(hb1.mU hf2).mU f
  have h2:∀w',Fr No w2 w' →e8 w' g2 53 (aV b):=fun w' f=>hb2.mU f
  have ga:=bL (l:=a) (i:=k) (by omega)
  have gb:=bL (l:=b) (i:=k) (by omega)
  refine dN<|aF<|aW<|cW<|aW<|aW<| ?_
  refine xV [(0,false),(1,false),(2,false),(3,false),(4,false),(5,false),(6,false)] (by kernel_rfl) (by kernel_rfl) rfl (fun w' =>Fr No w2 w') (hf3.cy (Fr.drew _)) (fun w4 hf4 hS4=> ?_)
  refine sq (fun w_ hS_=>aa rfl)<|sq (fun w_ hS_=>b6 rfl rfl Tryz.underlying53 ea rfl (by omega))<|sq (fun w_ hS_=>ay rfl iX (((h1 _ hS_).ax _ _ ga)))<|sq (fun w_ hS_=>aa rfl)<|sq (fun w_ hS_=>b6 rfl rfl Tryz.underlying53 ea rfl (by omega))<|sq (fun w_ hS_=>ay rfl iX (((h2 _ hS_).ax _ _ gb)))<|sq (fun w_ hS_=>bq rfl rfl)<|send<|bB (ae (t:=16) rfl<|ae (t:=7) rfl<|ae (t:=2) rfl<|ae (t:=3) rfl<|ae (t:=5) rfl<|aC)<|aF<| ?_
  refine nF rfl (fun hlt=> ?_) (fun hlt=> ?_)
  ·refine aW<|bc<|nq (ab rfl)<|ba<|aF<|dO<|bF<|cz<|bF<|bF<|cz<|bF<| ?_
   refine eW trivial rfl rfl ⟨?_,(hf1.cy hf2).cy hS4⟩
   rw[Gr hab (by omega) (by omega) (show(a.getD k 0).toNat<(b.getD k 0).toNat by omega)]
  ·refine dN<|aF<|aW<| ?_
   refine xV [(0,false),(1,false),(2,false),(3,false),(4,false),(5,false),(6,false)] (by kernel_rfl) (by kernel_rfl) rfl (fun w' =>Fr No w2 w') (hS4.cy (Fr.drew _)) (fun w5 hf5 hS5=> ?_)
   refine sq (fun w_ hS_=>aa rfl)<|sq (fun w_ hS_=>b6 rfl rfl Tryz.underlying53 ea rfl (by omega))<|sq (fun w_ hS_=>ay rfl iX (((h1 _ hS_).ax _ _ ga)))<|sq (fun w_ hS_=>aa rfl)<|sq (fun w_ hS_=>b6 rfl rfl Tryz.underlying53 ea rfl (by omega))<|sq (fun w_ hS_=>ay rfl iX (((h2 _ hS_).ax _ _ gb)))<|sq (fun w_ hS_=>da rfl rfl)<|send<|bB (ae (t:=23) rfl<|ae (t:=16) rfl<|ae (t:=7) rfl<|ae (t:=2) rfl<|ae (t:=3) rfl<|ae (t:=5) rfl<|aC)<|aF<| ?_
   refine nF rfl (fun hgt=> ?_) (fun hgt=> ?_)
   ·refine aW<|bc<|nq (ab rfl)<|ba<|aF<|dO<|cz<|bF<|bF<|cz<|bF<| ?_
    refine eW trivial rfl rfl ⟨?_,(hf1.cy hf2).cy hS5⟩
    rw[FH hab (by omega) (by omega) (show(b.getD k 0).toNat<(a.getD k 0).toNat by omega)]
   ·refine dN<|ff<|aF<|bc<|nq (aa rfl)<|nq (aM rfl rfl (bG (by omega) (by omega)))<|nq (ab rfl)<|ba<|bB (ae (t:=5) rfl<|ae (t:=23) rfl<|ae (t:=16) rfl<|ae (t:=7) rfl<|ae (t:=2) rfl<|ae (t:=3) rfl<|aC)<| ?_
    refine lf (k+1) (ae (t:=2) rfl<|ae (t:=3) rfl<|ae (t:=5) rfl<|aC) (⟨by omega,xP hab (by omega) (by omega) (fun q=>hlt (by have:(a.getD k 0).toNat<(b.getD k 0).toNat:=q;omega)) (fun q=>hgt (by have:(b.getD k 0).toNat<(a.getD k 0).toNat:=q;omega)),hS5⟩) (by omega)
 ·obtain rfl:k=32:=by omega
  refine jk<|bS<|bS<|cT<|aF<|aW<|bc<|nq (ab rfl)<|ba<|aF<|dO<| ?_
  refine eW trivial rfl rfl ⟨?_,(hf1.cy hf2).cy hf3⟩
  rw[List.take_of_length_le (by omega),List.take_of_length_le (by omega)]at hab
  rw[hab,mM]
theorem qP{a b:List UInt8}{j n:Nat}(ha:a.length=n)(hb:b.length=n)(hj:j<n):(a.take j++b.drop j).set j (a.getD j 0)=a.take (j+1)++b.drop (j+1):=by
 rw[List.set_append,if_neg (by rw[List.length_take];omega),List.length_take,Nat.min_eq_left (by omega),Nat.sub_self,dY (by omega),List.append_assoc]
 congr 1
 rw[List.drop_eq_getElem_cons (by omega)]
 rfl
theorem pz:(Value.agg (aV (List.replicate 32 0)).toArray).cells.toList=aV (List.replicate 32 0):=rfl
theorem of(A:Option Addr)(c:Nat)(l:List UInt8)(w:World)(hr:Rd w 1 A 32 (aV l)):
  Calls Tryz.prog 170 #[.slice A 32 c] w fun e w' =>e= .returned (.agg (aV l).toArray)∧Fr No w w' :=by
 have hl:l.length=32:=by have:=hr.1;rw[az]at this;omega
 refine enter (N:=16) Tryz.func170 rfl rfl (by simp) ?_
 refine aW<|bc<| ?_
 refine nx (mN cS fun g1 w1 hg1 hf1 hb1=> ?_)
 refine ba<|aF<|aW<|bc<| ?_
 refine nx (mN cS fun g2 w2 hg2 hf2 hb2=> ?_)
 rw[pz]at hb1 hb2
 have hlt:=hb1.lt
 refine ba<|aF<|aW<|aW<|bc<|nq (ab rfl)<|ba<|aF<|cW<| ?_
 refine kS (fun j=>32-j) (fun j=>[(0,.slice A 32 c),(2,.pointer (some ⟨g1,0,none⟩)),(3,.pointer (some ⟨g2,0,none⟩)),(4,.int .i64 (j:Nat))]) (fun j w' =>j≤32∧Fr No w w' ∧e8 w' g1 53 (aV (List.replicate 32 0))∧e8 w' g2 53 (aV (l.take j++(List.replicate 32 0).drop j))) 0 (⟨Nat.zero_le _,hf1.cy hf2,hb1.mU hf2,hb2⟩) (ae (t:=0) rfl<|ae (t:=2) rfl<|ae (t:=3) rfl<|ae (t:=4) rfl<|aC) (fun j w4 ⟨hj,hf4,i1,i2⟩=> ?_)
 refine aW<|aW<|bc<|nq (aa rfl)<|nq (bq rfl rfl)<|ba<|bB (ae (t:=6) rfl<|ae (t:=0) rfl<|ae (t:=2) rfl<|ae (t:=3) rfl<|ae (t:=4) rfl<|aC)<|aF<| ?_
 refine nF rfl (fun h=> ?_) (fun h=> ?_)
 ·have ga:=bL (l:=l) (i:=j) (by omega)
  have hlen:(l.take j++(List.replicate 32 (0:UInt8)).drop j).length=32:=by rw[List.length_append,List.length_take,List.length_drop,List.length_replicate];omega
  have r4:=hr.mU hf4
  refine dN<|aF<|aW<|cW<|bc<|nq (aa rfl)<|nq (aa rfl)<|nq (aa rfl)<|nq (aT rfl rfl Tryz.underlying27 ea r4.2.1 rfl (by omega))<|nq (ay rfl iX (r4.cell ga))<|nq (b6 rfl rfl Tryz.underlying53 ea rfl (by omega))<| ?_
  refine Bo (E4 rfl rfl ea rfl i2 (by rw[az];omega) fun w5 hf5 i2' hs5=> ?_)
  rw[Nat.zero_add,←vJ,qP hl (List.length_replicate ..) (by omega)]at i2'
  refine ba<|bB (ae (t:=6) rfl<|ae (t:=0) rfl<|ae (t:=2) rfl<|ae (t:=3) rfl<|ae (t:=4) rfl<|aC)<|ff<|aF<|bc<|nq (aa rfl)<|nq (aM rfl rfl (bG (by omega) (by omega)))<|nq (ab rfl)<|ba<|bB (ae (t:=4) rfl<|ae (t:=6) rfl<|ae (t:=0) rfl<|ae (t:=2) rfl<|ae (t:=3) rfl<|aC)<| ?_
  refine lf (j+1) (ae (t:=0) rfl<|ae (t:=2) rfl<|ae (t:=3) rfl<|ae (t:=4) rfl<|aC) (⟨by omega,hf4.new hf5 (fun i hi=>by have:=hf1.size;omega),i1.fr hf5 (by omega),i2'⟩) (by omega)
 ·obtain rfl:j=32:=by omega
  have e:l.take 32++(List.replicate 32 (0:UInt8)).drop 32=l:=by
   rw[List.take_of_length_le (by omega),List.drop_of_length_le (by simp)];simp
  rw[e]at i2
  refine jk<|bS<|bS<|cT<|aF<|aW<|bc<|nq (aU rfl b9 bf ((by rw[az];exact hl)) i2.ax)<| ?_
  refine Bo (pH rfl rfl bf hl i1 (by rw[az];simp) fun w5 hf5 i1' hs5=> ?_)
  refine ba<|bB (ae (t:=6) rfl<|ae (t:=0) rfl<|ae (t:=2) rfl<|ae (t:=3) rfl<|ae (t:=4) rfl<|aC)<|aF<|dO<| ?_
  exact FN trivial rfl rfl b9 bf (by rw[az];exact hl) i1'.ax ⟨rfl,hf4.new hf5 (fun i hi=>by omega)⟩
theorem bytes(a:List UInt8)(w:World)(ha:a.length=32):
  Calls Tryz.prog 183 #[.agg (aV a).toArray] w fun e w' =>∃v,e= .returned v∧Go.Eng.Own w' w.heap.size 5 1 v 32 (aV a)∧Fr No w w' :=by
 refine enter (N:=16) Tryz.func183 rfl rfl (by simp) ?_
 refine aW<|bc<| ?_
 refine nx (pW rfl fun g1 w1 hg1 hf1 hb1=> ?_)
 rw[bp]at hb1
 refine nq (ab rfl)<|ba<|aF<|aW<|bc<|nq (ab rfl)<|ba<|aF<|aW<|aW<|bc<|nq (ab rfl)<|ba<|aF<|cW<| ?_
 refine sd (fun k _=>32-k) (fun k v=>[(1,.pointer (some ⟨g1,0,none⟩)),(3,v),(4,.int .i64 (k:Nat))]) (fun k v w' =>k≤32∧Go.Eng.Own w' w1.heap.size 5 1 v k (aV (a.take k))∧Fr No w1 w') 0 (.slice none 0 0) (⟨Nat.zero_le _,Own.nil w1 w1.heap.size _ 1,Fr.refl _ _⟩) (ae (t:=1) rfl<|ae (t:=3) rfl<|ae (t:=4) rfl<|aC) (fun k v w2 ⟨hk,ho,hf⟩=> ?_)
 refine aW<|aW<|bc<|nq (aa rfl)<|nq (bq rfl rfl)<|ba<|bB (ae (t:=6) rfl<|ae (t:=1) rfl<|ae (t:=3) rfl<|ae (t:=4) rfl<|aC)<|aF<| ?_
 refine nF rfl (fun h=> ?_) (fun h=> ?_)
 ·have ga:=bL (l:=a) (i:=k) (by omega)
  refine dN<|aF<|aW<|cW<|bc<|nq (aa rfl)<|nq (aa rfl)<|nq (b6 rfl rfl Tryz.underlying53 ea rfl (by omega))<|nq (ay rfl iX ((hb1.mU hf).ax _ _ ga))<| ?_
  refine nx (na Tryz.underlying27 fa rfl rfl rfl (by simp[Value.cells,B8]) (by decide) (by decide) fun g w3 hg hf3 hb3=> ?_)
  refine nx (kL rfl rfl Tryz.underlying27 Tryz.underlying27 (by exact .inl rfl) fa rfl (ho.mU hf3) (Src.gi hb3 rfl) (aZ (l:=[_])) (by unfold maxLen;omega) (by omega) (hf.cy hf3).size fun v4 w4 ho4 hf4 hv4=> ?_)
  refine nq (ab rfl)<|ba<|bB (ae (t:=3) rfl<|ae (t:=6) rfl<|ae (t:=1) rfl<|ae (t:=4) rfl<|aC)<|ff<|aF<|bc<|nq (aa rfl)<|nq (aM rfl rfl (bG (by omega) (by omega)))<|nq (ab rfl)<|ba<|bB (ae (t:=4) rfl<|ae (t:=3) rfl<|ae (t:=6) rfl<|ae (t:=1) rfl<|aC)<| ?_
  refine pN (k+1) v4 (ae (t:=1) rfl<|ae (t:=3) rfl<|ae (t:=4) rfl<|aC) (⟨by omega,by rw[dY (by omega),bH];exact ho4,(hf.cy hf3).new hf4 (fun i hi=>(ho.from hi).1)⟩) (by omega)
 ·obtain rfl:k=32:=by omega
  refine jk<|bS<|bS<|cT<|aF<|aW<|bc<|nq (aa rfl)<|nq (ab rfl)<|ba<|bB (ae (t:=2) rfl<|ae (t:=6) rfl<|ae (t:=1) rfl<|ae (t:=3) rfl<|ae (t:=4) rfl<|aC)<|aF<|dO<| ?_
  rw[List.take_of_length_le (by omega)]at ho
  exact eW trivial rfl rfl ⟨v,rfl,ho.wide hf1.size,hf1.cy hf⟩
end Go.Proofs.YtmibdabdlgmafaaGreatDoor
end
section
set_option maxRecDepth 20000
namespace Go.Proofs.YtmibdabdlgmafaaGreatDoor
open Go.Eng Go.Hx
theorem Az{P:Program}{Q:Exit→Act→World→Prop}{N:Nat}{D:List Deferred}{ρ:Env}{w:World}{x:Operand}{ty t:TypeId}{v:Value}{K:Value→World→Prop}(hx:ev ρ x=some v)(k:∀g w',w.heap.size≤g→Fr No w w' →e8 w' g t v.cells.toList→w' =w.alloc (.cells v.cells t)→K (.pointer (some ⟨g,0,none⟩)) w'):XW P Q N D ρ w (.box t x) ty K:=
 c7 (w' :=w.alloc (.cells v.cells t)) (fun a _ _ _ _ ha=>by simp[execOp,ha.eval hx,Instr.box,newVar,newRow])
  (k _ _ (Nat.le_refl _) (Fr.alloc w _) (by have:=e8.new w t v.cells.toList;simpa using this) rfl)
theorem zZ(a b:List UInt8)(w:World)(ha:a.length=32)(hb:b.length=32):
  Calls Tryz.prog 148 #[.agg (aV a).toArray,.agg (aV b).toArray] w fun e w' =>e= .returned (.int .i64 (cb a b))∧∃q os,w' =Go.Sort.grow (w.drewN q) os:=by
 refine enter (N:=8) Tryz.func148 rfl rfl (by simp) ?_
 refine aW<|bc<| ?_
 refine nx (Az rfl fun g1 w1 hg1 hf1 hb1 hw1=> ?_)
 refine nx (Az rfl fun g2 w2 hg2 hf2 hb2 hw2=> ?_)
 rw[bp]at hb1 hb2
 refine nq (ab rfl)<|ba<|aF<|aW<| ?_
 refine xV [(0,false),(1,false),(2,true),(3,false)] (by kernel_rfl) (by kernel_rfl) rfl (fun w' =>Fr No w2 w' ∧∃q,w' =w2.drewN q) (⟨Fr.drew _,1,rfl⟩) (fun w3 hf3 hS3=> ?_)
 refine sq (fun w_ hS_=>sb rfl Tryz.underlying53 ea)<|sq (fun w_ hS_=>sb rfl Tryz.underlying53 ea)<| ?_
 refine sx (eh rfl Tryz.call208 (sW _ _ _ a _ _ _ b _ (Rd.gi ((hb1.mU hf2).mU hf3) (by rw[az];omega)) (Rd.gi (hb2.mU hf3) (by rw[az];omega))) ?_)
 rintro e_ w4 ⟨rfl,rfl⟩
 refine⟨_,rfl, ?_⟩
 refine⟨hS3, ?_⟩
 refine sq (fun w_ hS_=>ab rfl)<|send<|bB (ae (t:=4) rfl<|ae (t:=3) rfl<|ae (t:=2) rfl<|ae (t:=0) rfl<|ae (t:=1) rfl<|aC)<|aF<|dO<| ?_
 obtain⟨_,q,rfl⟩:=hS3
 exact eW trivial rfl rfl ⟨rfl,q,_,by rw[hw2,hw1,Go.Sort.alloc_eq_grow,Go.Sort.alloc_eq_grow,Go.Sort.grow_grow];rfl⟩
end Go.Proofs.YtmibdabdlgmafaaGreatDoor
end
section
namespace Go.Proofs
open Go.Shelf
def Tryz.xq:Go.Shelf.Ren:=⟨fun|6=>147|15=>207|14=>206|28=>254|29=>255|20=>246|21=>247|22=>248|23=>249|24=>250|25=>251|26=>252|27=>253|46=>286|47=>287|48=>288|49=>289|50=>290|57=>306|n=>n,fun|22=>33|24=>53|25=>228|3=>3|39=>263|0=>0|53=>166|55=>310|4=>4|46=>339|45=>338|50=>343|5=>5|9=>9|66=>376|70=>380|76=>391|77=>324|n=>n,fun|n=>n⟩
theorem Tryz.Dj:Go.Proofs.SlLaysF0.n6 Tryz.prog Tryz.xq:={
 mixed:=by kernel_rfl
 f6:=⟨Tryz.f147.name,by decide,Tryz.func147.trans (congrArg some (by kernel_rfl))⟩
 f14:=⟨Tryz.f206.name,by decide,Tryz.func206.trans (congrArg some (by kernel_rfl))⟩
 f15:=Tryz.func207.trans (congrArg some (by kernel_rfl))
 f20:=⟨Tryz.f246.name,by decide,Tryz.func246.trans (congrArg some (by kernel_rfl))⟩
 f21:=⟨Tryz.f247.name,by decide,Tryz.func247.trans (congrArg some (by kernel_rfl))⟩
 f22:=⟨Tryz.f248.name,by decide,Tryz.func248.trans (congrArg some (by kernel_rfl))⟩
 f23:=⟨Tryz.f249.name,by decide,Tryz.func249.trans (congrArg some (by kernel_rfl))⟩
 f24:=⟨Tryz.f250.name,by decide,Tryz.func250.trans (congrArg some (by kernel_rfl))⟩
 f25:=⟨Tryz.f251.name,by decide,Tryz.func251.trans (congrArg some (by kernel_rfl))⟩
 f26:=⟨Tryz.f252.name,by decide,Tryz.func252.trans (congrArg some (by kernel_rfl))⟩
 f27:=⟨Tryz.f253.name,by decide,Tryz.func253.trans (congrArg some (by kernel_rfl))⟩
 f28:=Tryz.func254.trans (congrArg some (by kernel_rfl))
 f29:=Tryz.func255.trans (congrArg some (by kernel_rfl))
 f46:=⟨Tryz.f286.name,by decide,Tryz.func286.trans (congrArg some (by kernel_rfl))⟩
 f47:=Tryz.func287.trans (congrArg some (by kernel_rfl))
 f48:=Tryz.func288.trans (congrArg some (by kernel_rfl))
 f49:=⟨Tryz.f289.name,by decide,Tryz.func289.trans (congrArg some (by kernel_rfl))⟩
 f50:=⟨Tryz.f290.name,by decide,Tryz.func290.trans (congrArg some (by kernel_rfl))⟩
 f57:=⟨Tryz.f306.name,by decide,Tryz.func306.trans (congrArg some (by kernel_rfl))⟩
 t0:=Tryz.underlying0
 a0:=Tryz.isAgg0
 z0:=Tryz.sizeOf0
 v0:=Tryz.zeroValue0
 t3:=Tryz.underlying3
 a3:=Tryz.isAgg3
 z3:=Tryz.sizeOf3
 v3:=Tryz.zeroValue3
 t4:=Tryz.underlying4
 a4:=Tryz.isAgg4
 z4:=Tryz.sizeOf4
 v4:=Tryz.zeroValue4
 t5:=Tryz.underlying5
 a5:=Tryz.isAgg5
 z5:=Tryz.sizeOf5
 v5:=Tryz.zeroValue5
 t9:=Tryz.underlying9
 a9:=Tryz.isAgg9
 z9:=Tryz.sizeOf9
 v9:=Tryz.zeroValue9
 t22:=Tryz.underlying33
 a22:=Tryz.isAgg33
 z22:=Tryz.sizeOf33
 v22:=Tryz.zeroValue33
 t25:=Tryz.underlying228
 a25:=Tryz.isAgg228
 z25:=Tryz.sizeOf228
 v25:=Tryz.zeroValue228
 t39:=Tryz.underlying263
 a39:=Tryz.isAgg263
 z39:=Tryz.sizeOf263
 v39:=Tryz.zeroValue263
 t45:=Tryz.underlying338
 a45:=Tryz.isAgg338
 z45:=Tryz.sizeOf338
 v45:=Tryz.zeroValue338
 t46:=Tryz.underlying339
 a46:=Tryz.isAgg339
 z46:=Tryz.sizeOf339
 v46:=Tryz.zeroValue339
 t50:=Tryz.underlying343
 a50:=Tryz.isAgg343
 z50:=Tryz.sizeOf343
 v50:=Tryz.zeroValue343
 t53:=Tryz.underlying166
 a53:=Tryz.isAgg166
 z53:=Tryz.sizeOf166
 v53:=Tryz.zeroValue166
 t55:=Tryz.underlying310
 a55:=Tryz.isAgg310
 z55:=Tryz.sizeOf310
 v55:=Tryz.zeroValue310
 t66:=Tryz.underlying376
 a66:=Tryz.isAgg376
 z66:=Tryz.sizeOf376
 v66:=Tryz.zeroValue376
 t70:=Tryz.underlying380
 a70:=Tryz.isAgg380
 z70:=Tryz.sizeOf380
 v70:=Tryz.zeroValue380
 t76:=Tryz.underlying391
 a76:=Tryz.isAgg391
 z76:=Tryz.sizeOf391
 v76:=Tryz.zeroValue391
 t77:=Tryz.underlying324
 a77:=Tryz.isAgg324
 z77:=Tryz.sizeOf324
 v77:=Tryz.zeroValue324}
end Go.Proofs
end
section
namespace Go.Hx
open Go.Eng
abbrev j8(ds:List (List UInt8)):Prop:=∀d∈ds,d.length=32
def dz:List (List UInt8)→List UInt8→List (List UInt8)
 | [],d=>[d]
 |a::r,d=>if cb a d<0 then a::dz r d else if a=d then a::r else d::a::r
theorem o4:∀(ds:List (List UInt8)) (d:List UInt8) (k:Nat),k≤ds.length→(∀i,i<k→cb (ds.getD i []) d<0)→(k<ds.length→¬cb (ds.getD k []) d<0)→
  dz ds d=if k<ds.length∧ds.getD k []=d then ds else ds.take k++[d]++ds.drop k
 | [],d,k,hk,_,_=>by
  obtain rfl:k=0:=by simpa using hk
  simp[dz]
 |a::r,d,0,_,_,h=>by
  have h0:=h (by simp)
  simp only[List.getD_cons_zero]at h0
  simp only[dz,if_neg h0,List.getD_cons_zero,List.take_zero,List.nil_append,List.drop_zero,List.singleton_append,List.length_cons,Nat.zero_lt_succ,true_and]
 |a::r,d,k+1,hk,h1,h2=>by
  have ha:=h1 0 (by omega)
  simp only[List.getD_cons_zero]at ha
  have ih:=o4 r d k (by simpa using hk) (fun i hi=>by have:=h1 (i+1) (by omega);simpa using this) (fun hl=>by have:=h2 (by simpa using hl);simpa using this)
  simp only[dz,if_pos ha,ih,List.getD_cons_succ,List.length_cons,Nat.succ_lt_succ_iff,List.take_succ_cons,List.drop_succ_cons,List.cons_append]
  split <;> rfl
theorem ow(ds:List (List UInt8))(d:List UInt8):ds.length≤(dz ds d).length∧(dz ds d).length≤ds.length+1:=by
 induction ds with
 |nil=>simp[dz]
 |cons a r ih=>
  simp only[dz]
  split
  ·simp only[List.length_cons];omega
  ·split <;> simp
theorem uu{ds:List (List UInt8)}{d:List UInt8}(h:j8 ds)(hd:d.length=32):j8 (dz ds d):=by
 induction ds with
 |nil=>intro x hx;simp[dz]at hx;subst hx;exact hd
 |cons a r ih=>
  have ih' :=ih (fun x hx=>h x (List.mem_cons_of_mem _ hx))
  have ha:=h a (List.mem_cons_self ..)
  intro x hx
  simp only[dz]at hx
  split at hx
  ·rcases List.mem_cons.1 hx with rfl|hx
   ·exact ha
   ·exact ih' x hx
  ·split at hx
   ·exact h x hx
   ·rcases List.mem_cons.1 hx with rfl|hx
    ·exact hd
    ·exact h x hx
end Go.Hx
end
section
namespace Go.Hx
open Go.Eng
def dI(l:List (List UInt8)):Prop:=l.Pairwise fun a b=>cb a b<0
theorem AW{a b:List UInt8}(h:cb a b<0):¬cb b a<0:=by have:=gp a b;omega
theorem kH{a b c:List UInt8}(h:cb a b<0)(k:cb b c<0):cb a c<0:=by
 have h1:=mA a b c (by omega) (by omega)
 refine Decidable.byContradiction fun hn=> ?_
 have h0:cb a c=0:=by omega
 have:=pk a c h0
 subst this
 have:=gp a b
 omega
theorem tU{a b c:List UInt8}(h:cb a b<0)(k:cb b c≤0):cb a c<0:=by
 by_cases h0:cb b c=0
 ·have:=pk b c h0
  subst this
  exact h
 ·exact kH h (by omega)
theorem dI.ext:∀{l m:List (List UInt8)},dI l→dI m→(∀x,x∈l↔x∈m)→l=m
 | [],[],_,_,_=>rfl
 | [],y::m,_,_,h=>absurd ((h y).2 (List.mem_cons_self ..)) (List.not_mem_nil)
 |x::l,[],_,_,h=>absurd ((h x).1 (List.mem_cons_self ..)) (List.not_mem_nil)
 |x::l,y::m,hl,hm,h=>by
  have hl' :=List.pairwise_cons.1 hl
  have hm' :=List.pairwise_cons.1 hm
  have e:x=y:=by
   rcases List.mem_cons.1 ((h x).1 (List.mem_cons_self ..))with e|e
   ·exact e
   ·rcases List.mem_cons.1 ((h y).2 (List.mem_cons_self ..))with e' |e'
    ·exact e'.symm
    ·exact absurd (hl'.1 y e') (AW (hm'.1 x e))
  subst e
  rw[dI.ext hl'.2 hm'.2 (fun z=> ?_)]
  have ne:∀{n:List (List UInt8)},(∀a' ∈n,cb x a' <0)→z∈n→z≠x:=fun hn hz e=>by
   subst e
   have:=hn z hz
   rw[mM]at this
   omega
  constructor
  ·intro hz
   exact(List.mem_cons.1 ((h z).1 (List.mem_cons_of_mem _ hz))).resolve_left (ne hl'.1 hz)
  ·intro hz
   exact(List.mem_cons.1 ((h z).2 (List.mem_cons_of_mem _ hz))).resolve_left (ne hm'.1 hz)
theorem j3:∀(l:List (List UInt8)) (d x:List UInt8),x∈dz l d↔x=d∨x∈l
 | [],d,x=>by simp[dz]
 |a::r,d,x=>by
  unfold dz
  split
  ·rw[List.mem_cons,j3 r d x,List.mem_cons]
   constructor
   ·rintro(h|h|h)
    ·exact .inr (.inl h)
    ·exact .inl h
    ·exact .inr (.inr h)
   ·rintro(h|h|h)
    ·exact .inr (.inl h)
    ·exact .inl h
    ·exact .inr (.inr h)
  ·split
   ·next h=>subst h;simp
   ·simp
theorem k4:∀(l:List (List UInt8)) (d:List UInt8),dI l→dI (dz l d)
 | [],d,_=>by simp[dz,dI]
 |a::r,d,h=>by
  have h' :=List.pairwise_cons.1 h
  unfold dz
  split
  ·next hc=>
   refine List.pairwise_cons.2 ⟨fun y hy=> ?_,k4 r d h'.2⟩
   rcases(j3 r d y).1 hy with rfl|hy
   ·exact hc
   ·exact h'.1 y hy
  ·next hc=>
   split
   ·exact h
   ·next hne=>
    have hd:cb d a<0:=by
     have h1:=gp a d
     have h2:cb a d≠0:=fun e=>hne (pk a d e)
     omega
    refine List.pairwise_cons.2 ⟨fun y hy=> ?_,h⟩
    rcases List.mem_cons.1 hy with rfl|hy
    ·exact hd
    ·exact kH hd (h'.1 y hy)
theorem jj:∀(l acc:List (List UInt8)),dI acc→dI (l.foldl dz acc)∧∀x,x∈l.foldl dz acc↔x∈acc∨x∈l
 | [],acc,h=>⟨h,fun x=>by simp⟩
 |d::r,acc,h=>by
  obtain⟨h1,h2⟩:=jj r (dz acc d) (k4 acc d h)
  refine⟨h1,fun x=> ?_⟩
  rw[List.foldl_cons,h2,j3,List.mem_cons]
  constructor
  ·rintro((h|h)|h)
   ·exact .inr (.inl h)
   ·exact .inl h
   ·exact .inr (.inr h)
  ·rintro(h|h|h)
   ·exact .inl (.inr h)
   ·exact .inl (.inl h)
   ·exact .inr h
def zX(l:List (List UInt8)):Prop:=l.Pairwise fun a b=>cb a b≤0
def F8(a b:List UInt8):Bool:= !(decide (cb b a<0))
def j4(l:List (List UInt8)):List (List UInt8):=l.mergeSort F8
theorem oM(l:List (List UInt8)):zX (j4 l):=by
 have:=List.pairwise_mergeSort (le:=F8) (fun a b c hab hbc=>by
  simp only[F8,Bool.not_eq_true',decide_eq_false_iff_not]at*
  have h1:=gp a b
  have h2:=gp b c
  have h3:=gp a c
  have h4:=mA a b c (by omega) (by omega)
  omega) (fun a b=>by
  simp only[F8,Bool.or_eq_true,Bool.not_eq_true',decide_eq_false_iff_not]
  have h1:=gp a b
  omega) l
 exact this.imp fun{a b} h=>by
  simp only[F8,Bool.not_eq_true',decide_eq_false_iff_not]at h
  have h1:=gp a b
  omega
theorem jT(l:List (List UInt8)):(j4 l).Perm l:=List.mergeSort_perm _ _
theorem tn(l:List (List UInt8)):(j4 l).length=l.length:=List.length_mergeSort ..
def lY:List (List UInt8)→List (List UInt8)
 | []=>[]
 | [a]=>[a]
 |a::b::r=>if a=b then lY (b::r)else a::lY (b::r)
theorem sZ:∀(l:List (List UInt8)) (x:List UInt8),x∈lY l↔x∈l
 | [],x=>Iff.rfl
 | [a],x=>Iff.rfl
 |a::b::r,x=>by
  unfold lY
  have ih:=sZ (b::r) x
  split
  ·next h=>subst h;rw[ih];simp
  ·rw[List.mem_cons,ih,←List.mem_cons]
theorem qd:∀(l:List (List UInt8)),zX l→dI (lY l)
 | [],_=>List.Pairwise.nil
 | [a],_=>by simp[lY,dI]
 |a::b::r,h=>by
  have h' :=List.pairwise_cons.1 h
  have ih:=qd (b::r) h'.2
  unfold lY
  split
  ·exact ih
  ·next hne=>
   refine List.pairwise_cons.2 ⟨fun y hy=> ?_,ih⟩
   have hab:cb a b<0:=by
    have h1:=h'.1 b (List.mem_cons_self ..)
    have h2:cb a b≠0:=fun e=>hne (pk a b e)
    omega
   rcases List.mem_cons.1 ((sZ (b::r) y).1 hy)with rfl|hy
   ·exact hab
   ·exact tU hab ((List.pairwise_cons.1 h'.2).1 y hy)
theorem tL(l:List (List UInt8)):lY (j4 l)=l.foldl dz []:=by
 obtain⟨h1,h2⟩:=jj l [] List.Pairwise.nil
 refine dI.ext (qd _ (oM l)) h1 (fun x=> ?_)
 rw[sZ,h2,(jT l).mem_iff]
 simp
theorem tj{l:List (List UInt8)}(h:l.Nodup):dI (j4 l):=by
 have h1:=oM l
 have h2:(j4 l).Nodup:=(jT l).nodup_iff.2 h
 refine(h1.and h2).imp fun{a b} hab=> ?_
 have:cb a b≠0:=fun e=>hab.2 (pk a b e)
 omega
end Go.Hx
end
section
namespace Go.Eng
open Go.RowKit
abbrev GM(v:Value):List PanicEntry:=[{v,recovered:=false}]
def RE(b:cK)(R Rp:Value→List bn→List bn→Prop):Ending→World→Prop:=fun e w' =>
 (∃v X' S',e= .returned v∧R v X' S' ∧Mem b X' S' w')∨(∃v X' S',e= .panicked (GM v)∧Rp v X' S' ∧Mem b X' S' w')
def EO(P:Program)(f:Nat)(args:List Value)(X0 S0:List bn)(R Rp:Value→List bn→List bn→Prop):Prop:=
 ∀w,Mem ⟨w,dJ X0,dJ S0⟩ X0 S0 w→Calls P f args.toArray w (RE ⟨w,dJ X0,dJ S0⟩ R Rp)
section
variable{P:Program}{Q:Exit→Act→World→Prop}{N:Nat}{D:List Deferred}{ρ:Env}{b:cK}{X X' X0 Xr S S' S0:List bn}{ty:TypeId}{x:Operand}{K:Value→List bn→List bn→Prop}
theorem BU{w:World}{K:Value→World→Prop}{f:Nat}{l:List Operand}{vs:List Value}{tys:Array TypeId}{R:Ending→World→Prop}(hv:oU ρ l=some vs)(hf:∀args w,(callFunc f args).run P w= .ok (.enter f args) w)
  (hc:Calls P f vs.toArray w R) (hR:∀e w',R e w' →(∃v,e= .returned v∧K v w')∨∃c,e= .panicked c∧WQ Q N D (.panic c) ρ w'):XW P Q N D ρ w (.call ⟨.value (.func f),l.toArray,tys⟩) ty K:=by
 intro a dst pos af g ha
 unfold Oper.wp
 have:(execOp a.eval ⟨dst,.call ⟨.value (.func f),l.toArray,tys⟩,ty,pos,af,g⟩).run P w= .ok (.enter f vs.toArray) w:=by
  simp[execOp,resolve,Deferred.ofValue,Act.eval,invoke,ha.jO hv,hf]
 rw[this]
 refine Calls.mono hc ?_
 intro e w' he
 rcases hR e w' he with⟨v,rfl,hk⟩|⟨c,rfl,hk⟩
 ·exact⟨v,rfl,hk⟩
 ·exact hk a ha
theorem gM{f:Nat}{l:List Operand}{vs:List Value}{tys:Array TypeId}{R Rp:Value→List bn→List bn→Prop}(hv:oU ρ l=some vs)(hf:∀args w,(callFunc f args).run P w= .ok (.enter f args) w)
  (hc:EO P f vs X0 S0 R Rp) (is:List Nat) (hX:bW is X=some (X0,Xr)) (js:List Nat) (hS:dT js S=some S0)
  (kp:∀v X' S',Rp v X' S' →HQ Q N D (.panic (GM v)) ρ b (X' ++Xr) (S' ++S)) (k:∀v X' S',R v X' S' →K v (X' ++Xr) (S' ++S)):XH P Q N D ρ b X S (.call ⟨.value (.func f),l.toArray,tys⟩) ty K:=fun w m=>by
 have m1:=m.perm (au _ _ _ _ hX)
 refine BU hv hf (hc w (m1.part (cx _ _ _ hS))) ?_
 rintro e w' (⟨v,X',S',rfl,hR,m'⟩|⟨v,X',S',rfl,hR,m'⟩)
 ·exact .inl ⟨v,rfl,_,_,m1.frame (cx _ _ _ hS) m',k v X' S' hR⟩
 ·exact .inr ⟨_,rfl,kp v X' S' hR w' (m1.frame (cx _ _ _ hS) m')⟩
theorem ey{K:Act→World→Prop}{c:List PanicEntry}(h:HQ Q N D (.panic c) ρ b X S):HQ (Exit.then K Q) N D (.panic c) ρ b X S:=h
end
theorem CQ{P:Program}{f:Nat}{fn:Func}{c:Code}{vs:List Value}{R Rp:Value→List bn→List bn→Prop}{N:Nat}{X0 S0:List bn}(hf:P.funcs[f]? =some fn)(hb:fn.body=some c)(hN:fn.ntmps=N)(hl:vs.length≤N)
  (h:∀b,HC P (bodyPost P fn (RE b R Rp)) N [] c (gy vs 0) b X0 S0):EO P f vs X0 S0 R Rp:=fun w m=>enter hf hb hN hl (h _ w m)
section
variable{P:Program}{fn:Func}{R Rp:Value→List bn→List bn→Prop}{N:Nat}{D:List Deferred}{ρ:Env}{b:cK}{X X' Xz Xr X0 S S' S0:List bn}{e:Exit}{u:FrameMode}
theorem qN{R1 R2:Ending→World→Prop}(h:∀e w,R1 e w→R2 e w):∀e a w,bodyPost P fn R1 e a w→bodyPost P fn R2 e a w
 | .normal,a,w,⟨h1,v,h2,h3⟩=>⟨h1,v,h2,h _ _ h3⟩
 | .ret,a,w,⟨h1,v,h2,h3⟩=>⟨h1,v,h2,h _ _ h3⟩
 | .panic c,a,w,⟨h1,h2⟩=>⟨h1,h _ _ h2⟩
 | .outgrown,a,w,h1=>h _ _ h1
 | .exit _,a,w,h1=>h1.elim
 | .goto _,a,w,h1=>h1.elim
theorem FL(h:HQ (bodyPost P fn (RB b R)) N D e ρ b X S):HQ (bodyPost P fn (RE b R Rp)) N D e ρ b X S:=fun w m a ha=>
 qN (fun e w h=>by obtain⟨v,X',S',h1,h2,h3⟩:=h;exact .inl ⟨v,X',S',h1,h2,h3⟩) _ _ _ (h w m a ha)
theorem FD{v:Value}(is:List Nat)(hX:bW is X=some (X',Xz))(js:List Nat)(hS:dT js S=some S')(hR:Rp v X' S'):HQ (bodyPost P fn (RE b R Rp)) N [] (.panic (GM v)) ρ b X S:=fun w m a ha=>
 ⟨ha.df,.inr ⟨v,X',S',rfl,hR,m.out is hX js hS⟩⟩
theorem vK{t t' t'' sz:Nat}{ty:TypeId}{p:Addr}{cs:List Value}{v' v'' :Value}(he:Leaves e)(hr:fn.results= #[.cell t ty,.tmp t',.tmp t''])(hv:get ρ t=some (.pointer (some p)))(hv' :get ρ t' =some v')(hv'' :get ρ t'' =some v'')(ha:dD P ty=some true)(hs:fA P ty=some sz)(hl:cs.length=sz)
  (hc:∀{w},Mem b X S w→∀j u,cs[j]? =some u→w.cell? (p.add j)=some u) (is:List Nat) (hX:bW is X=some (X',Xz)) (js:List Nat) (hS:dT js S=some S') (hR:R (.tuple #[.agg cs.toArray,v',v'']) X' S'):HQ (bodyPost P fn (RB b R)) N [] e ρ b X S:=
 fun w m=>gO he (fun a hA=>by have h1:=hA.getD hv;have h2:=hA.getD hv';have h3:=hA.getD hv'';simp at h1 h2 h3;simp[results,hr,h1,h2,h3,asAddr,jH ha hs hl (hc m)]) ⟨_,_,_,rfl,hR,m.out is hX js hS⟩
def DH(P:Program)(fn:Func)(b:cK)(R:Value→List bn→List bn→Prop)(N:Nat)(D:List Deferred)(ρ:Env)(X S:List bn)(u:FrameMode):Prop:=∀w,Mem b X S w→∀tmps:Array Value,(∀t v,get ρ t=some v→tmps[t]? =some v)→Go.Leaves P fn tmps (RB b R) D u w
theorem vH(he:Leaves e)(h:DH P fn b R N D ρ X S .returning):HQ (bodyPostD P fn (RB b R)) N D e ρ b X S:=EK he h
theorem jg{c:List PanicEntry}(h:DH P fn b R N D ρ X S (.panicking c)):HQ (bodyPostD P fn (RB b R)) N D (.panic c) ρ b X S:=fun w m a ha=>by
 have:=h w m a.tmps ha.gt
 show Go.Leaves P fn a.tmps (RB b R) a.defers (.panicking c) w
 rw[ha.df]
 exact this
def C5(P:Program)(f:Nat)(args:List Value)(u:FrameMode)(X0 S0:List bn)(R:FrameMode→List bn→List bn→Prop):Prop:=
 ∀w,Mem ⟨w,dJ X0,dJ S0⟩ X0 S0 w→CallsD P f args.toArray u w fun e u' w' =>e= .returned (.tuple #[])∧∃X' S',R (settle u') X' S' ∧Mem ⟨w,dJ X0,dJ S0⟩ X' S' w'
theorem mL{f:Nat}{vs cap:List Value}{Rd:FrameMode→List bn→List bn→Prop}(hu:u≠ .run)(hcall:∀args w,(callFunc f args).run P w= .ok (.enter f args) w)(hc:C5 P f (vs++cap) u X0 S0 Rd)(is:List Nat)(hX:bW is X=some (X0,Xr))(js:List Nat)(hS:dT js S=some S0)
  (k:∀u' X' S',Rd u' X' S' →DH P fn b R N D ρ (X' ++Xr) (S' ++S) u'):DH P fn b R N (⟨.fn (.func f) cap.toArray,vs.toArray⟩::D) ρ X S u:=fun w m tmps ht=>by
 have m1:=m.perm (au _ _ _ _ hX)
 refine leaves_cons (f:=f) (args:=(vs++cap).toArray) hu ?_ ?_
 ·simp[invoke,hcall]
 ·refine CallsD.mono (hc w (m1.part (cx _ _ _ hS))) ?_
  rintro e u' w' ⟨rfl,X',S',hR,m'⟩
  exact k _ _ _ hR w' (m1.frame (cx _ _ _ hS) m') tmps ht
end
section
variable{P:Program}{ops:Array Oper}{fn:Func}{N:Nat}{D:List Deferred}{ρ ρ' :Env}{w:World}{c₀:Frame}{cs:List Frame}{R:Ending→FrameMode→World→Prop}{Q:Exit→Act→List Frame→World→Prop}{op:Op}{ty:TypeId}{pos:String}{af:Array Edge}{d:Nat}{v:Value}{rest:List Nat}{u:FrameMode}
def SL(P:Program)(ops:Array Oper)(Q:Exit→Act→List Frame→World→Prop)(N:Nat)(D:List Deferred)(l:List Nat)(ρ:Env)(cs:List Frame)(w:World):Prop:=∀a,Ag N D ρ a→wpOpsS P ops Q l a cs w
theorem Hw{i:Nat}(ho:ops[i]? =some ⟨some d,op,ty,pos,af,none⟩)(h:Yl P N D ρ w op ty v)(k:SL P ops Q N D rest ((d,v)::ρ) cs w)(hd:d<N:=by decide):SL P ops Q N D (i::rest) ρ cs w:=fun a ha=>by
 simp only[wpOpsS,ho]
 rw[if_pos (by simp[Region.wanted]),h a (some d) pos af none ha]
 exact k _ (ha.put hd)
theorem Ez{i:Nat}{tys:Array TypeId}{pv:Value}{older:List PanicEntry}(ho:ops[i]? =some ⟨some d,.call ⟨.builtin .recover, #[],tys⟩,ty,pos,af,none⟩)(hu:c₀.mode= .panicking ({v:=pv,recovered:=false}::older))
  (k:SL P ops Q N D rest ((d,pv)::ρ) ({c₀ with mode:=.panicking ({v:=pv,recovered:=true}::older)}::cs) w) (hd:d<N:=by decide):SL P ops Q N D (i::rest) ρ (c₀::cs) w:=fun a ha=>by
 have hr:(execOp a.eval ⟨some d,.call ⟨.builtin .recover, #[],tys⟩,ty,pos,af,none⟩).run P w= .ok .recover w:=by
  simp[execOp,resolve,invoke,builtin]
 have h2:recoverD (c₀::cs)=some (pv,{c₀ with mode:=.panicking ({v:=pv,recovered:=true}::older)}::cs):=by simp[recoverD,hu]
 simp only[wpOpsS,ho]
 rw[if_pos (by simp[Region.wanted]),hr]
 simp only[h2]
 exact k _ (ha.put hd)
theorem Co{i:Nat}{tys:Array TypeId}(ho:ops[i]? =some ⟨some d,.call ⟨.builtin .recover, #[],tys⟩,ty,pos,af,none⟩)(hu:c₀.mode= .returning)
  (k:SL P ops Q N D rest ((d,.nilIface)::ρ) (c₀::cs) w) (hd:d<N:=by decide):SL P ops Q N D (i::rest) ρ (c₀::cs) w:=fun a ha=>by
 have hr:(execOp a.eval ⟨some d,.call ⟨.builtin .recover, #[],tys⟩,ty,pos,af,none⟩).run P w= .ok .recover w:=by
  simp[execOp,resolve,invoke,builtin]
 have h2:recoverD (c₀::cs)=none:=by simp[recoverD,hu]
 simp only[wpOpsS,ho]
 rw[if_pos (by simp[Region.wanted]),hr]
 simp only[h2]
 exact k _ (ha.put hd)
theorem D9{c:Code}{a:Act}{b:cK}{X S:List bn}{R0:Ending→World→Prop}(m:Mem b X S w)(h:HC P (bodyPost P fn R0) N [] c ρ b X S)(ha:Ag N [] ρ a)(hR:∀e w',R0 e w' →∃v,e= .returned v∧R (.returned v) u w'):c.wpS P (bodyPostS P fn c₀ cs R) a ({c₀ with mode:=u}::cs) w:=by
 refine wpS_of_wp (wp_mono (h w m a ha) ?_)
 intro e a' w' hb
 cases e with
 |normal=>
  obtain⟨h1,v,h2,h3⟩:=hb
  obtain⟨v',hv,h4⟩:=hR _ _ h3
  cases hv
  exact⟨h1,u,rfl,v,h2,h4⟩
 |ret=>
  obtain⟨h1,v,h2,h3⟩:=hb
  obtain⟨v',hv,h4⟩:=hR _ _ h3
  cases hv
  exact⟨h1,u,rfl,v,h2,h4⟩
 |panic c=>
  obtain⟨h1,h2⟩:=hb
  obtain⟨v',hv,h4⟩:=hR _ _ h2
  cases hv
 |outgrown=>
  obtain⟨v',hv,h4⟩:=hR _ _ hb
  cases hv
 |exit id=>exact hb.elim
 |goto l=>exact hb.elim
end
end Go.Eng
end
section
namespace Go.Eng
open Go.RowKit
def q9(ds:List Nat)(a a' :Act):Prop:=a'.defers=a.defers∧a'.tmps.size=a.tmps.size∧∀t:Nat,t∉ds→a'.tmps[t]? =a.tmps[t]?
theorem q9.refl(ds:List Nat)(a:Act):q9 ds a a:=⟨rfl,rfl,fun _ _=>rfl⟩
theorem q9.put{ds:List Nat}{a a' :Act}{d:Nat}{v:Value}(hd:d∈ds)(h:q9 ds a a'):q9 ds (a.put (some d) v) a' :=by
 obtain⟨h1,h2,h3⟩:=h
 refine⟨h1,by rw[h2];simp[Act.put],fun t ht=> ?_⟩
 rw[h3 t ht]
 have hne:d≠t:=fun e=>ht (e▸hd)
 simp only[Act.put]
 rw[Array.getElem?_setIfInBounds_ne hne]
def Bb(ds:List Nat)(Q:Exit→Act→World→Prop):Exit→Act→World→Prop
 | .panic c,a,w=>∀a',q9 ds a a' →Q (.panic c) a' w
 | .outgrown,_,_=>False
 |e,a,w=>Q e a w
section
variable{P:Program}{ops:Array Oper}{Q:Exit→Act→World→Prop}
theorem iZ{T:Nat→World→Prop}{X:List Nat}(hs:Region.noSelect ops=true)(hQ:∀(i:Nat) (o:Oper),ops[i]? =some o→∀c a v w,Q (.panic c) (a.put o.dst v) w→Q (.panic c) a w):∀(L:List (Nat×Option Nat)) (sq:List (Option Nat×Oper)) (l:Array Bool) (a:Act) (w:World) (n k:Nat),
  iI ops L=some sq→eH ops X L l=true→L.length≤n→Kept ops l→jv X l=k→T k w→fw P ops Q T k sq a w→Cu P ops Q (fun l w=>T (jv X l) w) n l a w
 | [],sq,l,a,w,n,k,hp,hk,_,_,_,_,h=>by
  simp only[iI,Option.some.injEq]at hp
  subst hp
  have hr:Region.ready .any ops l=[]:=by simpa[eH]using hk
  cases n with
  |zero=>exact⟨hr,h⟩
  |succ n=>exact⟨fun _=>h,by rw[hr];simp⟩
 |(i,x)::r,sq,l,a,w,0,k,hp,hk,hf,_,_,_,h=>by simp at hf
 |(i,x)::r,sq,l,a,w,n+1,k,hp,hk,hf,hK,hc,hT,h=>by
  unfold iI at hp
  split at hp
  ·rename_i o l' ho hl'
   cases hp
   have hf' :r.length≤n:=by simp at hf;omega
   cases x with
   |none=>
    simp only[eH,Bool.and_eq_true,beq_iff_eq]at hk
    obtain⟨⟨hrd,hct⟩,hk⟩:=hk
    have hmem:i∈Region.ready .any ops l:=by rw[hrd];simp
    have hcs:jv X (l.setIfInBounds i true)=k+1:=by rw[r9 (mem_ready.1 hmem).1,hct,hc]
    have hK' :=hK.set hmem
    refine⟨fun h0=>(by rw[h0]at hmem;cases hmem),fun j hj=> ?_⟩
    have hji:j=i:=by rw[hrd]at hj;simpa using hj
    subst hji
    unfold wpOp
    simp only[ho]
    simp only[fw]at h
    split at h
    ·rename_i hw
     rw[if_pos hw]
     refine .inl (Oper.wp_mono ?_ h)
     rintro a' w' ⟨hS',h'⟩
     exact⟨by rw[hcs];exact hS',iZ hs hQ r l' _ a' w' n (k+1) hl' hk hf' hK' hcs hS' h'⟩
    ·rename_i hw
     rw[if_neg hw]
     exact⟨by rw[hcs];exact h.1,iZ hs hQ r l' _ _ w n (k+1) hl' hk hf' hK' hcs h.1 h.2⟩
   |some m=>
    simp only[eH,Bool.and_eq_true,Bool.not_eq_true']at hk
    obtain⟨⟨⟨⟨hfree,hcon⟩,hX⟩,hcap⟩,hk⟩:=hk
    obtain⟨v,hy,h'⟩:=h
    have hmem:i∈Region.ready .any ops l:=by simpa using hcon
    have hcs:jv X (l.setIfInBounds i true)=k:=by rw[nI hX,hc]
    refine oa ho (Region.noSelect_spec hs) (fun c a w=>hQ i o ho c a _ w) (fun l' =>Kept ops l' ∧∀q,l.getD q false=true→l'.getD q false=true) (fun l' j hR hj=>⟨hR.1.set hj,fun q hq=>getD_set_true (hR.2 q hq)⟩)
     (fun l' w' =>by rw[nI hX]) n l a w (Region.free_spec ho hfree) hmem ?_ ⟨hK,fun q hq=>hq⟩ (by rw[hc];exact hT) (iZ hs hQ r l' _ _ w n k hl' hk hf' (hK.set hmem) hcs hT h')
    rcases hy with⟨hw,hv⟩|hy
    ·refine .inl ⟨hw,fun w' hw' =>hv w' ?_⟩
     obtain⟨l2,⟨hK2,al⟩,hun,hT2⟩:=hw'
     exact⟨jv X l2,by rw[←hc];exact qF al,sO hK2 hun hcap,hT2⟩
    ·exact .inr hy
  ·cases hp
theorem qD{T:Nat→World→Prop}{X ds:List Nat}{id:Nat}{a:Act}{w:World}{sq:List (Option Nat×Oper)}(L:List (Nat×Option Nat))(hds:ops.all (fun o=>match o.dst with|some d=>ds.contains d|none=>true)=true)(hm:P.follows .mixedOrders=true)(hs:Region.noSelect ops=true)(hk:eH ops X L (Array.replicate ops.size false)=true)(hn:L.length≤ops.size)
  (hp:iI ops L=some sq) (hT:T 0 w.drew) (h:fw P ops (Bb ds Q) T 0 sq a w.drew):(Code.region id ops true).wp P Q a w:=by
 refine Code.wp_mono (Q:=Bb ds Q) (fun e a w q=>by cases e <;> first|exact q|exact q.elim|exact q a (.refl _ _)) ?_
 refine wp_region_any hm (eX _ _ _ _ (iZ (X:=X) hs (fun i o ho c a v w q a' ha' => ?_) L sq _ a _ _ 0 hp hk hn ?_ ?_ hT h))
 ·have hmem:o∈ops:=by
   obtain⟨hi,he⟩:=Array.getElem?_eq_some_iff.1 ho
   exact he▸Array.getElem_mem hi
  have:=Array.all_eq_true_iff_forall_mem.1 hds o hmem
  cases hd:o.dst with
  |none=>rw[hd]at q;exact q a' ha'
  |some d=>
   rw[hd]at this q
   exact q a' (ha'.put (by simpa using this))
 ·intro j hj
  simp[Array.getElem?_replicate]at hj
  split at hj <;> cases hj
 ·unfold jv
  rw[List.countP_eq_zero]
  intro x _
  simp[Array.getElem?_replicate]
  split <;> rfl
end
def Bz(ds:List Nat)(ρ:Env):Env:=ρ.filter fun p=> !ds.contains p.1
theorem qh{ds:List Nat}:∀{ρ:Env} {t:Nat} {v:Value},get (Bz ds ρ) t=some v→t∉ds∧get ρ t=some v
 | [],t,v,h=>by simp[Bz,get]at h
 |(t0,v0)::ρ,t,v,h=>by
  unfold Bz at h
  rw[List.filter_cons]at h
  by_cases hc:ds.contains t0=true
  ·rw[if_neg (by simpa using hc)]at h
   obtain⟨h1,h2⟩:=qh (ρ:=ρ) h
   refine⟨h1, ?_⟩
   have hne:t0≠t:=fun e=>h1 (by rw[←e];simpa using hc)
   simp only[get]
   have hbf:Nat.beq t0 t=false:=by
    cases hb:Nat.beq t0 t with
    |true=>exact absurd (Nat.eq_of_beq_eq_true hb) hne
    |false=>rfl
   rw[hbf]
   exact h2
  ·rw[if_pos (by simpa using hc)]at h
   simp only[get]at h ⊢
   cases hb:Nat.beq t0 t with
   |true=>
    rw[hb]at h
    have:t0=t:=Nat.eq_of_beq_eq_true hb
    subst this
    exact⟨by simpa using hc,h⟩
   |false=>
    rw[hb]at h
    exact qh (ρ:=ρ) h
section
variable{P:Program}{ops:Array Oper}{Q:Exit→Act→World→Prop}{N:Nat}{D:List Deferred}{ρ ρ' :Env}{b:cK}{X X' X0 Xr S S' S0 X1 S1:List bn}{k c:Nat}{ds:List Nat}
theorem zF{id:Nat}{l:List (Option Nat×Oper)}(ds:List Nat)(is js:List Nat)(hX:bW is X=some (X1,Xr))(hS:dT js S=some S1)(Xs:List Nat)(L:List (Nat×Option Nat))(hm:P.follows .mixedOrders=true)
  (hk:(Region.noSelect ops && eH ops Xs L (Array.replicate ops.size false) && decide (L.length≤ops.size))=true) (hds:ops.all (fun o=>match o.dst with|some d=>ds.contains d|none=>true)=true)
  (hp:iI ops L=some l) (c:Nat) (h:HT P ops (Bb ds Q) (TT b X1 S1 c) N D 0 l ρ b X S):HC P Q N D (.region id ops true) ρ b X S:=fun w m a ha=>by
 simp only[Bool.and_eq_true,decide_eq_true_eq]at hk
 exact qD (X:=Xs) L hds hm hk.1.1 hk.1.2 hk.2 hp (fun _=>(wk is js hX hS).mem (m.lift (Fr.drew w))) (h _ (m.lift (Fr.drew w)) a ha)
theorem A5{T:Nat→World→Prop}(h:HQ Q N D .normal ρ b X S):HT P ops (Bb ds Q) T N D k [] ρ b X S:=fun w m a ha=>h w m a ha
theorem DC{e:List PanicEntry}(h:HQ Q N D (.panic e) (Bz ds ρ) b X S):HQ (Bb ds Q) N D (.panic e) ρ b X S:=fun w m a ha a' hag=>by
 obtain⟨h1,h2,h3⟩:=hag
 refine h w m a' ⟨by rw[h2];exact ha.sz,by rw[h1];exact ha.df,fun t v ht=> ?_⟩
 obtain⟨h4,h5⟩:=qh ht
 rw[h3 t h4]
 exact ha.gt t v h5
end
section
variable{P:Program}{ops:Array Oper}{fn:Func}{Q:Exit→Act→List Frame→World→Prop}{N:Nat}{D:List Deferred}{ρ:Env}{b:cK}{X X' S S' :List bn}{cs:List Frame}{c₀:Frame}{rest:List Nat}{op:Op}{ty:TypeId}{pos:String}{af:Array Edge}{d i:Nat}{v:Value}
def uP(P:Program)(ops:Array Oper)(Q:Exit→Act→List Frame→World→Prop)(N:Nat)(D:List Deferred)(l:List Nat)(ρ:Env)(cs:List Frame)(b:cK)(X S:List bn):Prop:=∀w,Mem b X S w→SL P ops Q N D l ρ cs w
theorem og{o:Oper}{a:Act}{w:World}(ho:ops[i]? =some o)(hw:Region.wanted o (yielded ops a.tmps)=true)(h:o.wp P a w (fun a' w' =>wpOpsS P ops Q rest a' cs w') (fun e a' w' =>Q e a' cs w')):wpOpsS P ops Q (i::rest) a cs w:=by
 simp only[wpOpsS,ho]
 rw[if_pos hw]
 unfold Oper.wp at h
 split
 ·rename_i w' hr
  rw[hr]at h
  exact h.elim
 ·exact h
theorem lV(ho:ops[i]? =some ⟨some d,op,ty,pos,af,none⟩)(h:∀{w},Mem b X S w→Yl P N D ρ w op ty v)(k:uP P ops Q N D rest ((d,v)::ρ) cs b X S)(hd:d<N:=by decide):uP P ops Q N D (i::rest) ρ cs b X S:=fun w m=>Hw ho (h m) (k w m) hd
theorem Dd(ho:ops[i]? =some ⟨some d,op,ty,pos,af,none⟩)(h:XH P (fun e a w=>Q e a cs w) N D ρ b X S op ty fun v X' S' =>uP P ops Q N D rest ((d,v)::ρ) cs b X' S')(hd:d<N:=by decide):uP P ops Q N D (i::rest) ρ cs b X S:=fun w m a ha=>by
 refine og ho (by simp[Region.wanted]) (Oper.wp_mono ?_ (h w m a (some d) pos af none ha))
 rintro a' w' ⟨v,rfl,X',S',m',hk⟩
 exact hk w' m' _ (ha.put hd)
theorem yW(ho:ops[i]? =some ⟨none,op,ty,pos,af,none⟩)(h:XH P (fun e a w=>Q e a cs w) N D ρ b X S op ty fun _ X' S' =>uP P ops Q N D rest ρ cs b X' S'):uP P ops Q N D (i::rest) ρ cs b X S:=fun w m a ha=>by
 refine og ho (by simp[Region.wanted]) (Oper.wp_mono ?_ (h w m a none pos af none ha))
 rintro a' w' ⟨v,rfl,X',S',m',hk⟩
 exact hk w' m' _ ha
theorem CC{tys:Array TypeId}{pv:Value}{older:List PanicEntry}(ho:ops[i]? =some ⟨some d,.call ⟨.builtin .recover, #[],tys⟩,ty,pos,af,none⟩)(hu:c₀.mode= .panicking ({v:=pv,recovered:=false}::older))
  (k:uP P ops Q N D rest ((d,pv)::ρ) ({c₀ with mode:=.panicking ({v:=pv,recovered:=true}::older)}::cs) b X S) (hd:d<N:=by decide):uP P ops Q N D (i::rest) ρ (c₀::cs) b X S:=fun w m=>Ez ho hu (k w m) hd
theorem AT{tys:Array TypeId}(ho:ops[i]? =some ⟨some d,.call ⟨.builtin .recover, #[],tys⟩,ty,pos,af,none⟩)(hu:c₀.mode= .returning)(k:uP P ops Q N D rest ((d,.nilIface)::ρ) ({c₀ with mode:=.returning}::cs) b X S)(hd:d<N:=by decide):uP P ops Q N D (i::rest) ρ (c₀::cs) b X S:=fun w m=>
 Co ho hu (by have:=k w m;rwa [show({c₀ with mode:=FrameMode.returning}:Frame)=c₀ by cases c₀;simp_all]at this) hd
theorem DQ{l:List Nat}(h:∀w,Mem b X S w→Mem b X' S' w)(k:uP P ops Q N D l ρ cs b X' S'):uP P ops Q N D l ρ cs b X S:=fun w m=>k w (h w m)
def HI(b:cK)(R:FrameMode→List bn→List bn→Prop):Ending→FrameMode→World→Prop:=fun e u' w' =>e= .returned (.tuple #[])∧∃X' S',R (settle u') X' S' ∧Mem b X' S' w'
def QD(P:Program)(fn:Func)(c₀:Frame)(cs:List Frame)(b:cK)(R:FrameMode→List bn→List bn→Prop)(c2:Code):Exit→Act→List Frame→World→Prop:=Exit.thenS (fun a cs' w=>c2.wpS P (bodyPostS P fn c₀ cs (HI b R)) a cs' w) (bodyPostS P fn c₀ cs (HI b R))
theorem tC{R:FrameMode→List bn→List bn→Prop}{c2:Code}{u2:FrameMode}(h:HC P (bodyPost P fn (RB b fun v X S=>v= .tuple #[]∧R (settle u2) X S)) N [] c2 ρ b X S):uP P ops (QD P fn c₀ cs b R c2) N [] [] ρ ({c₀ with mode:=u2}::cs) b X S:=fun w m a ha=>by
 refine D9 m h ha ?_
 rintro e w' ⟨v,X',S',rfl,⟨rfl,hR⟩,m'⟩
 exact⟨_,rfl,rfl,X',S',hR,m'⟩
end
theorem wv{P:Program}{f:Nat}{fn:Func}{id:Nat}{ops:Array Oper}{c2:Code}{vs:List Value}{u:FrameMode}{N:Nat}{X0 S0:List bn}{R:FrameMode→List bn→List bn→Prop}(hf:P.funcs[f]? =some fn)(hb:fn.body=some (.seq (.region id ops false) c2))(hN:fn.ntmps=N)(hl:vs.length≤N)
  (h:∀(b:cK) (c₀:Frame) (cs:List Frame),c₀.mode=u→uP P ops (QD P fn c₀ cs b R c2) N [] (List.range ops.size) (gy vs 0) (c₀::cs) b X0 S0):C5 P f vs u X0 S0 R:=fun w m=>by
 refine callsD_of_wpS hf hb fun c₀ cs hu=> ?_
 refine wpS_seq (wpS_region ?_)
 refine h _ c₀ cs hu w m _ ⟨?_,rfl,fun t v ht=> ?_⟩
 ·simp[hN];omega
 ·obtain⟨_,h2⟩:=gK vs 0 t v ht
  have hlt:=(List.getElem?_eq_some_iff.1 h2).1
  rw[Array.getElem?_append_left (by simpa using hlt)]
  simpa using h2
section
variable{P:Program}{Q:Exit→Act→World→Prop}{N:Nat}{D:List Deferred}{ρ:Env}{b:cK}{X S:List bn}{ty t:TypeId}{x:Operand}{v:Value}{K:Value→List bn→List bn→Prop}
theorem AU(hx:ev ρ x=some (.iface t v))(h:HQ Q N D (.panic (GM (.iface t v))) ρ b X S):XH P Q N D ρ b X S (.panic x) ty K:=fun w m a dst pos af g ha=>by
 unfold Oper.wp
 have:(execOp a.eval ⟨dst,.panic x,ty,pos,af,g⟩).run P w= .halt (.panic (.iface t v)) w:=by
  simp[execOp,ha.eval hx,Instr.panic,goPanic]
 rw[this]
 exact h w m a ha
theorem Ad{fs:Array Field}{xT:TypeId}{w:World}(ht:P.underlying t=some (.struct fs)):(Instr.typeAssert (.iface t v) xT t true).run P w= .ok (.tuple #[v,.bool true]) w:=by
 simp[Instr.typeAssert,run_underlying ht]
theorem Bg{fs:Array Field}{xT:TypeId}{w:World}{z:Value}{sz bytes:Nat}(ht:P.underlying t=some (.struct fs))(hT:TI P t z sz bytes):(Instr.typeAssert .nilIface xT t true).run P w= .ok (.tuple #[z,.bool false]) w:=by
 simp[Instr.typeAssert,run_underlying ht,qp hT]
end
section
variable{P:Program}{fn:Func}{R:Value→List bn→List bn→Prop}{N:Nat}{ρ:Env}{b:cK}{X X' Xz S S' :List bn}{w:World}
theorem rq{t:TypeId}{p:Addr}{v:Value}(ha:dD P t=some false)(hc:w.cell? p=some v):(loadVar t p).run P w= .ok v w:=by
 simp[loadVar,jK ha,hc]
theorem ik{t t' :Nat}{ty ty' :TypeId}{p p' :Addr}{v v' :Value}(hr:fn.results= #[.cell t ty,.cell t' ty'])(hv:get ρ t=some (.pointer (some p)))(hv' :get ρ t' =some (.pointer (some p')))(ha:dD P ty=some false)(ha' :dD P ty' =some false)
  (hc:∀{w},Mem b X S w→w.cell? p=some v) (hc' :∀{w},Mem b X S w→w.cell? p' =some v') (is:List Nat) (hX:bW is X=some (X',Xz)) (js:List Nat) (hS:dT js S=some S') (hR:R (.tuple #[v,v']) X' S'):DH P fn b R N [] ρ X S .returning:=fun w m tmps h=>
 ⟨.tuple #[v,v'],by have h1:=rE h hv;have h2:=rE h hv';simp at h1 h2;simp[results,hr,h1,h2,asAddr,rq ha (hc m),rq ha' (hc' m)],_,_,_,rfl,hR,m.out is hX js hS⟩
theorem zg{e:Exit}{t1 t2 t3 t4:Nat}{v1 v2 v3 v4:Value}(he:Leaves e)(hr:fn.results= #[.tmp t1,.tmp t2,.tmp t3,.tmp t4])(h1:get ρ t1=some v1)(h2:get ρ t2=some v2)(h3:get ρ t3=some v3)(h4:get ρ t4=some v4)(is:List Nat)(hX:bW is X=some (X',Xz))(js:List Nat)(hS:dT js S=some S')(hR:R (.tuple #[v1,v2,v3,v4]) X' S'):HQ (bodyPost P fn (RB b R)) N [] e ρ b X S:=
 fun w m=>gO he (fun a hA=>by have g1:=hA.getD h1;have g2:=hA.getD h2;have g3:=hA.getD h3;have g4:=hA.getD h4;simp at g1 g2 g3 g4;simp[results,hr,g1,g2,g3,g4]) ⟨_,_,_,rfl,hR,m.out is hX js hS⟩
theorem p6{u:FrameMode}{D:List Deferred}(h:∀w,Mem b X S w→Mem b X' S' w)(k:DH P fn b R N D ρ X' S' u):DH P fn b R N D ρ X S u:=fun w m=>k w (h w m)
end
end Go.Eng
end
section
namespace Go.Eng
open Go.RowKit
section
variable{P:Program}{Q:Exit→Act→World→Prop}{N:Nat}{D:List Deferred}{c:Code}{ρ:Env}{b:cK}{X S:List bn}
theorem pE{α β:Type}(R:α→β→Env)(X1 S1:α→β→List bn)(I:α→β→Prop)(ρk:Env)(hk:fe ρk ρ)(is:List Nat){Xt Xr:List bn}(hX:bW is X=some (Xt,Xr))
  (h:HC P (tF N D (fun i:α×β=>R i.1 i.2++ρk) fun i w=>Mem b (X1 i.1 i.2++Xr) (S1 i.1 i.2++S) w∧I i.1 i.2) N D c ρ b X S) (k:∀x y,I x y→HQ Q N D .normal (R x y++ρk) b (X1 x y++Xr) (S1 x y++S)):HC P Q N D c ρ b X S:=
 FR (fun i:α×β=>R i.1 i.2++ρk) (fun i=>X1 i.1 i.2++Xr) (fun i=>S1 i.1 i.2++S) (fun i=>I i.1 i.2) h fun i hi=>k (i.1) (i.2) hi
theorem di{α β:Type}{R:α→β→Env}{X1 S1:α→β→List bn}{I:α→β→Prop}{ρ0:Env}{Xr Sr:List bn}(x:α)(y:β)(hs:fe (R x y++ρ0) ρ)(is:List Nat){Xz:List bn}(hX:bW is X=some (X1 x y++Xr,Xz))(js:List Nat)(hS:dT js S=some (S1 x y++Sr))(hI:I x y):
  HQ (tF N D (fun i:α×β=>R i.1 i.2++ρ0) fun i w=>Mem b (X1 i.1 i.2++Xr) (S1 i.1 i.2++Sr) w∧I i.1 i.2) N D .normal ρ b X S:=
 Dy (i:=(x,y)) hs is hX js hS hI
theorem E3{α β γ δ ε:Type}(R:α→β→γ→δ→ε→Env)(X1 S1:α→β→γ→δ→ε→List bn)(I:α→β→γ→δ→ε→Prop)(ρk:Env)(hk:fe ρk ρ)(is:List Nat){Xt Xr:List bn}(hX:bW is X=some (Xt,Xr))
  (h:HC P (tF N D (fun i:α×β×γ×δ×ε=>R i.1 i.2.1 i.2.2.1 i.2.2.2.1 i.2.2.2.2++ρk) fun i w=>Mem b (X1 i.1 i.2.1 i.2.2.1 i.2.2.2.1 i.2.2.2.2++Xr) (S1 i.1 i.2.1 i.2.2.1 i.2.2.2.1 i.2.2.2.2++S) w∧I i.1 i.2.1 i.2.2.1 i.2.2.2.1 i.2.2.2.2) N D c ρ b X S) (k:∀x y z u v_,I x y z u v_→HQ Q N D .normal (R x y z u v_++ρk) b (X1 x y z u v_++Xr) (S1 x y z u v_++S)):HC P Q N D c ρ b X S:=
 FR (fun i:α×β×γ×δ×ε=>R i.1 i.2.1 i.2.2.1 i.2.2.2.1 i.2.2.2.2++ρk) (fun i=>X1 i.1 i.2.1 i.2.2.1 i.2.2.2.1 i.2.2.2.2++Xr) (fun i=>S1 i.1 i.2.1 i.2.2.1 i.2.2.2.1 i.2.2.2.2++S) (fun i=>I i.1 i.2.1 i.2.2.1 i.2.2.2.1 i.2.2.2.2) h fun i hi=>k (i.1) (i.2.1) (i.2.2.1) (i.2.2.2.1) (i.2.2.2.2) hi
theorem xa{α β γ δ ε:Type}{R:α→β→γ→δ→ε→Env}{X1 S1:α→β→γ→δ→ε→List bn}{I:α→β→γ→δ→ε→Prop}{ρ0:Env}{Xr Sr:List bn}(x:α)(y:β)(z:γ)(u:δ)(v_:ε)(hs:fe (R x y z u v_++ρ0) ρ)(is:List Nat){Xz:List bn}(hX:bW is X=some (X1 x y z u v_++Xr,Xz))(js:List Nat)(hS:dT js S=some (S1 x y z u v_++Sr))(hI:I x y z u v_):
  HQ (tF N D (fun i:α×β×γ×δ×ε=>R i.1 i.2.1 i.2.2.1 i.2.2.2.1 i.2.2.2.2++ρ0) fun i w=>Mem b (X1 i.1 i.2.1 i.2.2.1 i.2.2.2.1 i.2.2.2.2++Xr) (S1 i.1 i.2.1 i.2.2.1 i.2.2.2.1 i.2.2.2.2++Sr) w∧I i.1 i.2.1 i.2.2.1 i.2.2.2.1 i.2.2.2.2) N D .normal ρ b X S:=
 Dy (i:=(x,y,z,u,v_)) hs is hX js hS hI
end
end Go.Eng
end
section
namespace Go.Eng
open Go.RowKit
open Go.ChangeMaps (setBlock)
section
variable{b:cK}{X S Xp Xq:List bn}{w:World}{r:bn}
theorem Mem.mz(m:Mem b (fJ Xp::X) S w)(h:Xp.Perm Xq):Mem b (fJ Xq::X) S w:=((m.unpack).perm (h.append_right X)).pack
theorem Mem.tl(m:Mem b (fJ Xp::X) S w)(i:Nat)(h:Xp[i]? =some r):Mem b (r::fJ (Xp.eraseIdx i)::X) S w:=by
 obtain⟨hlt,rfl⟩:=List.getElem?_eq_some_iff.1 h
 have m1:=(m.mz (gD Xp i hlt).symm).unpack
 rw[List.cons_append]at m1
 have m2:Mem b (Xp.eraseIdx i++(Xp[i]::X)) S w:=m1.perm (List.perm_middle.symm)
 exact(m2.pack).perm (List.Perm.swap ..)
theorem Mem.sR(m:Mem b (r::fJ Xp::X) S w):Mem b (fJ (r::Xp)::X) S w:=by
 have m1:Mem b (fJ Xp::r::X) S w:=m.perm (List.Perm.swap ..)
 have m2:=m1.unpack
 have m3:Mem b ((r::Xp)++X) S w:=m2.perm (List.perm_middle)
 exact m3.pack
theorem Mem.C2(m:Mem b X S w):Mem b (fJ []::X) S w:=Mem.pack (Xp:=[]) m
end
abbrev Bn(n:Nat):={l:List UInt8//l.length=n}
def KN{n:Nat}(d:Bn n):Value:=DV d.1
theorem Bl{P:Program}{kt e:TypeId}{n:Nat}(ht:P.underlying kt=some (.array n e))(he:P.underlying e=some (.int .u8))(hs:P.cellsOf kt=n)(hse:P.cellsOf e=1)(hk:P.keyTypeAt 2 kt=true):oR P kt (KN (n:=n))where
 inj a b h:=Subtype.ext (s6 h)
 check w em d:=by
  have h1:(KN d).formed P kt=true:=by simp[Value.formed,KN,DV,ht,az,d.2,hs]
  have h2:=fv (P:=P) (D:=0) (l:=d.1) ht he hs hse d.2
  exact run_checkKey_deep em 9998 2 kt hk w 2 (KN d) _ h1 (by simpa[KN,DV,Value.cells]using h2)
 find w k es h:=by
  have hag:dD P kt=some true:=by simp[dD,ht]
  have heq:∀q:Bn n,(Op.equal kt (KN k) (KN q)).run P w= .ok (decide (k=q)) w:=fun q=>by
   have h2:=fv (P:=P) (D:=0) (l:=k.1) ht he hs hse k.2
   have h3:=fv (P:=P) (D:=0) (l:=q.1) ht he hs hse q.2
   exact nD (m:=2) (p:=k=q) (by decide) hk hag (by rw[az,hs];exact k.2) (by rw[az,hs];exact q.2) h2 h3 (by rw[jl];exact⟨fun e=>Subtype.ext e,fun e=>by rw[e]⟩)
  have hnow:∀(es:List MapEntry) (i:Nat),es≠ []→Instr.findNow (.array n e) (KN k) es i=none:=fun es i hne=>by
   cases es with
   |nil=>exact absurd rfl hne
   |cons x r=>rfl
  have hask:∀(es:List MapEntry) (i:Nat),(∀x∈es,∃q:Bn n,x.key=KN q)→(∃j x,es[j]? =some x∧x.key=KN k∧(Instr.findAsking kt (KN k) es i).run P w= .ok (some (i+j,x.val)) w)∨((∀x∈es,x.key≠KN k)∧(Instr.findAsking kt (KN k) es i).run P w= .ok none w):=by
   intro es
   induction es with
   |nil=>intro i _;exact .inr ⟨by simp,rfl⟩
   |cons x r ih=>
    intro i h
    obtain⟨q,hq⟩:=h x (by simp)
    have hx:=heq q
    rw[←hq]at hx
    by_cases hkq:k=q
    ·rw[decide_eq_true hkq]at hx
     exact .inl ⟨0,x,rfl,by rw[hq,hkq],by simp[Instr.findAsking,hx]⟩
    ·rw[decide_eq_false hkq]at hx
     rcases ih (i+1) (fun y hy=>h y (by simp[hy]))with⟨j,y,hj,hy,hf⟩|⟨hall,hf⟩
     ·refine .inl ⟨j+1,y,by simpa using hj,hy, ?_⟩
      simp[Instr.findAsking,hx,hf]
      omega
     ·refine .inr ⟨fun y hy=> ?_,by simp[Instr.findAsking,hx,hf]⟩
      rcases List.mem_cons.1 hy with rfl|hy
      ·rw[hq];exact fun e=>hkq (Subtype.ext (s6 e)).symm
      ·exact hall y hy
  cases es with
  |nil=>exact .inr ⟨by simp,by simp[Instr.findKey,run_underlying ht,Instr.findNow]⟩
  |cons x r=>
   have h0:=hnow (x::r) 0 (by simp)
   rcases hask (x::r) 0 h with⟨j,y,hj,hy,hf⟩|⟨hall,hf⟩
   ·refine .inl ⟨j,y,hj,hy, ?_⟩
    simp[Instr.findKey,run_underlying ht,h0,hf]
   ·exact .inr ⟨hall,by simp[Instr.findKey,run_underlying ht,h0,hf]⟩
 stays w k:=by
  have:Instr.sameBits 10000 (KN k) (KN k)=true:=by
   show((aV k.1).toArray.size == (aV k.1).toArray.size && ((aV k.1).toArray.toList.zip (aV k.1).toArray.toList).all fun(x,y)=>Instr.sameBits 9999 x y)=true
   simp only[beq_self_eq_true,Bool.true_and]
   exact pL 9999 k.1
  simp[Instr.keyThatStays,this]
section
variable{κ:Type}[DecidableEq κ]{enc:κ→Value}
def xk(enc:κ→Value)(w:World)(b:Nat)(l:List (κ×Value))(k:κ)(st:Nat):Prop:=
 ∃es clock,w.heap[b]? =some (.map es clock)∧es.toList.map (fun e=>(e.key,e.val))=l.map (fun p=>(enc p.1,p.2))∧(cp l).Nodup∧(∀e∈es.toList,e.born<clock)∧(es.toList.map (·.born)).Nodup∧∃(i:Nat) (x:MapEntry) (u:Value),es.toList[i]? =some x∧x.born=st∧l[i]? =some (k,u)
def CB(enc:κ→Value)(b:Nat)(l:List (κ×Value))(k:κ)(st:Nat):bn where
 dy i:=i=b
 holds w:=xk enc w b l k st
 iF f h m:=by
  obtain⟨es,clock,hb,rest⟩:=m
  exact⟨es,clock,(f.block b (de hb) (h b rfl)).trans hb,rest⟩
 low m hk:=by
  obtain⟨es,clock,hb,rest⟩:=m
  exact hk▸de hb
theorem q6{l:List (κ×Value)}{k:κ}{u v:Value}:c9 (c9 l k u) k v=c9 l k v:=by
 induction l with
 |nil=>simp[c9]
 |cons p r ih=>
  obtain⟨q,x⟩:=p
  by_cases h:q=k
  ·simp[c9,h]
  ·simp[c9,h,ih]
theorem u9{P:Program}{w:World}{t kt et:TypeId}{b:Nat}{l:List (κ×Value)}{z:Value}{sz bytes:Nat}(ht:P.underlying t=some (.map kt et))(hT:TI P et z sz bytes)(K:oR P kt enc)(h:gH enc w b l)(k:κ):
  ∃(st:Nat) (w' :World),(Instr.mapEntry t (.map (some b)) (enc k)).run P w= .ok (.tuple #[(cm l k).getD z,.int .i64 (st:Nat)]) w' ∧xk enc w' b (c9 l k ((cm l k).getD z)) k st∧Fr (fun i=>i=b) w w' :=by
 have hn:=h.keys
 obtain⟨es,clock,hb,hl,hborn,hnb,hf⟩:=h.found K k
 have hg:(getObj b).run P w= .ok (.map es clock) w:=by simp[getObj,Sem.run,hb]
 have hc:=K.check w false k
 rcases hf with⟨i,x,hi,hp,ha,hx,hf⟩|⟨ha,hf⟩
 ·have hst:=K.stays w k
  have hxi:es[i]? =some x:=by simpa using hi
  have hsame:es.modify i (fun e=>{e with key:=enc k})=es:=by
   apply Array.ext'
   apply List.ext_getElem?
   intro j
   rw[Array.toList_modify,List.getElem?_modify]
   by_cases hij:i=j
   ·subst hij
    rw[hi]
    show some (if i=i then({x with key:=enc k}:MapEntry)else x)=some x
    rw[if_pos rfl,←hx]
   ·simp[hij]
  refine⟨x.born,setBlock w b (.map es clock), ?_,⟨es,clock,eA hb, ?_,gx hn,hborn,hnb,i,x,x.val,hi,rfl, ?_⟩,dZ⟩
  ·rw[ha]
   simp[Instr.mapEntry,run_underlying ht,hg,hc,hf,hxi,hx,hst,hsame,eV hb,goInt]
  ·rw[ha,o5 hn hp,hl]
   congr 1
   apply List.ext_getElem?
   intro j
   rw[List.getElem?_set]
   by_cases hij:i=j
   ·subst hij
    rw[if_pos rfl,if_pos (List.getElem?_eq_some_iff.1 hp).1,hp]
    rfl
   ·rw[if_neg hij]
  ·rw[ha,o5 hn hp,List.getElem?_set,if_pos rfl,if_pos (List.getElem?_eq_some_iff.1 hp).1]
   rfl
 ·have hlen:es.toList.length=l.length:=by have:=congrArg List.length hl;simpa using this
  refine⟨clock,setBlock w b (.map (es.push {key:=enc k,val:=z,born:=clock}) (clock+1)), ?_,⟨_,_,eA hb, ?_,gx hn, ?_, ?_,es.toList.length,{key:=enc k,val:=z,born:=clock},z,by simp,rfl, ?_⟩,dZ⟩
  ·rw[ha]
   simp[Instr.mapEntry,run_underlying ht,hg,hc,hf,qp hT,eV hb,goInt]
  ·rw[ha,mG ha,Array.toList_push,List.map_append,hl]
   simp
  ·intro e he
   rw[Array.toList_push]at he
   rcases List.mem_append.1 he with he|he
   ·have:=hborn e he;omega
   ·rcases List.mem_singleton.1 he with rfl
    exact Nat.lt_succ_self _
  ·rw[Array.toList_push,List.map_append]
   refine mq hnb (fun hm=> ?_)
   obtain⟨e,he,hk⟩:=List.mem_map.1 hm
   have:=hborn e he
   simp only at hk
   omega
  ·rw[ha,mG ha,hlen]
   simp
theorem ui{P:Program}{w:World}{t:TypeId}{b:Nat}{l:List (κ×Value)}{k:κ}{st:Nat}(h:xk enc w b l k st)(v:Value):
  ∃w',(Instr.entryStore t (.map (some b)) (.int .i64 (st:Nat)) v).run P w= .ok () w' ∧gH enc w' b (c9 l k v)∧Fr (fun i=>i=b) w w' :=by
 obtain⟨es,clock,hb,hl,hn,hborn,hnb,i,x,u,hi,rfl,hp⟩:=h
 have hg:(getObj b).run P w= .ok (.map es clock) w:=by simp[getObj,Sem.run,hb]
 have hidx:es.findIdx? (fun e=>((e.born:Nat):Int) == ((x.born:Nat):Int))=some i:=by
  rw[WideElems.findIdx_arr]
  exact WideElems.findIdx_born hnb hi
 refine⟨setBlock w b (.map (es.modify i fun e=>{e with val:=v}) clock), ?_,⟨_,clock,eA hb, ?_,gx hn, ?_, ?_⟩,dZ⟩
 ·simp[Instr.entryStore,hg,asInt,asIntOf,hidx,eV hb]
 ·rw[o5 hn hp,Array.toList_modify]
  apply List.ext_getElem?
  intro j
  have hj:=congrArg (fun q:List (Value×Value)=>q[j]?) hl
  simp only[List.getElem?_map]at hj
  simp only[List.getElem?_map,List.getElem?_modify,List.getElem?_set]
  by_cases hij:i=j
  ·subst hij
   have hlt:=(List.getElem?_eq_some_iff.1 hp).1
   rw[hi,hp]at hj
   simp only[Option.map_some,Option.some.injEq,Prod.mk.injEq]at hj
   simp[hi,hlt,hj.1]
  ·simp only[hij,if_false]
   simpa using hj
 ·intro e he
  rw[Array.toList_modify]at he
  obtain⟨j,hj⟩:=List.mem_iff_getElem?.1 he
  rw[List.getElem?_modify]at hj
  cases hej:es.toList[j]? with
  |none=>rw[hej]at hj;simp at hj
  |some e0=>
   have:=hborn e0 (List.mem_of_getElem? hej)
   rw[hej]at hj
   simp only[Option.map_eq_map,Option.map_some,Option.some.injEq]at hj
   subst hj
   split <;> exact this
 ·have:(es.modify i fun e=>{e with val:=v}).toList.map (·.born)=es.toList.map (·.born):=by
   apply List.ext_getElem?
   intro j
   rw[Array.toList_modify]
   simp only[List.getElem?_map,List.getElem?_modify]
   cases es.toList[j]? with
   |none=>rfl
   |some e0=>simp only[Option.map_eq_map,Option.map_some];split <;> rfl
  rw[this]
  exact hnb
section
variable{P:Program}{Q:Exit→Act→World→Prop}{N:Nat}{D:List Deferred}{ρ:Env}{b:cK}{X S:List bn}{ty t kt et:TypeId}{x y q:Operand}{K:Value→List bn→List bn→Prop}{g:Nat}{l:List (κ×Value)}
theorem zn{k:κ}{z:Value}{sz bytes:Nat}(i:Nat)(hi:X[i]? =some (dC enc g l))(hx:ev ρ x=some (.map (some g)))(hy:ev ρ y=some (enc k))(ht:P.underlying t=some (.map kt et))(hT:TI P et z sz bytes)(hK:oR P kt enc)
  (kk:∀st:Nat,K (.tuple #[(cm l k).getD z,.int .i64 (st:Nat)]) (CB enc g (c9 l k ((cm l k).getD z)) k st::X.eraseIdx i) S):XH P Q N D ρ b X S (.mapEntry t x y) ty K:=fun w m=>by
 obtain⟨st,w',hrun,hE,hf⟩:=u9 ht hT hK (m.qy i hi) k
 refine c7 (v' :=.tuple #[(cm l k).getD z,.int .i64 (st:Nat)]) (w' :=w') (fun a _ _ _ _ ha=>by simp[execOp,ha.eval hx,ha.eval hy,hrun]) ⟨_,_, ?_,kk st⟩
 have m' :=m.perm (au [i] X [dC enc g l] (X.eraseIdx i) (by simp[bW,hi]))
 exact m'.change (r' :=CB enc g (c9 l k ((cm l k).getD z)) k st) hf hE (fun k hk=>.inl hk)
theorem rM{k:κ}{st:Nat}{v:Value}(i:Nat)(hi:X[i]? =some (CB enc g l k st))(hx:ev ρ x=some (.map (some g)))(hy:ev ρ y=some (.int .i64 (st:Nat)))(hq:ev ρ q=some v)
  (kk:K undef (dC enc g (c9 l k v)::X.eraseIdx i) S):XH P Q N D ρ b X S (.entryStore t x y q) ty K:=fun w m=>by
 have hE:xk enc w g l k st:=m.hx _ (List.mem_of_getElem? hi)
 obtain⟨w',hrun,hM,hf⟩:=ui (P:=P) (t:=t) hE v
 refine km (w' :=w') (fun a _ _ _ _ ha=>by simp[execOp,ha.eval hx,ha.eval hy,ha.eval hq,hrun]) ⟨_,_, ?_,kk⟩
 have m' :=m.perm (au [i] X [CB enc g l k st] (X.eraseIdx i) (by simp[bW,hi]))
 exact m'.change (r' :=dC enc g (c9 l k v)) hf hM (fun k hk=>.inl hk)
end
end
end Go.Eng
end
section
namespace Go.Eng
theorem l0{cur vs:List Value}{o m j:Nat}(hj:j+vs.length≤m)(hm:o+m≤cur.length):((bI cur (o+j) vs).drop o).take m=bI ((cur.drop o).take m) j vs:=by
 apply List.ext_getElem?
 intro i
 rw[ph (by simp;omega)]
 by_cases hi:i<m
 ·rw[List.getElem?_take_of_lt hi,List.getElem?_drop,ph (by omega)]
  by_cases h1:i<j
  ·rw[if_pos h1,if_pos (by omega),List.getElem?_take_of_lt hi,List.getElem?_drop]
  ·rw[if_neg h1,if_neg (by omega)]
   by_cases h2:i<j+vs.length
   ·rw[if_pos h2,if_pos (by omega)];congr 1;omega
   ·rw[if_neg h2,if_neg (by omega),List.getElem?_take_of_lt hi,List.getElem?_drop]
 ·rw[List.getElem?_take_eq_none (by omega),if_neg (by omega),if_neg (by omega),List.getElem?_take_eq_none (by omega)]
section
variable{P:Program}{Q:Exit→Act→World→Prop}{N:Nat}{D:List Deferred}{ρ:Env}{w:World}{x y:Operand}{ty t e:TypeId}{v:Value}{K:Value→World→Prop}
theorem DR{A:Option Addr}{n c base sz szt j:Nat}{xs vs:List Value}(hx:ev ρ x=some (.pointer (some ((A.getD d0).add j))))(hy:ev ρ y=some (.agg vs.toArray))(hs:fA P t=some szt)(hl:vs.length=szt)(h1:∀u∈vs,u.oneCell' =true)(h:Own w base e sz (.slice A n c) n xs)(hj:j+szt≤n*sz)(hn0:0<n)
  (k:∀w',Fr (jD (.slice A n c)) w w' →Own w' base e sz (.slice A n c) n (bI xs j vs)→w'.heap.size=w.heap.size→K undef w'):XW P Q N D ρ w (.store t x y) ty K:=by
 rcases h with⟨hl',⟨h2,rfl⟩|⟨g,o,cap,cur,h2,hb,hg,hn,hm,hc,hxs⟩⟩
 ·omega
 ·injection h2 with h2 h3 h4
  subst h2;subst h4
  have hle:n*sz≤c*sz:=Nat.mul_le_mul_right _ hn
  refine AX (g:=g) (o:=o+j) (by rw[hx,Option.getD_some,eR]) hy hs hl h1 hg (by omega) fun w' hf hb' hsz=>k w' ?_ ⟨?_,.inr ⟨g,o,c,_,rfl,hb,hb',hn,hm,by rw[dR (by omega)];exact hc, ?_⟩⟩ hsz
  ·exact hf.mono fun i _ hi=>hi
  ·rw[dR (by omega)];exact hl'
  ·rw[l0 (by omega) (by omega),hxs]
theorem CG{A B:Option Addr}{n c base sz bytes m c' k:Nat}{z:Value}{xs:List Value}(hx:ev ρ x=some (.slice B m c'))(ht:P.underlying t=some (.slice e))(hT:TI P e z sz bytes)(hz:z.cells.size=sz)(h1:∀u∈z.cells.toList,u.oneCell' =true)(h:Own w base e sz (.slice A n c) n xs)(hB:0<m→B=some ((A.getD d0).add (k*sz)))(hk:k+m≤n)
  (kk:∀w' zs,Fr (jD (.slice A n c)) w w' →zs.length=m*sz→Own w' base e sz (.slice A n c) n (bI xs (k*sz) zs)→w'.heap.size=w.heap.size→K (.tuple #[]) w'):XW P Q N D ρ w (.call ⟨.builtin .clear, #[x], #[t]⟩) ty K:=by
 obtain⟨i,hi,hzero,_,_⟩:=hT.get
 rcases Nat.eq_zero_or_pos m with rfl|hm
 ·refine c7 (v' :=.tuple #[]) (w' :=w) (fun a _ _ _ _ ha=> ?_) (kk w [] (Fr.refl _ _) (by simp) (by rw[mi];exact h) rfl)
  cases B <;> simp[execOp,resolve,invoke,builtin,Builtin.clear_,ha.eval hx,run_underlying ht]
 ·obtain rfl:=hB hm
  rcases h with⟨hl',⟨h2,rfl⟩|⟨g,o,cap,cur,h2,hb,hg,hn,hmx,hc,hxs⟩⟩
  ·omega
  ·injection h2 with h2 h3 h4
   subst h2;subst h4
   have hle:n*sz≤c*sz:=Nat.mul_le_mul_right _ hn
   have hkm:k*sz+m*sz≤n*sz:=by rw[←Nat.add_mul];exact Nat.mul_le_mul_right _ hk
   have hzl:(Builtin.zeroCells z.cells m).toList.length=m*sz:=by simp[Builtin.zeroCells,hz]
   have hz1:∀u∈(Builtin.zeroCells z.cells m).toList,u.oneCell' =true:=by
    intro u hu
    rw[Builtin.zeroCells,Array.toList_map,List.mem_map]at hu
    obtain⟨j,hj,rfl⟩:=hu
    have hj2:j<m*z.cells.size:=by simpa using hj
    have h0:0<z.cells.size:=by
     rcases Nat.eq_zero_or_pos z.cells.size with h|h
     ·rw[h,Nat.mul_zero]at hj2;omega
     ·exact h
    have hlt:j % z.cells.size<z.cells.size:=Nat.mod_lt _ h0
    rw[getElem!_pos z.cells _ hlt]
    exact h1 _ (Array.getElem_mem_toList hlt)
   obtain⟨w',hst,hb',hf,hsz⟩:=kl (P:=P) (Builtin.zeroCells z.cells m).toList (o+k*sz) 0 cur w hg (by omega) hz1
   refine c7 (v' :=.tuple #[]) (w' :=w') (fun a _ _ _ _ ha=> ?_) (kk w' _ (hf.mono fun i _ hi=>hi) hzl ⟨by rw[dR (by omega)];exact hl',.inr ⟨g,o,c,_,rfl,hb,(by simpa using hb'),hn,hmx,by rw[dR (by omega)];exact hc,by rw[l0 (by omega) (by omega),hxs]⟩⟩ hsz)
   obtain⟨m',rfl⟩:∃m',m=m' +1:=⟨m-1,by omega⟩
   simp[execOp,resolve,invoke,builtin,Builtin.clear_,ha.eval hx,run_underlying ht,zeroValue,typeInfo,hi,hzero,eR,hst]
end
section
variable{P:Program}{Q:Exit→Act→World→Prop}{N:Nat}{D:List Deferred}{ρ:Env}{b:cK}{X S:List bn}{x y:Operand}{ty t t' e:TypeId}{K:Value→List bn→List bn→Prop}
theorem Br{A:Option Addr}{n c sz szt j:Nat}{xs vs:List Value}(i:Nat)(hi:X[i]? =some (aG e sz (.slice A n c) n xs))(hx:ev ρ x=some (.pointer (some ((A.getD d0).add j))))(hy:ev ρ y=some (.agg vs.toArray))(hs:fA P t=some szt)(hl:vs.length=szt)(h1:∀u∈vs,u.oneCell' =true)(hj:j+szt≤n*sz)(hn0:0<n)
  (k:K undef (aG e sz (.slice A n c) n (bI xs j vs)::X.eraseIdx i) S):XH P Q N D ρ b X S (.store t x y) ty K:=fun w m=>DR hx hy hs hl h1 (m.own i hi) hj hn0 fun w' hf hb hsz=>⟨_,_,by
  have m' :=m.perm (au [i] X [aG e sz (.slice A n c) n xs] (X.eraseIdx i) (by simp[bW,hi]))
  exact m'.change (r' :=aG e sz (.slice A n c) n (bI xs j vs)) hf hb (fun k hk=>.inl hk),k⟩
theorem Ai{A B:Option Addr}{n c sz bytes m c' k:Nat}{z:Value}{xs:List Value}(i:Nat)(hi:X[i]? =some (aG e sz (.slice A n c) n xs))(hx:ev ρ x=some (.slice B m c'))(ht:P.underlying t=some (.slice e))(hT:TI P e z sz bytes)(hz:z.cells.size=sz)(h1:∀u∈z.cells.toList,u.oneCell' =true)(hB:0<m→B=some ((A.getD d0).add (k*sz)))(hk:k+m≤n)
  (kk:∀zs,zs.length=m*sz→K (.tuple #[]) (aG e sz (.slice A n c) n (bI xs (k*sz) zs)::X.eraseIdx i) S):XH P Q N D ρ b X S (.call ⟨.builtin .clear, #[x], #[t]⟩) ty K:=fun w mm=>CG hx ht hT hz h1 (mm.own i hi) hB hk fun w' zs hf hzl hb hsz=>⟨_,_,by
  have m' :=mm.perm (au [i] X [aG e sz (.slice A n c) n xs] (X.eraseIdx i) (by simp[bW,hi]))
  exact m'.change (r' :=aG e sz (.slice A n c) n (bI xs (k*sz) zs)) hf hb (fun k hk=>.inl hk),kk zs hzl⟩
end
end Go.Eng
end
section
set_option maxRecDepth 20000
namespace Go.Proofs.YtmibdabdlgmafaaGreatDoor
open Go.Eng Go.Hx
theorem A8{w:World}{A:Option Addr}{n:Nat}{ds:List (List UInt8)}(h:Rd w 32 A n (dc ds))(hd:j8 ds):ds.length=n:=by
 have:=h.1
 rw[gv hd]at this
 omega
end Go.Proofs.YtmibdabdlgmafaaGreatDoor
end
section
set_option maxRecDepth 20000
namespace Go.Proofs.YtmibdabdlgmafaaGreatDoor
open Go.Eng Go.Hx
theorem xL(ds:List (List UInt8))(k:Nat)(h:k<ds.length):(ds.take (k+1)).foldl dz []=dz ((ds.take k).foldl dz []) (ds.getD k []):=by
 rw[List.take_succ_eq_append_getElem h,List.foldl_append,List.getD,List.getElem?_eq_getElem h]
 rfl
theorem qH{ds:List (List UInt8)}(h:j8 ds)(k:Nat):j8 ((ds.take k).foldl dz [])∧((ds.take k).foldl dz []).length≤k:=by
 induction k with
 |zero=>exact⟨fun d hd=>by simp at hd,by simp⟩
 |succ k ih=>
  by_cases hk:k<ds.length
  ·rw[xL ds k hk]
   have:=ow ((ds.take k).foldl dz []) (ds.getD k [])
   exact⟨uu ih.1 (eL h hk),by omega⟩
  ·rw[List.take_of_length_le (by omega)]at ih ⊢
   exact⟨ih.1,by omega⟩
end Go.Proofs.YtmibdabdlgmafaaGreatDoor
end
section
set_option maxRecDepth 20000
namespace Go.Proofs.YtmibdabdlgmafaaGreatDoor
open Go.Eng Go.Hx
end Go.Proofs.YtmibdabdlgmafaaGreatDoor
end
section
set_option maxRecDepth 20000
namespace Go.Proofs.YtmibdabdlgmafaaGreatDoor
open Go.Eng Go.Hx
theorem number(n:Nat)(w:World)(hn:n<4294967296):
  Calls Tryz.prog 160 #[.int .i64 (n:Int)] w fun e w' =>∃v,e= .returned v∧Go.Eng.Own w' w.heap.size 5 1 v 4 (aV (gI n))∧Fr No w w' :=by
 refine enter (N:=21) Tryz.func160 rfl rfl (by simp) ?_
 refine aW<|bc<|nq (ab rfl)<|ba<|aF<|aW<|bc<|nq (aa rfl)<|nq (bX rfl Tryz.underlying3 Tryz.underlying166 ((wY (by omega) (by omega))))<|nq (ab rfl)<|ba<|bB (ae (t:=3) rfl<|ae (t:=2) rfl<|ae (t:=0) rfl<|aC)<|aF<|aW<|bc<|nq (aa rfl)<|nq (gN rfl rfl (by omega) (by omega))<|nq (bX rfl Tryz.underlying166 Tryz.underlying5 ((show IntKind.u8.wrap ((n:Int) % 256)=((UInt8.ofNat n).toNat:Int) by simp[IntKind.wrap,IntKind.signed,IntKind.bits])))<|nq (aa rfl)<|nq (ky rfl rfl (by omega) (by omega) (wY (by omega) (by omega)))<|nq (gN rfl rfl (by omega) (by omega))<|nq (bX rfl Tryz.underlying166 Tryz.underlying5 ((show IntKind.u8.wrap ((n:Int)/256 % 256)=((UInt8.ofNat (n/256)).toNat:Int) by simp[IntKind.wrap,IntKind.signed,IntKind.bits])))<|nq (aa rfl)<|nq (ky rfl rfl (by omega) (by omega) (wY (by omega) (by omega)))<|nq (gN rfl rfl (by omega) (by omega))<|nq (bX rfl Tryz.underlying166 Tryz.underlying5 ((show IntKind.u8.wrap ((n:Int)/65536 % 256)=((UInt8.ofNat (n/65536)).toNat:Int) by simp[IntKind.wrap,IntKind.signed,IntKind.bits])))<|nq (aa rfl)<|nq (ky rfl rfl (by omega) (by omega) (wY (by omega) (by omega)))<|nq (bX rfl Tryz.underlying166 Tryz.underlying5 ((show IntKind.u8.wrap ((n:Int)/16777216)=((UInt8.ofNat (n/16777216)).toNat:Int) by simp[IntKind.wrap,IntKind.signed,IntKind.bits])))<| ?_
 refine nx (na Tryz.underlying27 fa rfl rfl rfl (by simp[Value.cells,B8]) (by decide) (by decide) fun g w1 hg hf1 hb1=> ?_)
 refine nq (ab rfl)<|ba<|bB (ae (t:=2) rfl<|ae (t:=3) rfl<|ae (t:=0) rfl<|aC)<|aF<|dO<| ?_
 exact eW trivial rfl rfl ⟨_,rfl,Own.made hb1 hg (Nat.le_refl _) (by decide) rfl,hf1⟩
end Go.Proofs.YtmibdabdlgmafaaGreatDoor
end
section
set_option maxRecDepth 20000
namespace Go.Proofs.YtmibdabdlgmafaaGreatDoor
open Go.Eng Go.Hx
theorem EW{A:Option Addr}{n c:Nat}{l:List UInt8}{m:Nat}(hc:n≤c)(hn:n≤140737488351232):ck Tryz.prog 32 [.slice A n c,.int .i64 (m:Int)] [] [dr 1 A n (aV l)] (fun v_ X_ S_=>∃v,v_=v∧X_=[aG 5 1 v (min n m) (aV (l.take m))]∧S_=[]):=by
 exact kN fun mm=>Calls.mono (H0 A n c l m _ (mm.rd 0 rfl) hc hn) (fun e w' ⟨v,h,ho,hf⟩=>⟨v,v,_,_,_,_,h,⟨v,rfl,rfl,rfl⟩,ho,hf⟩)
theorem sa{n m:Int}(h1:-9223372036854775808≤n)(h2:n≤9223372036854775807)(hm:0<m):ck Tryz.prog 16 [.int .i64 n,.int .i64 m] [] [] (fun v_ X_ S_=>v_=(.int .i64 (ef n m))∧X_=[]∧S_=[]):=by
 exact fP fun mm=>Calls.mono (Ay n m _ h1 h2 hm) (fun e w' ⟨h,hw⟩=>⟨_,h,⟨rfl,rfl,rfl⟩,hw▸Fr.refl _ _⟩)
theorem yC{A:Option Addr}{n c:Nat}{l:List UInt8}(hn:n≤70368744177664):ck Tryz.prog 189 [.slice A n c] [] [dr 1 A n (aV l)] (fun v_ X_ S_=>∃v,v_=v∧X_=[aG 5 1 v (n+4) (aV (zR l))]∧S_=[]):=by
 exact kN fun m=>Calls.mono (CF A n c l _ (m.rd 0 rfl) hn) (fun e w' ⟨v,h,ho,hf⟩=>⟨v,v,_,_,_,_,h,⟨v,rfl,rfl,rfl⟩,ho,hf⟩)
theorem BC{n:Nat}(hn:n<4294967296):ck Tryz.prog 160 [.int .i64 (n:Int)] [] [] (fun v_ X_ S_=>∃v,v_=v∧X_=[aG 5 1 v 4 (aV (gI n))]∧S_=[]):=by
 exact kN fun m=>Calls.mono (number n _ hn) (fun e w' ⟨v,h,ho,hf⟩=>⟨v,v,_,_,_,_,h,⟨v,rfl,rfl,rfl⟩,ho,hf⟩)
theorem ye{a b:List UInt8}(ha:a.length=32)(hb:b.length=32):ck Tryz.prog 171 [.agg (aV a).toArray,.agg (aV b).toArray] [] [] (fun v_ X_ S_=>v_=(.int .i64 (cb a b))∧X_=[]∧S_=[]):=by
 exact fP fun m=>Calls.mono (An a b _ ha hb) (fun e w' ⟨h,hf⟩=>⟨_,h,⟨rfl,rfl,rfl⟩,hf⟩)
end Go.Proofs.YtmibdabdlgmafaaGreatDoor
end
section
set_option maxRecDepth 20000
namespace Go.Proofs.YtmibdabdlgmafaaGreatDoor
open Go.Eng Go.Hx Go.Sort
structure oV where
 b:List UInt8
 h:b.length=32
theorem oV.ext'{x y:oV}(e:x.b=y.b):x=y:=by
 cases x
 cases y
 cases e
 rfl
instance:Inhabited oV:=⟨⟨List.replicate 32 0,List.length_replicate⟩⟩
def mo(x:oV):List Value:=aV x.b
theorem tu(x:oV):(mo x).length=32:=by rw[mo,az,x.h]
theorem wN(l:List oV):j8 (l.map (·.b)):=fun d hd=>by
 obtain⟨x,_,rfl⟩:=List.mem_map.1 hd
 exact x.h
theorem BI{ds:List (List UInt8)}(h:j8 ds):∃l:List oV,l.map (·.b)=ds:=by
 induction ds with
 |nil=>exact⟨[],rfl⟩
 |cons d r ih=>
  obtain⟨l,hl⟩:=ih (fun x hx=>h x (List.mem_cons_of_mem _ hx))
  exact⟨⟨d,h d (List.mem_cons_self ..)⟩::l,by rw[List.map_cons,hl]⟩
theorem xg(l:List oV):flatK mo 32 l.toArray=(dc (l.map (·.b))).toArray:=by
 have hD:=wN l
 apply Array.ext
 ·simp[gv hD]
 ·intro t h1 h2
  have ht:t<l.length*32:=by simpa using h1
  have hq:t/32<l.length:=by omega
  have e1:(flatK mo 32 l.toArray)[t]! =(mo l.toArray[t/32]!)[t % 32]! :=get_flatK _ _ _ t (by simpa using ht)
  have e0:l.toArray[t/32]! =l[t/32]:=by simp[hq]
  have hl32:=tu l[t/32]
  have hm:t % 32<(mo l[t/32]).length:=by rw[hl32];omega
  have e2:(aV ((l.map (·.b)).getD (t/32) []))[t % 32]? =some ((mo l[t/32])[t % 32]):=by
   have:(l.map (·.b)).getD (t/32) []=l[t/32].b:=by simp[List.getD,hq]
   rw[this]
   exact List.getElem?_eq_getElem hm
  have e3:=yz hD (t/32) (by simpa using hq) (t % 32) _ e2
  have e4:t/32*32+t % 32=t:=by omega
  rw[e4]at e3
  have e5:=(List.getElem?_eq_some_iff.1 e3).2
  rw[←getElem!_pos (flatK mo 32 l.toArray) t h1,e1,e0,getElem!_pos (mo l[t/32]) (t % 32) hm,List.getElem_toArray]
  exact e5.symm
theorem Ba(a6 off size:Nat)(w:World):CmpLays Tryz.prog 148 #[] mo 32 (fun x y:oV=>cb x.b y.b) a6 off size w:=fun m os dk _ x y=>by
 have:=zZ x.b y.b (sortWorldK mo 32 w a6 off m dk os) x.h y.h
 simpa[mo]using this
theorem GU(x y:oV):ltOf (fun x y:oV=>cb x.b y.b) x y=decide (cb x.b y.b<0):=rfl
theorem G5:SWO (ltOf fun x y:oV=>cb x.b y.b)where
 irrefl x:=by rw[GU,mM];rfl
 trans x y z h1 h2:=by
  rw[GU]at*
  simp only[decide_eq_true_eq]at*
  exact kH h1 h2
 ntrans x y z h1 h2:=by
  rw[GU]at*
  simp only[decide_eq_false_iff_not]at*
  have a1:=gp x.b y.b
  have a2:=gp y.b z.b
  have a3:=gp x.b z.b
  have:=mA z.b y.b x.b (by omega) (by omega)
  omega
theorem Hi(x y:oV)(h:ltOf (fun x y:oV=>cb x.b y.b) x y=false)(h2:ltOf (fun x y:oV=>cb x.b y.b) y x=false):x=y:=by
 rw[GU]at*
 simp only[decide_eq_false_iff_not]at*
 have:=gp x.b y.b
 exact oV.ext' (pk _ _ (by omega))
theorem CH(l:List oV):(l.mergeSort fun x y=> !(ltOf (fun x y:oV=>cb x.b y.b)) y x).map (·.b)=j4 (l.map (·.b)):=List.map_mergeSort fun a _ b _=>rfl
theorem yj{w:World}{g n o:Nat}{os:Array Obj}{cur:Array Value}{e:TypeId}{fr:Nat×Nat}(d:Array Value)(hb:w.heap[g]? =some (.cells cur e fr)):
  (grow (putRow id (Go.Sort.ahead w n) g o d) os).heap[g]? =some (.cells (putCells id o d cur) e fr):=by
 have hg:g<w.heap.size:=(Array.getElem?_eq_some_iff.1 hb).1
 rw[heap_grow_old _ _ (by simpa using hg)]
 simp[putRow,mapBlock,Go.Sort.ahead,Array.getElem?_modify,hb,onCells]
theorem BR{w:World}{g n o:Nat}{os:Array Obj}(d:Array Value):Fr (fun k=>k=g) w (grow (putRow id (Go.Sort.ahead w n) g o d) os):=by
 refine⟨rfl,rfl,rfl,by simp,fun k hk hne=> ?_⟩
 rw[heap_grow_old _ _ (by simpa using hk)]
 have:g≠k:=fun e=>hne e.symm
 simp[putRow,mapBlock,Go.Sort.ahead,Array.getElem?_modify,this]
theorem xm(cur:List Value)(o:Nat)(vs:List Value)(h:o+vs.length≤cur.length):((putCells id o vs.toArray cur.toArray).toList.drop o).take vs.length=vs:=by
 apply List.ext_getElem?
 intro j
 by_cases hj:j<vs.length
 ·rw[List.getElem?_take_of_lt hj,List.getElem?_drop,Array.getElem?_toList]
  simp[putCells,hj,show o+j<cur.length by omega]
 ·rw[List.getElem?_take_eq_none (by omega),List.getElem?_eq_none (by omega)]
theorem BN{A:Option Addr}{n c base:Nat}{e:TypeId}{l:List oV}{w:World}(h:Go.Eng.Own w base e 32 (.slice A n c) n (dc (l.map (·.b))))(hn6:n≤1000000):
  Calls Tryz.prog 147 #[.slice A n c,.func (.func 148) #[] #[]] w fun r w' =>r= .returned (.tuple #[])∧Go.Eng.Own w' base e 32 (.slice A n c) n (dc (j4 (l.map (·.b))))∧Fr (jD (.slice A n c)) w w' :=by
 obtain⟨h1,h2⟩:=h
 have hD:=wN l
 have hl:l.length=n:=by
  rw[gv hD,List.length_map]at h1
  omega
 rcases h2 with⟨hv,hn⟩|⟨g,o,cap,cur,hv,hb,⟨fr,hh,hf,hfl⟩,hnc,hcm,hfit,hcs⟩
 ·cases hv
  obtain rfl:l=[]:=List.eq_nil_of_length_eq_zero hl
  refine Calls.mono (AnyF.slices_SortFunc_none Tryz.Dj none 0 _ w) (fun r w' ⟨hr,hw⟩=>⟨hr, ?_, ?_⟩)
  ·subst hw;exact⟨by simp[j4,dc],.inl ⟨rfl,rfl⟩⟩
  ·subst hw;exact Fr.refl _ _
 ·cases hv
  subst hl
  have hB:e8 w g e cur:=⟨fr,hh,hf,hfl⟩
  have hdl:(dc (l.map (·.b))).length=l.length*32:=by rw[gv hD,List.length_map]
  have hH:HoldsK mo 32 w g o l.toArray:=by
   unfold HoldsK
   rw[xg]
   intro j hj
   have hj' :j<(dc (l.map (·.b))).length:=by simpa using hj
   have h3:((cur.drop o).take (l.length*32))[j]? =(dc (l.map (·.b)))[j]? :=by rw[hcs]
   rw[List.getElem?_take_of_lt (by omega),List.getElem?_drop,List.getElem?_eq_getElem hj']at h3
   refine⟨?_,hB.frozen (by omega)⟩
   rw[hB.cell h3]
   simp[hj']
  have hen:∀args w,(callFunc 148 args).run Tryz.prog w= .ok (.enter 148 args) w:=Tryz.call148
  refine Calls.mono (AnyQ.slices_SortFunc_total Tryz.Dj 32 Tryz.isAgg53 Tryz.sizeOf53 mo tu (fun x v hv=>gL v hv) (fun x y=>cb x.b y.b) G5 148 #[] g o c l.toArray w hen (Ba g o _ w) hH hB.lt (by simp;omega) Hi) ?_
  rintro r w' ⟨hr,k,os,rfl⟩
  have hsl:(dc (j4 (l.map (·.b)))).length=l.length*32:=by
   rw[gv (fun d hd=>hD d ((jT _).mem_iff.1 hd)),tn,List.length_map]
  have hw' :sortWorldK mo 32 w g o k (l.toArray.toList.mergeSort fun x y=> !(ltOf (fun x y:oV=>cb x.b y.b)) y x).toArray os=grow (putRow id (Go.Sort.ahead w k) g o (dc (j4 (l.map (·.b)))).toArray) os:=by
   unfold sortWorldK putRowK
   rw[xg,CH]
  rw[hw']
  refine⟨hr,⟨hsl,.inr ⟨g,o,c,(putCells id o (dc (j4 (l.map (·.b)))).toArray cur.toArray).toList,rfl,hb, ?_,hnc,hcm,by simp[putCells];omega, ?_⟩⟩,BR _⟩
  ·have:=yj (n:=k) (o:=o) (os:=os) (dc (j4 (l.map (·.b)))).toArray hh
   exact⟨fr,by simpa using this,fun i hi=>hf i (by simpa[putCells]using hi),by simpa[putCells]using hfl⟩
  ·have:=xm cur o (dc (j4 (l.map (·.b)))) (by rw[hsl];omega)
   rw[hsl]at this
   exact this
theorem rZ{A:Option Addr}{n c:Nat}{e:TypeId}{ds:List (List UInt8)}(hD:j8 ds)(hn:n≤1000000):ck Tryz.prog 147 [.slice A n c,.func (.func 148) #[] #[]] [aG e 32 (.slice A n c) n (dc ds)] [] (fun v_ X_ S_=>v_=(.tuple #[])∧X_=[aG e 32 (.slice A n c) n (dc (j4 ds))]∧S_=[]):=by
 obtain⟨l,rfl⟩:=BI hD
 refine fun w m=>Calls.mono (BN (m.own 0 rfl) hn) ?_
 rintro r w' ⟨hr,ho,hf⟩
 exact⟨_,_,_,hr,⟨rfl,rfl,rfl⟩,m.change (r' :=aG e 32 (.slice A n c) n (dc (j4 (l.map (fun x:oV=>x.b))))) hf ho (fun k hk=>.inl hk)⟩
end Go.Proofs.YtmibdabdlgmafaaGreatDoor
end
section
set_option maxRecDepth 20000
set_option maxHeartbeats 4000000
namespace Go.Proofs.YtmibdabdlgmafaaGreatDoor
open Go.Eng Go.Hx
theorem tP:∀(l:List (List UInt8)) (a b:List UInt8),lY (l++[a,b])=if a=b then lY (l++[a])else lY (l++[a])++[b]
 | [],a,b=>by
  by_cases h:a=b
  ·simp[lY,h]
  ·simp[lY,h]
 | [x],a,b=>by
  by_cases h:a=b
  ·by_cases h2:x=a <;> simp[lY,h,h2]
  ·by_cases h2:x=a <;> simp[lY,h,h2]
 |x::y::r,a,b=>by
  have ih:=tP (y::r) a b
  simp only[List.cons_append]at ih ⊢
  by_cases h2:x=y
  ·rw[lY,if_pos h2,ih,lY,if_pos h2]
  ·rw[lY,if_neg h2,ih,lY,if_neg h2]
   split <;> rfl
theorem nr{ds:List (List UInt8)}{m:Nat}(h0:0<m)(hm:m<ds.length):lY (ds.take (m+1))=if ds.getD m []=ds.getD (m-1) []then lY (ds.take m)else lY (ds.take m)++[ds.getD m []]:=by
 have e1:ds.take (m+1)=ds.take (m-1)++[ds.getD (m-1) [],ds.getD m []]:=by
  obtain⟨j,rfl⟩:∃j,m=j+1:=⟨m-1,by omega⟩
  rw[Nat.add_sub_cancel,List.take_succ_eq_append_getElem hm,List.take_succ_eq_append_getElem (by omega:j<ds.length),List.append_assoc]
  simp[List.getD,hm,(by omega:j<ds.length)]
 have e2:ds.take m=ds.take (m-1)++[ds.getD (m-1) []]:=by
  obtain⟨j,rfl⟩:∃j,m=j+1:=⟨m-1,by omega⟩
  rw[Nat.add_sub_cancel,List.take_succ_eq_append_getElem (by omega:j<ds.length)]
  simp[List.getD,(by omega:j<ds.length)]
 rw[e1,e2,tP]
 by_cases h:ds.getD (m-1) []=ds.getD m []
 ·rw[if_pos h,if_pos h.symm]
 ·rw[if_neg h,if_neg (fun e=>h e.symm)]
theorem vP(l:List (List UInt8)):(lY l).length≤l.length:=by
 match l with
 | []=>exact Nat.le_refl _
 | [a]=>exact Nat.le_refl _
 |a::b::r=>
  have ih:=vP (b::r)
  unfold lY
  split
  ·simp only[List.length_cons]at ih ⊢;omega
  ·simp only[List.length_cons]at ih ⊢;omega
theorem ri{l:List (List UInt8)}(h:l.length<2):lY l=l:=by
 match l,h with
 | [],_=>rfl
 | [a],_=>rfl
theorem yX{w:World}{base:Nat}{e:TypeId}{sz n c q:Nat}{A:Option Addr}{xs:List Value}(h:Go.Eng.Own w base e sz (.slice A n c) n xs)(hq:q≤n):Go.Eng.Own w base e sz (.slice A q c) q (xs.take (q*sz)):=by
 obtain⟨h1,h2⟩:=h
 have hle:q*sz≤n*sz:=Nat.mul_le_mul_right _ hq
 refine⟨by rw[List.length_take];omega, ?_⟩
 rcases h2 with⟨hv,rfl⟩|⟨g,o,cap,cur,hv,hb,hB,hnc,hcm,hfit,hcs⟩
 ·cases hv
  obtain rfl:q=0:=by omega
  exact .inl ⟨rfl,rfl⟩
 ·cases hv
  refine .inr ⟨g,o,c,cur,rfl,hb,hB,by omega,hcm,hfit, ?_⟩
  rw[←hcs,List.take_take,Nat.min_eq_left hle]
theorem View.Bv{e:TypeId}{sz n c q:Nat}{A:Option Addr}{xs:List Value}(hq:q≤n):View (aG e sz (.slice A n c) n xs) (aG e sz (.slice A q c) q (xs.take (q*sz))):=
 .of (fun w h=>yX h hq) (fun k h=>by cases A <;> exact h)
theorem sh{w:World}{a0:Addr}{k k2:Nat}{l:List Value}(h:∀(j:Nat) (u:Value),l[j]? =some u→w.cell? ((((some a0:Option Addr).getD d0).add ((k+k2)*32)).add j)=some u):
  ∀(j:Nat) (u:Value),l[j]? =some u→w.cell? ((((some (a0.add (k*32)):Option Addr).getD d0).add (k2*32)).add j)=some u:=fun j u hu=>by
 have:=h j u hu
 rw[Option.getD_some]at this ⊢
 rw[add_add]at this ⊢
 rw[add_add]
 have e:k*32+(k2*32+j)=(k+k2)*32+j:=by omega
 rw[e]
 exact this
theorem yl{ys:List (List UInt8)}{q:Nat}{d:List UInt8}(hD:j8 ys)(hd:d.length=32)(hq:q<ys.length):bI (dc ys) (q*32) (aV d)=dc (ys.set q d):=by
 have e:ys=ys.take q++[ys[q]]++ys.drop (q+1):=by simp
 have e2:ys.set q d=ys.take q++[d]++ys.drop (q+1):=by
  rw[List.set_eq_take_append_cons_drop,if_pos hq];simp
 rw[e2]
 conv=>lhs;rw[e]
 rw[dj,dj,dj,dj,AL,AL]
 refine iC ?_ ?_
 ·rw[gv (fun x hx=>hD x (List.mem_of_mem_take hx)),List.length_take];omega
 ·rw[az,az,hd,hD _ (List.getElem_mem hq)]
theorem pA{ys ds:List (List UInt8)}{q j:Nat}(h:ys.drop q=ds.drop q)(hj:q≤j):ys.getD j []=ds.getD j []:=by
 have h1:(ys.drop q)[j-q]? =(ds.drop q)[j-q]? :=by rw[h]
 rw[List.getElem?_drop,List.getElem?_drop,show q+(j-q)=j by omega]at h1
 rw[List.getD,List.getD,h1]
theorem AY{ys:List (List UInt8)}{q:Nat}{d:List UInt8}(hq:q<ys.length):(ys.set q d).take (q+1)=ys.take q++[d]:=by
 have hl:(ys.take q).length=q:=by rw[List.length_take];omega
 rw[List.set_eq_take_append_cons_drop,if_pos hq,List.take_append,List.take_of_length_le (by omega),hl,show q+1-q=1 by omega]
 rfl
theorem set_drop{ys ds:List (List UInt8)}{q:Nat}{d:List UInt8}(h:ys.drop q=ds.drop q):(ys.set q d).drop (q+1)=ds.drop (q+1):=by
 rw[List.drop_set,if_pos (Nat.lt_succ_self q),←List.drop_drop,←List.drop_drop,h]
theorem BP{ys:List (List UInt8)}{q:Nat}{d:List UInt8}(h:j8 ys)(hd:d.length=32):j8 (ys.set q d):=fun x hx=>by
 rcases List.mem_or_eq_of_mem_set hx with hx|rfl
 ·exact h x hx
 ·exact hd
theorem AV{A:Option Addr}{n c:Nat}{ds:List (List UInt8)}(hD:j8 ds)(hl:ds.length=n)(hnc:n≤c)(hn:n≤1000000):ck Tryz.prog 205 [.slice A n c] [aG 53 32 (.slice A n c) n (dc ds)] [] (fun v_ X_ S_=>∃k,v_=(.slice A k c)∧X_=[aG 53 32 (.slice A k c) k (dc (lY ds))]∧S_=[]∧(k=(lY ds).length)):=by
 refine aP (N:=61) Tryz.func205 rfl rfl (by simp) fun b=> ?_
 refine aY (fun m=>(m.ord 0 rfl).2.1) fun hA_x=> ?_
 refine ah<|aj<|hy (fun _=>ab rfl)<|ai<|ag<|ah<|ah<|aj<|hy (fun _=>aa rfl)<|hy (fun _=>aS rfl Tryz.underlying33)<|hy (fun _=>bq rfl rfl)<|ai<|al (ρ' :=[(8,_),(2,_),(0,_)]) ⟨rfl,rfl,rfl,trivial⟩<|ag<| ?_
 refine cD rfl (fun h2=> ?_) (fun h2=> ?_)
 ·have e:=ri (l:=ds) (by omega)
  rw[e]
  refine ah<|aj<|hy (fun _=>aa rfl)<|hy (fun _=>ab rfl)<|ai<|al (ρ' :=[(2,_),(8,_),(0,_)]) ⟨rfl,rfl,rfl,trivial⟩<|ag<|aX<|aw<| ?_
  exact bg trivial rfl rfl [0] rfl [] rfl ⟨n,rfl,rfl,rfl,hl.symm⟩
 ·refine aD<|ag<|ah<|ah<|aj<|hy (fun _=>ab rfl)<|ai<|ag<|aI<| ?_
  refine dx (fun k=>n-k) (fun k=>[(3,.int .i64 (k:Nat))]) (fun k=>[aG 53 32 (.slice A n c) n (dc ds)]) (fun k=>[]) (fun k=>1≤k∧k≤n∧lY (ds.take k)=ds.take k) 1 [(8,_),(0,_)] ⟨rfl,rfl,trivial⟩ [0] rfl [] rfl (⟨Nat.le_refl _,by omega,ri (Nat.lt_of_le_of_lt (List.length_take_le _ _) (by decide))⟩) ⟨rfl,trivial⟩ (fun k ⟨hk1,hkn,hne⟩=> ?_)
  refine ah<|ah<|aj<|hy (fun _=>aa rfl)<|hy (fun _=>aa rfl)<|hy (fun _=>aS rfl Tryz.underlying33)<|hy (fun _=>bq rfl rfl)<|ai<|al (ρ' :=[(13,_),(3,_),(8,_),(0,_)]) ⟨rfl,rfl,rfl,rfl,trivial⟩<|ag<| ?_
  refine cD rfl (fun hlt=> ?_) (fun hlt=> ?_)
  ·have hk2:k<ds.length:=by omega
   have hk3:k-1<ds.length:=by omega
   have ha:=eL hD hk2
   have hb:=eL hD hk3
   have ha' :(aV (ds.getD k [])).length=32:=by rw[az,ha]
   have hb' :(aV (ds.getD (k-1) [])).length=32:=by rw[az,hb]
   refine aD<|ag<|ah<|aI<|ah<|c5 [] [(0,some 0),(1,some 0),(2,some 0),(3,some 0),(4,some 0),(5,some 0),(6,some 0),(7,some 0),(8,some 0),(9,some 0)] (by kernel_rfl) (by kernel_rfl) rfl 99<|an (aa rfl)<|an (aa rfl)<|an (cq rfl rfl Tryz.underlying33 bf hA_x rfl (by omega))<|cr (fun m=>aU rfl b9 bf ha' ((m.ord 0 rfl).im hD hk2))<|an (aa rfl)<|an (aa rfl)<|an (cn rfl rfl (bG (by omega) (by omega)))<|an (cq rfl rfl Tryz.underlying33 bf hA_x (show((k-1:Nat):Int)=_ by omega) (by omega))<|cr (fun m=>aU rfl b9 bf hb' ((m.ord 0 rfl).im hD hk3))<|an (oZ rfl rfl ha hb)<|bD<|al (ρ' :=[(25,_),(13,_),(3,_),(8,_),(0,_)]) ⟨rfl,rfl,rfl,rfl,rfl,trivial⟩<|ag<| ?_
   refine cD rfl (fun heq=> ?_) (fun heq=> ?_)
   ·obtain⟨a0,rfl⟩:∃a0,A=some a0:=Option.ne_none_iff_exists'.1 (hA_x (by omega))
    refine ah<|aj<|hy (fun _=>aa rfl)<|hy (fun _=>aa rfl)<|hy (fun _=>yV (dM rfl rfl Tryz.underlying33 bf rfl (by omega)) ((show Value.slice (if c=k then some a0 else Option.map (fun x=>x.add (k*32)) (some a0)) (n-k) (c-k)= .slice (some (a0.add (k*32))) (n-k) (c-k)from by rw[if_neg (by omega)];rfl)))<|hy (fun _=>ab rfl)<|ai<|al (ρ' :=[(4,_),(25,_),(13,_),(3,_),(8,_),(0,_)]) ⟨rfl,rfl,rfl,rfl,rfl,rfl,trivial⟩<|ag<|ah<|ah<|aj<|hy (fun _=>ab rfl)<|ai<|ag<|aI<| ?_
    refine fH (fun k2 q ys=>n-k2) (fun k2 q ys=>[(3,.int .i64 (q:Nat)),(5,.int .i64 (k2:Nat))]) (fun k2 q ys=>[aG 53 32 (.slice (some a0) n c) n (dc ys)]) (fun k2 q ys=>[]) (fun k2 q ys=>1≤k2∧k+k2≤n∧q+1≤k+k2∧j8 ys∧ys.length=n∧ys.take q=lY (ds.take (k+k2))∧ys.drop q=ds.drop q∧(lY (ds.take (k+k2))).length=q) 1 k ds [(4,_),(25,_),(13,_),(8,_),(0,_)] ⟨rfl,rfl,rfl,rfl,rfl,trivial⟩ [0] rfl [] rfl (⟨Nat.le_refl _,by omega,by omega,hD,hl,by rw[nr (by omega) hk2,if_pos heq,hne],rfl,by rw[nr (by omega) hk2,if_pos heq,hne,List.length_take];omega⟩) ⟨rfl,rfl,trivial⟩ (fun k2 q ys ⟨i1,i2,i3,iD,iL,iT,iE,iN⟩=> ?_)
    refine ah<|ah<|aj<|hy (fun _=>aa rfl)<|hy (fun _=>aa rfl)<|hy (fun _=>aS rfl Tryz.underlying33)<|hy (fun _=>bq rfl rfl)<|ai<|al (ρ' :=[(32,_),(3,_),(5,_),(4,_),(25,_),(13,_),(8,_),(0,_)]) ⟨rfl,rfl,rfl,rfl,rfl,rfl,rfl,rfl,trivial⟩<|ag<| ?_
    refine cD rfl (fun hlt2=> ?_) (fun hlt2=> ?_)
    ·have hm1:k+k2<ys.length:=by omega
     have hm2:k+(k2-1)<ys.length:=by omega
     have g1:=eL iD hm1
     have g2:=eL iD hm2
     have g1' :(aV (ys.getD (k+k2) [])).length=32:=by rw[az,g1]
     have g2' :(aV (ys.getD (k+(k2-1)) [])).length=32:=by rw[az,g2]
     have e1:=pA iE (show q≤k+k2 by omega)
     have e2:=pA iE (show q≤k+(k2-1) by omega)
     have hA2:∀{n:Nat} {a:Addr},0<n→(some a:Option Addr)≠none:=fun _ h=>by cases h
     have hA_x:= @hA2
     refine aD<|ag<|ah<|aI<|ah<|c5 [] [(0,some 0),(1,some 0),(2,some 0),(3,some 0),(4,some 0),(5,some 0),(6,some 0),(7,some 0),(8,some 0),(9,some 0)] (by kernel_rfl) (by kernel_rfl) rfl 99<|an (aa rfl)<|an (aa rfl)<|an (cq rfl rfl Tryz.underlying33 bf hA_x rfl (by omega))<|cr (fun m=>aU rfl b9 bf g1' (sh ((m.ord 0 rfl).im iD hm1)))<|an (aa rfl)<|an (aa rfl)<|an (cn rfl rfl (bG (by omega) (by omega)))<|an (cq rfl rfl Tryz.underlying33 bf hA_x (show((k2-1:Nat):Int)=_ by omega) (by omega))<|cr (fun m=>aU rfl b9 bf g2' (sh ((m.ord 0 rfl).im iD hm2)))<|an (o1 rfl rfl g1 g2)<|bD<|al (ρ' :=[(44,_),(32,_),(3,_),(5,_),(4,_),(25,_),(13,_),(8,_),(0,_)]) ⟨rfl,rfl,rfl,rfl,rfl,rfl,rfl,rfl,rfl,trivial⟩<|ag<| ?_
     have hct:=nr (ds:=ds) (m:=k+k2) (by omega) (by omega)
     rw[show k+k2-1=k+(k2-1) by omega,←e1,←e2]at hct
     refine cD rfl (fun hne2=> ?_) (fun hne2=> ?_)
     ·rw[if_neg hne2]at hct
      refine ah<|aj<|hy (fun _=>aa rfl)<|hy (fun _=>aa rfl)<|hy (fun _=>aa rfl)<|hy (fun _=>aa rfl)<|hy (fun _=>cq rfl rfl Tryz.underlying33 bf hA_x rfl (by omega))<|hy (fun m=>aU rfl b9 bf g1' (sh ((m.ord 0 rfl).im iD hm1)))<|hy (fun _=>cq rfl rfl Tryz.underlying33 bf hA_x rfl (by omega))<| ?_
      refine cL (Br 0 rfl rfl rfl bf g1' aZ (by omega) (by omega) ?_)
      rw[yl iD g1 (by omega)]
      refine ai<|al (ρ' :=[(44,_),(32,_),(3,_),(5,_),(4,_),(25,_),(13,_),(8,_),(0,_)]) ⟨rfl,rfl,rfl,rfl,rfl,rfl,rfl,rfl,rfl,trivial⟩<|ak (X' :=[_]) (S' :=[]) (fun _ m=>m)<|ag<|aj<|hy (fun _=>aa rfl)<|hy (fun _=>aM rfl rfl (bG (by omega) (by omega)))<|hy (fun _=>ab rfl)<|ai<|al (ρ' :=[(3,_),(44,_),(32,_),(5,_),(4,_),(25,_),(13,_),(8,_),(0,_)]) ⟨rfl,rfl,rfl,rfl,rfl,rfl,rfl,rfl,rfl,trivial⟩<|aQ<|ag<|aj<|hy (fun _=>aa rfl)<|hy (fun _=>aM rfl rfl (bG (by omega) (by omega)))<|hy (fun _=>ab rfl)<|ai<|al (ρ' :=[(5,_),(3,_),(44,_),(32,_),(4,_),(25,_),(13,_),(8,_),(0,_)]) ⟨rfl,rfl,rfl,rfl,rfl,rfl,rfl,rfl,rfl,trivial⟩<| ?_
      refine fx (k2+1) (q+1) (ys.set q (ys.getD (k+k2) [])) ⟨rfl,rfl,rfl,rfl,rfl,rfl,rfl,trivial⟩ [0] rfl [] rfl (⟨by omega,by omega,by omega,BP iD g1,by rw[List.length_set];exact iL,by rw[AY (by omega),iT,←Nat.add_assoc,hct],set_drop iE,by rw[←Nat.add_assoc,hct,List.length_append,iN];rfl⟩) (by omega)
     ·rw[if_pos (Decidable.not_not.1 hne2)]at hct
      refine aD<|aQ<|ag<|aj<|hy (fun _=>aa rfl)<|hy (fun _=>aM rfl rfl (bG (by omega) (by omega)))<|hy (fun _=>ab rfl)<|ai<|al (ρ' :=[(5,_),(44,_),(32,_),(3,_),(4,_),(25,_),(13,_),(8,_),(0,_)]) ⟨rfl,rfl,rfl,rfl,rfl,rfl,rfl,rfl,rfl,trivial⟩<| ?_
      refine fx (k2+1) q ys ⟨rfl,rfl,rfl,rfl,rfl,rfl,rfl,trivial⟩ [0] rfl [] rfl (⟨by omega,by omega,by omega,iD,iL,by rw[iT,←Nat.add_assoc,hct],iE,by rw[←Nat.add_assoc,hct,iN]⟩) (by omega)
    ·have hkn2:k+k2=n:=by omega
     have hT:ds.take n=ds:=List.take_of_length_le (by omega)
     rw[hkn2,hT]at iT iN
     refine bJ<|ao<|ao<|aB<|ag<|ah<|aj<|hy (fun _=>aa rfl)<|hy (fun _=>aa rfl)<|hy (fun _=>dM rfl rfl Tryz.underlying33 bf rfl (by omega))<| ?_
     refine cL (Ai (k:=q) 0 rfl rfl Tryz.underlying33 cS rfl aZ (fun h=>by rw[if_neg (by omega)];rfl) (by omega) (fun zs hzs=> ?_))
     refine ai<|al (ρ' :=[(32,_),(3,_),(5,_),(4,_),(25,_),(13,_),(8,_),(0,_)]) ⟨rfl,rfl,rfl,rfl,rfl,rfl,rfl,rfl,trivial⟩<|ak (X' :=[_]) (S' :=[]) (fun _ m=>m)<|ag<|ah<|aj<|hy (fun _=>aa rfl)<|hy (fun _=>aa rfl)<|hy (fun _=>kZ rfl rfl Tryz.underlying33 bf rfl (by omega))<|hy (fun _=>ab rfl)<|ai<|al (ρ' :=[(2,_),(32,_),(3,_),(5,_),(4,_),(25,_),(13,_),(8,_),(0,_)]) ⟨rfl,rfl,rfl,rfl,rfl,rfl,rfl,rfl,rfl,trivial⟩<|ag<|aX<|a8<|aw<|aw<|a8<|aw<| ?_
     have e9:(bI (dc ys) (q*32) zs).take (q*32)=dc (lY ds):=by
      rw[bI,List.append_assoc,List.take_append_of_le_length (by rw[List.length_take,gv iD];omega),List.take_take,Nat.min_self,wo iD,iT]
     refine ak (X' :=aG 53 32 (.slice (some a0) q c) q ((bI (dc ys) (q*32) zs).take (q*32))::_) (fun w m=>(m.perm (au [0] _ [_] _ rfl)).wO (View.Bv (by omega))) ?_
     rw[e9]
     exact bg trivial rfl rfl [0] rfl [] rfl ⟨q,rfl,rfl,rfl,iN.symm⟩
   ·refine aD<|aQ<|ag<|aj<|hy (fun _=>aa rfl)<|hy (fun _=>aM rfl rfl (bG (by omega) (by omega)))<|hy (fun _=>ab rfl)<|ai<|al (ρ' :=[(3,_),(25,_),(13,_),(8,_),(0,_)]) ⟨rfl,rfl,rfl,rfl,rfl,trivial⟩<| ?_
    refine cR (k+1) ⟨rfl,rfl,rfl,trivial⟩ [0] rfl [] rfl (⟨by omega,by omega,by rw[nr (by omega) (by omega),if_neg heq,hne,List.take_succ_eq_append_getElem hk2];simp[List.getD,hk2]⟩) (by omega)
  ·obtain rfl:k=n:=by omega
   refine bJ<|ao<|ao<|aB<|ag<|ah<|aj<|hy (fun _=>aa rfl)<|hy (fun _=>ab rfl)<|ai<|al (ρ' :=[(2,_),(13,_),(3,_),(8,_),(0,_)]) ⟨rfl,rfl,rfl,rfl,rfl,trivial⟩<|ag<|aX<| ?_
   have e:lY ds=ds:=by rw[List.take_of_length_le (by omega)]at hne;exact hne
   rw[e]
   exact bg trivial rfl rfl [0] rfl [] rfl ⟨k,rfl,rfl,rfl,hl.symm⟩
end Go.Proofs.YtmibdabdlgmafaaGreatDoor
end
section
set_option maxRecDepth 20000
namespace Go.Proofs.YtmibdabdlgmafaaGreatDoor
open Go.Eng Go.Hx Go.Extern
theorem text(A:Option Addr)(n c:Nat)(l:List UInt8)(w:World)(hr:Rd w 1 A n (aV l))(hn:n≤70368744177664):
  Calls Tryz.prog 177 #[.slice A n c] w fun e w' =>e= .returned (.string (strOf (cf l)))∧Fr No w w' :=by
 have hl:l.length=n:=by have:=hr.1;rw[az]at this;omega
 refine enter (N:=28) Tryz.func177 rfl rfl (by simp) ?_
 refine aW<|bc<|nq (ab rfl)<|ba<|aF<|aW<|bc<|nq (ab rfl)<|ba<|aF<|aW<|aW<|bc<|nq (aa rfl)<|nq (aS rfl Tryz.underlying27)<|nq (aa rfl)<|ba<|bB (ae (t:=7) rfl<|ae (t:=6) rfl<|ae (t:=3) rfl<|ae (t:=2) rfl<|ae (t:=0) rfl<|aC)<|aF<|cW<| ?_
 refine sd (fun k _=>n-k) (fun k v=>[(0,.slice A n c),(3,v),(6,.int .i64 n),(7,.int .i64 (k:Nat))]) (fun k v w' =>k≤n∧Go.Eng.Own w' w.heap.size 5 1 v (2*k) (aV (cf (l.take k)))∧Fr No w w') 0 (.slice none 0 0) (⟨Nat.zero_le _,Own.nil w w.heap.size _ 1,Fr.refl _ _⟩) (ae (t:=0) rfl<|ae (t:=3) rfl<|ae (t:=6) rfl<|ae (t:=7) rfl<|aC) (fun k v w1 ⟨hk,ho,hf⟩=> ?_)
 refine aW<|bc<|nq (bq rfl rfl)<|ba<|aF<|aW<| ?_
 refine nF rfl (fun h=> ?_) (fun h=> ?_)
 ·have hkn:k<n:=by omega
  have hb:=(l.getD k 0).toNat_lt
  refine dN<|aF<|aW<|cW<|aW<|bc<|nq (aa rfl)<|nq (ab rfl)<|ba<|bB (ae (t:=4) rfl<|ae (t:=8) rfl<|ae (t:=0) rfl<|ae (t:=3) rfl<|ae (t:=6) rfl<|ae (t:=7) rfl<|aC)<|aF<| ?_
  refine xV [(0,false),(1,false),(2,false),(3,false),(4,false),(5,false),(6,false),(7,false),(8,false),(9,false),(10,false),(11,false),(12,false),(13,true),(14,true),(15,false)] (by kernel_rfl) (by kernel_rfl) rfl (fun w' =>Fr No w w') (hf.cy (Fr.drew _)) (fun w2 hf2 hS2=> ?_)
  refine sq (fun w_ hS_=>aa rfl)<|sq (fun w_ hS_=>aa rfl)<|sq (fun w_ hS_=>aa rfl)<|sq (fun w_ hS_=>aT rfl rfl Tryz.underlying27 ea hr.2.1 rfl (by omega))<|sq (fun w_ hS_=>ay rfl iX (((hr.mU hS_).cell (bL (by omega)))))<|sq (fun w_ hS_=>oq (p:=16) rfl rfl (by decide) (by decide) (by decide))<|sq (fun w_ hS_=>eT rfl rfl Tryz.underlying9 rfl ((C9 _)))<|sq (fun w_ hS_=>aa rfl)<|sq (fun w_ hS_=>aa rfl)<|sq (fun w_ hS_=>aT rfl rfl Tryz.underlying27 ea hr.2.1 rfl (by omega))<|sq (fun w_ hS_=>ay rfl iX (((hr.mU hS_).cell (bL (by omega)))))<|sq (fun w_ hS_=>gV (by simp) rfl rfl ((FK _)))<|sq (fun w_ hS_=>eT rfl rfl Tryz.underlying9 rfl ((BW _)))<| ?_
  refine sx (na Tryz.underlying27 fa rfl rfl rfl (by simp[Value.cells,B8]) (by decide) (by decide) fun g w3 hg hf3 hb3=> ?_)
  have hS3:Fr No w w3:=hS2.cy hf3
  refine⟨hS3, ?_⟩
  refine sx (kL rfl rfl Tryz.underlying27 Tryz.underlying27 (by exact .inl rfl) fa rfl (ho.mU (hf2.cy hf3)) (Src.bP (Own.rd (Own.made hb3 (Nat.le_refl _) (Nat.le_refl _) (by decide) (by rfl))).2.2) (by simp[Value.cells];exact⟨rfl,rfl⟩) (by unfold maxLen;omega) (by omega) hS3.size fun v4 w4 ho4 hf4 hv4=> ?_)
  have hS4:Fr No w w4:=hS3.new hf4 (fun i hi=>(ho.from hi).1)
  refine⟨hS4, ?_⟩
  refine sq (fun w_ hS_=>ab rfl)<|send<|bB (ae (t:=3) rfl<|ae (t:=4) rfl<|ae (t:=8) rfl<|ae (t:=0) rfl<|ae (t:=6) rfl<|ae (t:=7) rfl<|aC)<|ff<|aF<|bc<|nq (aM rfl rfl (bG (by omega) (by omega)))<|nq (aa rfl)<|ba<|bB (ae (t:=7) rfl<|ae (t:=3) rfl<|ae (t:=4) rfl<|ae (t:=8) rfl<|ae (t:=0) rfl<|ae (t:=6) rfl<|aC)<| ?_
  refine pN (k+1) v4 (ae (t:=0) rfl<|ae (t:=3) rfl<|ae (t:=6) rfl<|ae (t:=7) rfl<|aC) (⟨by omega, ?_,hS4⟩) (by omega)
  have e1:2*k+2=2*(k+1):=by omega
  have e2:cf (l.take (k+1))=cf (l.take k)++pV (l.getD k 0):=ra (by omega)
  rw[e1]at ho4
  rw[e2,bH]
  exact ho4
 ·obtain rfl:k=n:=by omega
  obtain⟨A',c',rfl,hc'⟩:=ho.slice
  have hro:=(Own.rd ho).2.2
  rw[List.take_of_length_le (by omega)]at hro
  refine jk<|bS<|bS<|cT<|aF<|aW<|bc<|nq (aa rfl)<|nq (kB rfl Tryz.underlying27 Tryz.underlying5 Tryz.underlying9 hro)<|nq (ab rfl)<|ba<|bB (ae (t:=2) rfl<|ae (t:=8) rfl<|ae (t:=0) rfl<|ae (t:=3) rfl<|ae (t:=6) rfl<|ae (t:=7) rfl<|aC)<|aF<|dO<| ?_
  exact eW trivial rfl rfl ⟨rfl,hf⟩
theorem wu(c:UInt8)(w:World):Calls Tryz.prog 226 #[.int .u8 (c.toNat:Int)] w fun e w' =>e= .returned (.int .i64 (im c))∧w=w' :=by
 have hc:=c.toNat_lt
 refine enter (N:=21) Tryz.func226 rfl rfl (by simp) ?_
 refine aW<|bc<|nq (ab rfl)<|ba<|aF<|aW<|aW<|bc<|nq (aa rfl)<|nq (iP rfl rfl)<|nq (aa rfl)<| ?_
 refine l6 5 rfl (fun h1=> ?_) (fun h1=> ?_)
 ·refine ng rfl rfl rfl (aa rfl)<|ng rfl rfl rfl (oD rfl rfl)<|nq (bM rfl rfl)<|ba<|bB (ae (t:=8) rfl<|ae (t:=2) rfl<|ae (t:=0) rfl<|aC)<|aF<| ?_
  refine nF rfl (fun h2=> ?_) (fun h2=> ?_)
  ·refine aW<|bc<|nq (aa rfl)<|nq (bX rfl Tryz.underlying5 Tryz.underlying3 ((bG (by omega) (by omega))))<|nq (cn rfl rfl (bG (by omega) (by omega)))<|nq (ab rfl)<|ba<|bB (ae (t:=2) rfl<|ae (t:=8) rfl<|ae (t:=0) rfl<|aC)<|aF<|dO<|bF<| ?_
   refine eW trivial rfl rfl ⟨?_,rfl⟩
   rw[im,if_pos (by omega)]
  ·refine dN<|aF<|aW<|aW<|bc<|nq (aa rfl)<|nq (iP rfl rfl)<|nq (aa rfl)<| ?_
   refine l6 14 rfl (fun h3=> ?_) (fun h3=> ?_)
   ·refine ng rfl rfl rfl (aa rfl)<|ng rfl rfl rfl (oD rfl rfl)<|nq (bM rfl rfl)<|ba<|bB (ae (t:=17) rfl<|ae (t:=8) rfl<|ae (t:=2) rfl<|ae (t:=0) rfl<|aC)<|aF<| ?_
    refine nF rfl (fun h4=> ?_) (fun h4=> ?_)
    ·refine aW<|bc<|nq (aa rfl)<|nq (bX rfl Tryz.underlying5 Tryz.underlying3 ((bG (by omega) (by omega))))<|nq (cn rfl rfl (bG (by omega) (by omega)))<|nq (ab rfl)<|ba<|bB (ae (t:=2) rfl<|ae (t:=17) rfl<|ae (t:=8) rfl<|ae (t:=0) rfl<|aC)<|aF<|dO<|bF<| ?_
     refine eW trivial rfl rfl ⟨?_,rfl⟩
     rw[im,if_neg (by omega),if_pos (by omega)]
    ·refine dN<|aF<|aW<|bc<|nq (ab rfl)<|ba<|aF<|dO<| ?_
     refine eW trivial rfl rfl ⟨?_,rfl⟩
     rw[im,if_neg (by omega),if_neg (by omega)]
   ·refine jf rfl rfl rfl (by decide)<|jf rfl rfl rfl (by decide)<|nq (bC rfl rfl)<|ba<|bB (ae (t:=17) rfl<|ae (t:=8) rfl<|ae (t:=2) rfl<|ae (t:=0) rfl<|aC)<|aF<| ?_
    refine qb rfl (rfl) ?_
    refine dN<|aF<|aW<|bc<|nq (ab rfl)<|ba<|aF<|dO<| ?_
    refine eW trivial rfl rfl ⟨?_,rfl⟩
    rw[im,if_neg (by omega),if_neg (by omega)]
 ·refine jf rfl rfl rfl (by decide)<|jf rfl rfl rfl (by decide)<|nq (bC rfl rfl)<|ba<|bB (ae (t:=8) rfl<|ae (t:=2) rfl<|ae (t:=0) rfl<|aC)<|aF<| ?_
  refine qb rfl (rfl) ?_
  refine dN<|aF<|aW<|aW<|bc<|nq (aa rfl)<|nq (iP rfl rfl)<|nq (aa rfl)<| ?_
  refine l6 14 rfl (fun h3=> ?_) (fun h3=> ?_)
  ·omega
  ·refine jf rfl rfl rfl (by decide)<|jf rfl rfl rfl (by decide)<|nq (bC rfl rfl)<|ba<|bB (ae (t:=17) rfl<|ae (t:=8) rfl<|ae (t:=2) rfl<|ae (t:=0) rfl<|aC)<|aF<| ?_
   refine qb rfl (rfl) ?_
   refine dN<|aF<|aW<|bc<|nq (ab rfl)<|ba<|aF<|dO<| ?_
   refine eW trivial rfl rfl ⟨?_,rfl⟩
   rw[im,if_neg (by omega),if_neg (by omega)]
theorem Gw(A:Option Addr)(n c:Nat)(l:List UInt8)(w:World)(hr:Rd w 1 A n (aV l))(hn:n≤70368744177664):
  Calls Tryz.prog 182 #[.slice A n c] w fun e w' =>e= .returned (.string (strOf (cf l)))∧Fr No w w' :=by
 have hl:l.length=n:=by have:=hr.1;rw[az]at this;omega
 refine enter (N:=40) Tryz.func182 rfl rfl (by simp) ?_
 refine aW<|bc<|nq (ab rfl)<|ba<|aF<|aW<|bc<|nq (ab rfl)<|ba<|aF<|aW<|bc<|nq (ab rfl)<|ba<|aF<|aW<|aW<|bc<|nq (ab rfl)<|ba<|aF<|cW<| ?_
 refine kS (fun k=>n-k) (fun k=>[(0,.slice A n c),(3,.string ⟨#[48,49,50,51,52,53,54,55,56,57,97,98,99,100,101,102]⟩),(4,.string (strOf (cf (l.take k)))),(5,.int .i64 (k:Nat))]) (fun k w' =>k≤n∧Fr No w w') 0 (⟨Nat.zero_le _,Fr.refl _ _⟩) (ae (t:=0) rfl<|ae (t:=3) rfl<|ae (t:=4) rfl<|ae (t:=5) rfl<|aC) (fun k w1 ⟨hk,hf⟩=> ?_)
 refine aW<|aW<|bc<|nq (aa rfl)<|nq (aa rfl)<|nq (aS rfl Tryz.underlying27)<|nq (bq rfl rfl)<|ba<|bB (ae (t:=11) rfl<|ae (t:=0) rfl<|ae (t:=3) rfl<|ae (t:=4) rfl<|ae (t:=5) rfl<|aC)<|aF<| ?_
 refine nF rfl (fun h=> ?_) (fun h=> ?_)
 ·have hkn:k<n:=by omega
  have hb:=(l.getD k 0).toNat_lt
  have hr1:=hr.mU hf
  refine dN<|aF<|aW<|cW<|aW<|bc<|nq (aa rfl)<|nq (aa rfl)<|nq (aT rfl rfl Tryz.underlying27 ea hr.2.1 rfl (by omega))<|nq (ay rfl iX (hr1.cell (bL (by omega))))<|nq (bX rfl Tryz.underlying5 Tryz.underlying3 ((Bq _)))<|nq (ky rfl rfl (by omega) (by omega) (bG (by omega) (by omega)))<|nq (ab rfl)<|ba<|bB (ae (t:=6) rfl<|ae (t:=11) rfl<|ae (t:=0) rfl<|ae (t:=3) rfl<|ae (t:=4) rfl<|ae (t:=5) rfl<|aC)<|aF<|aW<|bc<|nq (aa rfl)<|nq (aa rfl)<|nq (aT rfl rfl Tryz.underlying27 ea hr.2.1 rfl (by omega))<|nq (ay rfl iX (hr1.cell (bL (by omega))))<|nq (bX rfl Tryz.underlying5 Tryz.underlying3 ((Bq _)))<|nq (gN rfl rfl (by omega) (by omega))<|nq (ab rfl)<|ba<|bB (ae (t:=7) rfl<|ae (t:=6) rfl<|ae (t:=11) rfl<|ae (t:=0) rfl<|ae (t:=3) rfl<|ae (t:=4) rfl<|ae (t:=5) rfl<|aC)<|aF<| ?_
  have hll:=dQ (l.take k)
  have htl:(l.take k).length≤k:=List.length_take_le _ _
  refine xV [(0,false),(1,false),(2,false),(3,false),(4,false),(5,false),(6,false),(7,false),(8,false),(9,false),(10,false),(11,false),(12,false),(13,false)] (by kernel_rfl) (by kernel_rfl) rfl (fun w' =>Fr No w w') (hf.cy (Fr.drew _)) (fun w2 hf2 hS2=> ?_)
  refine sq (fun w_ hS_=>aa rfl)<|sq (fun w_ hS_=>aa rfl)<|sq (fun w_ hS_=>aa rfl)<|sq (fun w_ hS_=>aa rfl)<|sq (fun w_ hS_=>aM rfl rfl (bG (by omega) (by omega)))<|sq (fun w_ hS_=>rB rfl rfl rfl Tryz.underlying9 (show(((l.getD k 0).toNat/16:Nat):Int)=_ by omega) (show(((l.getD k 0).toNat/16+1:Nat):Int)=_ by omega) ((by omega)) ((by show _≤16;omega)))<|sq (fun w_ hS_=>jA rfl rfl ((by simp[cY];omega)))<|sq (fun w_ hS_=>aa rfl)<|sq (fun w_ hS_=>aa rfl)<|sq (fun w_ hS_=>aa rfl)<|sq (fun w_ hS_=>aM rfl rfl (bG (by omega) (by omega)))<|sq (fun w_ hS_=>rB rfl rfl rfl Tryz.underlying9 (show(((l.getD k 0).toNat % 16:Nat):Int)=_ by omega) (show(((l.getD k 0).toNat % 16+1:Nat):Int)=_ by omega) ((by omega)) ((by show _≤16;omega)))<|sq (fun w_ hS_=>yV (jA rfl rfl ((by simp[cY,ByteArray.size_append];omega))) (congrArg Value.string (x4 (by omega))))<|sq (fun w_ hS_=>ab rfl)<|send<|bB (ae (t:=4) rfl<|ae (t:=7) rfl<|ae (t:=6) rfl<|ae (t:=11) rfl<|ae (t:=0) rfl<|ae (t:=3) rfl<|ae (t:=5) rfl<|aC)<|ff<|aF<|bc<|nq (aa rfl)<|nq (aM rfl rfl (bG (by omega) (by omega)))<|nq (ab rfl)<|ba<|bB (ae (t:=5) rfl<|ae (t:=4) rfl<|ae (t:=7) rfl<|ae (t:=6) rfl<|ae (t:=11) rfl<|ae (t:=0) rfl<|ae (t:=3) rfl<|aC)<| ?_
  refine lf (k+1) (ae (t:=0) rfl<|ae (t:=3) rfl<|ae (t:=4) rfl<|ae (t:=5) rfl<|aC) (⟨by omega,hS2⟩) (by omega)
 ·obtain rfl:k=n:=by omega
  refine jk<|bS<|bS<|cT<|aF<|aW<|bc<|nq (aa rfl)<|nq (ab rfl)<|ba<|bB (ae (t:=2) rfl<|ae (t:=11) rfl<|ae (t:=0) rfl<|ae (t:=3) rfl<|ae (t:=4) rfl<|ae (t:=5) rfl<|aC)<|aF<|dO<| ?_
  refine eW trivial rfl rfl ⟨?_,hf⟩
  rw[List.take_of_length_le (by omega)]
def gR(w:World)(s:List UInt8)(v:Value)(w' :World):Prop:=
 match unhex s with
 |some x=>∃u,v= .tuple #[u,.int .i64 0]∧Go.Eng.Own w' w.heap.size 5 1 u x.length (aV x)
 |none=>v= .tuple #[.slice none 0 0,.int .i64 2]
theorem En(s:List UInt8)(w:World)(hs:s.length≤140737488351232):
  Calls Tryz.prog 169 #[.string (strOf s)] w fun e w' =>(∃v,e= .returned v∧gR w s v w')∧Fr No w w' :=by
 have hsz:(strOf s).size=s.length:=cY s
 refine enter (N:=43) Tryz.func169 rfl rfl (by simp) ?_
 refine aW<|bc<|nq (ab rfl)<|nq (ab rfl)<|ba<|aF<|aW<|aW<|bc<|nq (aa rfl)<|nq (cV rfl Tryz.underlying9)<|nq (gN rfl rfl (by omega) (by omega))<|nq (cJ rfl rfl)<|ba<|bB (ae (t:=11) rfl<|ae (t:=3) rfl<|ae (t:=2) rfl<|ae (t:=0) rfl<|aC)<|aF<| ?_
 refine nF rfl (fun h=> ?_) (fun h=> ?_)
 ·refine aW<|bc<|nq (ab rfl)<|nq (ab rfl)<|ba<|aF<|dO<|bF<| ?_
  refine sg trivial rfl rfl rfl ⟨⟨_,rfl, ?_⟩,Fr.refl _ _⟩
  rw[gR,nX s (by omega)]
 ·refine dN<|aF<|aW<|bc<|nq (ab rfl)<|ba<|aF<|aW<|aW<|bc<|nq (ab rfl)<|ba<|aF<|cW<| ?_
  refine AB (fun k _ _=>s.length-2*k) (fun k v _=>[(0,.string (strOf s)),(4,v),(5,.int .i64 (2*(k:Nat):Int))]) (fun k v x w' =>2*k≤s.length∧unhex (s.take (2*k))=some x∧Go.Eng.Own w' w.heap.size 5 1 v k (aV x)∧Fr No w w') 0 (.slice none 0 0) [] (⟨Nat.zero_le _,rfl,Own.nil w w.heap.size _ 1,Fr.refl _ _⟩) (ae (t:=0) rfl<|ae (t:=4) rfl<|ae (t:=5) rfl<|aC) (fun k v x w1 ⟨hk,hx,ho,hf⟩=> ?_)
  refine aW<|aW<|bc<|nq (aa rfl)<|nq (aM rfl rfl (bG (by omega) (by omega)))<|nq (aa rfl)<|nq (cV rfl Tryz.underlying9)<|nq (bq rfl rfl)<|ba<|bB (ae (t:=16) rfl<|ae (t:=0) rfl<|ae (t:=4) rfl<|ae (t:=5) rfl<|aC)<|aF<| ?_
  refine nF rfl (fun h2=> ?_) (fun h2=> ?_)
  ·have hk2:2*k+1<s.length:=by omega
   have hd1:=iw (s.getD (2*k) 0)
   have hd2:=iw (s.getD (2*k+1) 0)
   have hlen:(s.take (2*k)).length=2*k:=by simp;omega
   have hsn:=me (s.take (2*k)) k (s.getD (2*k) 0) (s.getD (2*k+1) 0) x hlen hx
   rw[←tV hk2]at hsn
   have hno:(im (s.getD (2*k) 0)<0∨im (s.getD (2*k+1) 0)<0)→unhex s=none:=fun hn=>by
    rw[if_pos hn]at hsn
    have:=fR _ (s.drop (2*(k+1))) (k+1) (by simp;omega) hsn
    rwa [List.take_append_drop]at this
   refine dN<|aF<|aW<|cW<|aW<|bc<|nq (aa rfl)<|nq (aa rfl)<|nq (eT rfl rfl Tryz.underlying9 (show((2*k:Nat):Int)=_ by omega) (iM (by omega)))<| ?_
   refine nx (eh rfl Tryz.call226 (wu _ w1) ?_)
   rintro e_ w2 ⟨rfl,rfl⟩
   refine⟨_,rfl, ?_⟩
   refine nq (ab rfl)<|ba<|bB (ae (t:=6) rfl<|ae (t:=16) rfl<|ae (t:=0) rfl<|ae (t:=4) rfl<|ae (t:=5) rfl<|aC)<|aF<|aW<|bc<|nq (aa rfl)<|nq (aa rfl)<|nq (aM rfl rfl (bG (by omega) (by omega)))<|nq (eT rfl rfl Tryz.underlying9 (show((2*k+1:Nat):Int)=_ by omega) (iM (by omega)))<| ?_
   refine nx (eh rfl Tryz.call226 (wu _ w1) ?_)
   rintro e_ w2 ⟨rfl,rfl⟩
   refine⟨_,rfl, ?_⟩
   refine nq (ab rfl)<|ba<|bB (ae (t:=7) rfl<|ae (t:=6) rfl<|ae (t:=16) rfl<|ae (t:=0) rfl<|ae (t:=4) rfl<|ae (t:=5) rfl<|aC)<|aF<|aW<|aW<|bc<|nq (aa rfl)<|nq (bq rfl rfl)<|nq (aa rfl)<| ?_
   refine l6 30 rfl (fun h3=> ?_) (fun h3=> ?_)
   ·refine jf rfl rfl rfl (by decide)<|jf rfl rfl rfl (by decide)<|nq (bM rfl rfl)<|ba<|bB (ae (t:=33) rfl<|ae (t:=7) rfl<|ae (t:=6) rfl<|ae (t:=16) rfl<|ae (t:=0) rfl<|ae (t:=4) rfl<|ae (t:=5) rfl<|aC)<|aF<| ?_
    refine xO rfl (rfl) ?_
    refine aW<|bc<|nq (ab rfl)<|nq (ab rfl)<|ba<|aF<|dO<|bF<|cz<|bF<|bF<|cz<|bF<| ?_
    refine sg trivial rfl rfl rfl ⟨⟨_,rfl, ?_⟩,hf⟩
    rw[gR,hno (.inl h3)]
   ·refine ng rfl rfl rfl (aa rfl)<|ng rfl rfl rfl (bq rfl rfl)<|nq (bC rfl rfl)<|ba<|bB (ae (t:=33) rfl<|ae (t:=7) rfl<|ae (t:=6) rfl<|ae (t:=16) rfl<|ae (t:=0) rfl<|ae (t:=4) rfl<|ae (t:=5) rfl<|aC)<|aF<| ?_
    refine nF rfl (fun h4=> ?_) (fun h4=> ?_)
    ·refine aW<|bc<|nq (ab rfl)<|nq (ab rfl)<|ba<|aF<|dO<|bF<|cz<|bF<|bF<|cz<|bF<| ?_
     refine sg trivial rfl rfl rfl ⟨⟨_,rfl, ?_⟩,hf⟩
     rw[gR,hno (.inr h4)]
    ·refine dN<|aF<|bc<|nq (aa rfl)<|nq (aa rfl)<|nq (fB rfl rfl (bG (by omega) (by omega)))<|nq (aa rfl)<|nq (aM rfl rfl (bG (by omega) (by omega)))<|nq (bX rfl Tryz.underlying3 Tryz.underlying5 (AD (Ax _ _ (by omega) (by omega))))<| ?_
     refine nx (na Tryz.underlying27 fa rfl rfl rfl (by simp[Value.cells,B8]) (by decide) (by decide) fun g w3 hg hf3 hb3=> ?_)
     refine nx (kL rfl rfl Tryz.underlying27 Tryz.underlying27 (by exact .inl rfl) fa rfl (ho.mU hf3) (Src.gi hb3 rfl) (aZ (l:=[_])) (by unfold maxLen;omega) (by omega) (Nat.le_trans hf.size hf3.size) fun v4 w4 ho4 hf4 hv4=> ?_)
     refine nq (ab rfl)<|ba<|bB (ae (t:=4) rfl<|ae (t:=33) rfl<|ae (t:=7) rfl<|ae (t:=6) rfl<|ae (t:=16) rfl<|ae (t:=0) rfl<|ae (t:=5) rfl<|aC)<|ff<|aF<|bc<|nq (aa rfl)<|nq (aM rfl rfl (bG (by omega) (by omega)))<|nq (ab rfl)<|ba<|bB (ae (t:=5) rfl<|ae (t:=4) rfl<|ae (t:=33) rfl<|ae (t:=7) rfl<|ae (t:=6) rfl<|ae (t:=16) rfl<|ae (t:=0) rfl<|aC)<| ?_
     rw[if_neg (by omega)]at hsn
     refine yE (k+1) v4 _ (ae (t:=0) rfl<|ae (t:=4) rfl<|ae (t:=5) ?_<|aC) ⟨by omega,hsn, ?_,(hf.cy hf3).new hf4 (fun i hi=>(ho.from hi).1)⟩ (by omega)
     ·show some (Value.int .i64 (2*(k:Int)+2))=some (Value.int .i64 (2*((k+1:Nat):Int)))
      rw[show(2*(k:Int)+2)=2*((k+1:Nat):Int) by omega]
     ·rw[bH];exact ho4
  ·refine jk<|bS<|bS<|cT<|aF<|aW<|bc<|nq (aa rfl)<|nq (ab rfl)<|nq (ab rfl)<|ba<|bB (ae (t:=3) rfl<|ae (t:=2) rfl<|ae (t:=16) rfl<|ae (t:=0) rfl<|ae (t:=4) rfl<|ae (t:=5) rfl<|aC)<|aF<|dO<| ?_
   refine sg trivial rfl rfl rfl ⟨⟨_,rfl, ?_⟩,hf⟩
   rw[List.take_of_length_le (by omega)]at hx
   have hxl:=fN s x hx
   rw[gR,hx]
   have:x.length=k:=by omega
   exact⟨v,rfl,this▸ho⟩
theorem vo(s:ByteArray)(c:UInt8)(w:World):
  Calls Tryz.prog 267 #[.string s,.int .u8 c.toNat] w fun e w' =>e= .returned (.int .i64 (Lib.indexByte s.data.toList c))∧w=w' :=by
 refine enter (N:=8) Tryz.func267 rfl rfl (by simp) ?_
 refine aW<|bc<|nq (ab rfl)<|ba<|aF<|aW<|bc<|nq (aa rfl)<|nq (aa rfl)<| ?_
 refine nq (wM rfl Tryz.func295 (by kernel_rfl) (by kernel_rfl) (by kernel_rfl) (show _=some Extern.BytealgIndexByte.indexByte by kernel_rfl) (Lib.run_indexByteString _ _ _)) ?_
 refine nq (ab rfl)<|ba<|bB (ae (t:=4) rfl<|ae (t:=0) rfl<|ae (t:=1) rfl<|aC)<|aF<|dO<| ?_
 refine eW trivial rfl rfl ⟨?_,rfl⟩
 rw[show((c.toNat:Int)).toNat.toUInt8=c by simp]
theorem indexByte(s:ByteArray)(c:UInt8)(w:World):
  Calls Tryz.prog 224 #[.string s,.int .u8 c.toNat] w fun e w' =>e= .returned (.int .i64 (Lib.indexByte s.data.toList c))∧w=w' :=by
 refine enter (N:=8) Tryz.func224 rfl rfl (by simp) ?_
 refine aW<|bc<|nq (ab rfl)<|ba<|aF<|aW<|bc<|nq (aa rfl)<|nq (aa rfl)<| ?_
 refine nx (eh rfl Tryz.call267 (vo s c w) ?_)
 rintro e_ w' ⟨rfl,rfl⟩
 refine⟨_,rfl, ?_⟩
 refine nq (ab rfl)<|ba<|bB (ae (t:=4) rfl<|ae (t:=0) rfl<|ae (t:=1) rfl<|aC)<|aF<|dO<| ?_
 exact eW trivial rfl rfl ⟨rfl,rfl⟩
theorem tz(c:UInt8)(w:World):
  Calls Tryz.prog 224 #[.string ⟨#[48,49,50,51,52,53,54,55,56,57,97,98,99,100,101,102]⟩,.int .u8 c.toNat] w fun e w' =>e= .returned (.int .i64 (im c))∧w=w' :=by
 rw[←p7]
 exact indexByte _ c w
theorem parse(s:List UInt8)(w:World)(hs:s.length≤140737488351232):
  Calls Tryz.prog 166 #[.string (strOf s)] w fun e w' =>(∃v,e= .returned v∧gR w s v w')∧Fr No w w' :=by
 have hsz:(strOf s).size=s.length:=cY s
 refine enter (N:=45) Tryz.func166 rfl rfl (by simp) ?_
 refine aW<|bc<|nq (ab rfl)<|nq (ab rfl)<|ba<|aF<|aW<|aW<|bc<|nq (aa rfl)<|nq (cV rfl Tryz.underlying9)<|nq (gN rfl rfl (by omega) (by omega))<|nq (db rfl rfl)<|ba<|bB (ae (t:=11) rfl<|ae (t:=3) rfl<|ae (t:=2) rfl<|ae (t:=0) rfl<|aC)<|aF<| ?_
 refine nF rfl (fun h=> ?_) (fun h=> ?_)
 ·refine aW<|bc<|nq (ab rfl)<|nq (ab rfl)<|ba<|aF<|dO<|bF<| ?_
  refine sg trivial rfl rfl rfl ⟨⟨_,rfl, ?_⟩,Fr.refl _ _⟩
  rw[gR,nX s (by simp at h;omega)]
 ·simp at h
  refine dN<|aF<|aW<|bc<|nq (ab rfl)<|ba<|aF<|aW<|aW<|bc<|nq (aa rfl)<|nq (cV rfl Tryz.underlying9)<|nq (ky rfl rfl (by omega) (by omega) (bG (by omega) (by omega)))<|nq (aa rfl)<|ba<|bB (ae (t:=15) rfl<|ae (t:=14) rfl<|ae (t:=4) rfl<|ae (t:=11) rfl<|ae (t:=3) rfl<|ae (t:=2) rfl<|ae (t:=0) rfl<|aC)<|aF<|cW<| ?_
  refine AB (fun k _ _=>s.length-2*k) (fun k v _=>[(0,.string (strOf s)),(4,v),(14,.int .i64 ((s.length/2:Nat):Int)),(15,.int .i64 (k:Nat))]) (fun k v x w' =>2*k≤s.length∧unhex (s.take (2*k))=some x∧Go.Eng.Own w' w.heap.size 5 1 v k (aV x)∧Fr No w w') 0 (.slice none 0 0) [] (⟨Nat.zero_le _,rfl,Own.nil w w.heap.size _ 1,Fr.refl _ _⟩) (ae (t:=0) rfl<|ae (t:=4) rfl<|ae (t:=14) rfl<|ae (t:=15) rfl<|aC) (fun k v x w1 ⟨hk,hx,ho,hf⟩=> ?_)
  ·refine aW<|bc<|nq (bq rfl rfl)<|ba<|aF<|aW<| ?_
   refine nF rfl (fun h2=> ?_) (fun h2=> ?_)
   ·have hk2:2*k+1<s.length:=by omega
    have hd1:=iw (s.getD (2*k) 0)
    have hd2:=iw (s.getD (2*k+1) 0)
    have hlen:(s.take (2*k)).length=2*k:=by simp;omega
    have hsn:=me (s.take (2*k)) k (s.getD (2*k) 0) (s.getD (2*k+1) 0) x hlen hx
    rw[←tV hk2]at hsn
    have hno:(im (s.getD (2*k) 0)<0∨im (s.getD (2*k+1) 0)<0)→unhex s=none:=fun hn=>by
     rw[if_pos hn]at hsn
     have:=fR _ (s.drop (2*(k+1))) (k+1) (by simp;omega) hsn
     rwa [List.take_append_drop]at this
    refine dN<|aF<|aW<|cW<|aW<|bc<|nq (aa rfl)<|nq (ab rfl)<|ba<|bB (ae (t:=5) rfl<|ae (t:=16) rfl<|ae (t:=0) rfl<|ae (t:=4) rfl<|ae (t:=14) rfl<|ae (t:=15) rfl<|aC)<|aF<|aW<| ?_
    refine xV [(0,false),(1,false),(2,false),(3,false),(5,false),(6,false),(7,false),(8,false),(9,false),(4,true),(10,true),(11,false),(12,false)] (by kernel_rfl) (by kernel_rfl) rfl (fun w' =>Fr No w w') (hf.cy (Fr.drew _)) (fun w2 hf2 hS2=> ?_)
    refine sq (fun w_ hS_=>aa rfl)<|sq (fun w_ hS_=>aa rfl)<|sq (fun w_ hS_=>fB rfl rfl (bG (by omega) (by omega)))<|sq (fun w_ hS_=>eT rfl rfl Tryz.underlying9 (show((2*k:Nat):Int)=_ by omega) (iM (by omega)))<|sq (fun w_ hS_=>aa rfl)<|sq (fun w_ hS_=>aa rfl)<|sq (fun w_ hS_=>fB rfl rfl (bG (by omega) (by omega)))<|sq (fun w_ hS_=>aM rfl rfl (bG (by omega) (by omega)))<|sq (fun w_ hS_=>eT rfl rfl Tryz.underlying9 (show((2*k+1:Nat):Int)=_ by omega) (iM (by omega)))<| ?_
    refine sx (eh rfl Tryz.call224 (tz _ _) ?_)
    rintro e_ w3 ⟨rfl,rfl⟩
    refine⟨_,rfl, ?_⟩
    refine⟨hS2, ?_⟩
    refine sx (eh rfl Tryz.call224 (tz _ _) ?_)
    rintro e_ w3 ⟨rfl,rfl⟩
    refine⟨_,rfl, ?_⟩
    refine⟨hS2, ?_⟩
    have hf:=hS2
    have ho:=ho.mU hf2
    refine sq (fun w_ hS_=>ab rfl)<|sq (fun w_ hS_=>ab rfl)<|send<|bB (ae (t:=7) rfl<|ae (t:=6) rfl<|ae (t:=5) rfl<|ae (t:=16) rfl<|ae (t:=0) rfl<|ae (t:=4) rfl<|ae (t:=14) rfl<|ae (t:=15) rfl<|aC)<|aF<|aW<|aW<|bc<|nq (aa rfl)<|nq (bq rfl rfl)<|nq (aa rfl)<| ?_
    refine l6 31 rfl (fun h3=> ?_) (fun h3=> ?_)
    ·refine jf rfl rfl rfl (by decide)<|jf rfl rfl rfl (by decide)<|nq (bM rfl rfl)<|ba<|bB (ae (t:=34) rfl<|ae (t:=7) rfl<|ae (t:=6) rfl<|ae (t:=5) rfl<|ae (t:=16) rfl<|ae (t:=0) rfl<|ae (t:=4) rfl<|ae (t:=14) rfl<|ae (t:=15) rfl<|aC)<|aF<| ?_
     refine xO rfl (rfl) ?_
     refine aW<|bc<|nq (ab rfl)<|nq (ab rfl)<|ba<|aF<|dO<|bF<|cz<|bF<|bF<|cz<|bF<| ?_
     refine sg trivial rfl rfl rfl ⟨⟨_,rfl, ?_⟩,hf⟩
     rw[gR,hno (.inl h3)]
    ·refine ng rfl rfl rfl (aa rfl)<|ng rfl rfl rfl (bq rfl rfl)<|nq (bC rfl rfl)<|ba<|bB (ae (t:=34) rfl<|ae (t:=7) rfl<|ae (t:=6) rfl<|ae (t:=5) rfl<|ae (t:=16) rfl<|ae (t:=0) rfl<|ae (t:=4) rfl<|ae (t:=14) rfl<|ae (t:=15) rfl<|aC)<|aF<| ?_
     refine nF rfl (fun h4=> ?_) (fun h4=> ?_)
     ·refine aW<|bc<|nq (ab rfl)<|nq (ab rfl)<|ba<|aF<|dO<|bF<|cz<|bF<|bF<|cz<|bF<| ?_
      refine sg trivial rfl rfl rfl ⟨⟨_,rfl, ?_⟩,hf⟩
      rw[gR,hno (.inr h4)]
     ·refine dN<|aF<|bc<|nq (aa rfl)<|nq (aa rfl)<|nq (uz (p:=16) rfl rfl (by decide) (by decide) (by decide) (bG (by omega) (by omega)))<|nq (aa rfl)<|nq (gV (by simp) rfl rfl (D4 _ _ (by omega) (by omega) (by omega) (by omega)))<|nq (bX rfl Tryz.underlying3 Tryz.underlying5 (AD (Ax _ _ (by omega) (by omega))))<| ?_
      refine nx (na Tryz.underlying27 fa rfl rfl rfl (by simp[Value.cells,B8]) (by decide) (by decide) fun g w3 hg hf3 hb3=> ?_)
      refine nx (kL rfl rfl Tryz.underlying27 Tryz.underlying27 (by exact .inl rfl) fa rfl (ho.mU hf3) (Src.gi hb3 rfl) (aZ (l:=[_])) (by unfold maxLen;omega) (by omega) (Nat.le_trans hf.size hf3.size) fun v4 w4 ho4 hf4 hv4=> ?_)
      refine nq (ab rfl)<|ba<|bB (ae (t:=4) rfl<|ae (t:=34) rfl<|ae (t:=7) rfl<|ae (t:=6) rfl<|ae (t:=5) rfl<|ae (t:=16) rfl<|ae (t:=0) rfl<|ae (t:=14) rfl<|ae (t:=15) rfl<|aC)<|ff<|aF<|bc<|nq (aM rfl rfl (bG (by omega) (by omega)))<|nq (aa rfl)<|ba<|bB (ae (t:=15) rfl<|ae (t:=4) rfl<|ae (t:=34) rfl<|ae (t:=7) rfl<|ae (t:=6) rfl<|ae (t:=5) rfl<|ae (t:=16) rfl<|ae (t:=0) rfl<|ae (t:=14) rfl<|aC)<| ?_
      rw[if_neg (by omega)]at hsn
      refine yE (k+1) v4 _ (ae (t:=0) rfl<|ae (t:=4) rfl<|ae (t:=14) rfl<|ae (t:=15) rfl<|aC) (⟨by omega,hsn,by rw[bH];exact ho4,(hf.cy hf3).new hf4 (fun i hi=>(ho.from hi).1)⟩) (by omega)
   ·refine jk<|bS<|bS<|cT<|aF<|aW<|bc<|nq (aa rfl)<|nq (ab rfl)<|nq (ab rfl)<|ba<|bB (ae (t:=3) rfl<|ae (t:=2) rfl<|ae (t:=16) rfl<|ae (t:=0) rfl<|ae (t:=4) rfl<|ae (t:=14) rfl<|ae (t:=15) rfl<|aC)<|aF<|dO<| ?_
    refine sg trivial rfl rfl rfl ⟨⟨_,rfl, ?_⟩,hf⟩
    rw[List.take_of_length_le (by omega)]at hx
    have hxl:=fN s x hx
    rw[gR,hx]
    have:x.length=k:=by omega
    exact⟨v,rfl,this▸ho⟩
theorem name(a:List UInt8)(w:World)(ha:a.length=32):
  Calls Tryz.prog 104 #[.agg (aV a).toArray] w fun e w' =>e= .returned (.string (strOf (cf a)))∧Fr No w w' :=by
 refine enter (N:=5) Tryz.func104 rfl rfl (by simp) ?_
 refine aW<|bc<| ?_
 refine nx (pW rfl fun g1 w1 hg1 hf1 hb1=> ?_)
 rw[bp]at hb1
 refine nq (ab rfl)<|ba<|aF<|aW<|bc<|nq (sb rfl Tryz.underlying53 ea)<| ?_
 refine nx (eh rfl Tryz.call177 (text _ _ _ a _ (Rd.gi hb1 (by rw[az];omega)) (by omega)) ?_)
 rintro e_ w2 ⟨rfl,hf2⟩
 refine⟨_,rfl, ?_⟩
 refine nq (ab rfl)<|ba<|bB (ae (t:=2) rfl<|ae (t:=1) rfl<|ae (t:=0) rfl<|aC)<|aF<|dO<| ?_
 exact eW trivial rfl rfl ⟨rfl,hf1.cy hf2⟩
theorem AO(v:Value)(w:World):(Extern.ReflectliteType.typeOf #[.iface 47 v]).run Tryz.prog w= .ok (.iface 312 (.agg #[.pointer (some ⟨2,47,none⟩)])) w:=by kernel_rfl
theorem s3 (w : World) : ((Extern.ReflectliteType.method fun t => do Rtype.noPackHeld "Comparable" t; pure (.bool (← typeInfo t).comparable)) #[.agg #[.pointer (some ⟨2, 47, none⟩)]]).run Tryz.prog w = .ok (.bool true) w := by kernel_rfl
theorem l8 (v : Value) (w : World) : (Go.method (Tryz.prog.types.size + Made.depth) 312 v "Comparable").run Tryz.prog w = .ok (341, v) w := by kernel_rfl
theorem Ho(v:Value)(xT:TypeId)(w:World):(Instr.typeAssert (.iface 47 v) xT 314 true).run Tryz.prog w= .ok (.tuple #[.nilIface,.bool false]) w:=run_typeAssert_lacksB Tryz.underlying314 (by kernel_rfl) (by kernel_rfl) v xT w
theorem AK(v:Value)(xT:TypeId)(w:World):(Instr.typeAssert (.iface 47 v) xT 317 true).run Tryz.prog w= .ok (.tuple #[.nilIface,.bool false]) w:=run_typeAssert_lacksB Tryz.underlying317 (by kernel_rfl) (by kernel_rfl) v xT w
theorem xZ(v:Value)(xT:TypeId)(w:World):(Instr.typeAssert (.iface 47 v) xT 319 true).run Tryz.prog w= .ok (.tuple #[.nilIface,.bool false]) w:=run_typeAssert_lacksB Tryz.underlying319 (by kernel_rfl) (by kernel_rfl) v xT w
theorem Gx(k m:Int)(w:World):
  Calls Tryz.prog 176 #[.iface 47 (.int .i64 k),.iface 47 (.int .i64 m),.bool true] w fun e w' =>e= .returned (.bool (decide (k=m)))∧w=w' :=by
 refine enter (N:=54) Tryz.func176 rfl rfl (by simp) ?_
 refine aW<|bc<|nq (ab rfl)<|ba<|aF<|cW<| ?_
 refine kS (fun _=>0) (fun _=>[(0,.iface 47 (.int .i64 k)),(1,.iface 47 (.int .i64 m)),(2,.bool true)]) (fun _ w' =>w=w') 0 (rfl) (ae (t:=0) rfl<|ae (t:=1) rfl<|ae (t:=2) rfl<|aC) (fun i w1 hw=> ?_)
 obtain rfl:=hw
 refine cW<|aW<|aW<|bc<|nq (aa rfl)<|nq (aa rfl)<|ng rfl rfl rfl (aa rfl)<|ng rfl rfl rfl (aa rfl)<|ng rfl rfl rfl (((E0 rfl rfl Tryz.underlying247 (by kernel_rfl) Tryz.underlying47)))<|nq (bM rfl rfl)<|ba<|bB (ae (t:=19) rfl<|ae (t:=0) rfl<|ae (t:=1) rfl<|ae (t:=2) rfl<|aC)<|aF<| ?_
 refine nF rfl (fun h=> ?_) (fun h=> ?_)
 ·refine aW<|bc<|nq (ab rfl)<|ba<|aF<|dO<|bF<|cz<|bF<|cz<| ?_
  refine eW trivial rfl rfl ⟨?_,rfl⟩
  rw[decide_eq_true h]
 ·refine dN<|aF<|aW<|aW<|bc<|nq (aa rfl)<|nq (rT rfl ((Ho _ _ _)))<|nq (aa rfl)<|nq (ar rfl rfl)<|nq (ar rfl rfl)<|nq (ab rfl)<|nq (ab rfl)<|ba<|bB (ae (t:=8) rfl<|ae (t:=7) rfl<|ae (t:=19) rfl<|ae (t:=0) rfl<|ae (t:=1) rfl<|ae (t:=2) rfl<|aC)<|aF<|aW<|bc<|nq (aa rfl)<|nq (aa rfl)<|jf rfl rfl rfl (by decide)<|jf rfl rfl rfl (by decide)<|jf rfl rfl rfl (by decide)<|nq (bC rfl rfl)<|ba<|bB (ae (t:=30) rfl<|ae (t:=8) rfl<|ae (t:=7) rfl<|ae (t:=19) rfl<|ae (t:=0) rfl<|ae (t:=1) rfl<|ae (t:=2) rfl<|aC)<|aF<| ?_
  refine qb rfl (rfl) ?_
  refine dN<|aF<|aW<|bc<|nq (aa rfl)<|ba<|aF<|cW<|aW<|bc<|nq (rT rfl ((AK _ _ _)))<|nq (ar rfl rfl)<|nq (ar rfl rfl)<|ba<|bB (ae (t:=34) rfl<|ae (t:=33) rfl<|ae (t:=31) rfl<|ae (t:=30) rfl<|ae (t:=8) rfl<|ae (t:=7) rfl<|ae (t:=19) rfl<|ae (t:=0) rfl<|ae (t:=1) rfl<|ae (t:=2) rfl<|aC)<|aF<| ?_
  refine qb rfl (rfl) ?_
  refine aW<|bc<|nq (rT rfl ((xZ _ _ _)))<|nq (ar rfl rfl)<|nq (ar rfl rfl)<|ba<|bB (ae (t:=41) rfl<|ae (t:=40) rfl<|ae (t:=34) rfl<|ae (t:=33) rfl<|ae (t:=31) rfl<|ae (t:=30) rfl<|ae (t:=8) rfl<|ae (t:=7) rfl<|ae (t:=19) rfl<|ae (t:=0) rfl<|ae (t:=1) rfl<|ae (t:=2) rfl<|aC)<|aF<| ?_
  refine qb rfl (rfl) ?_
  refine aW<|bc<|nq (ab rfl)<|ba<|bB (ae (t:=41) rfl<|ae (t:=40) rfl<|ae (t:=34) rfl<|ae (t:=33) rfl<|ae (t:=31) rfl<|ae (t:=30) rfl<|ae (t:=8) rfl<|ae (t:=7) rfl<|ae (t:=19) rfl<|ae (t:=0) rfl<|ae (t:=1) rfl<|ae (t:=2) rfl<|aC)<|aF<|aW<|bc<|nq (ab rfl)<|ba<|aF<|dO<|cz<|cz<|bF<|cz<| ?_
  refine eW trivial rfl rfl ⟨?_,rfl⟩
  rw[decide_eq_false h]
theorem qt(k m:Int)(w:World):
    Calls Tryz.prog 103 #[.iface 47 (.int .i64 k),.iface 47 (.int .i64 m)] w fun e w' =>e= .returned (.bool (decide (k=m)))∧w=w' :=by
  refine enter (N:=22) Tryz.func103 rfl rfl (by simp) ?_
  refine aW<|bc<|nq (ab rfl)<|ba<|aF<|aW<|aW<|bc<|nq (aa rfl)<|nq (((yM rfl rfl (by kernel_rfl))))<|nq (aa rfl)<|ng rfl rfl rfl (aa rfl)<|ng rfl rfl rfl (((yM rfl rfl (by kernel_rfl))))<|nq (bC rfl rfl)<|ba<|bB (ae (t:=11) rfl<|ae (t:=4) rfl<|ae (t:=0) rfl<|ae (t:=1) rfl<|aC)<|aF<| ?_
  refine qb rfl (rfl) ?_
  refine dN<|aF<|aW<|bc<|nq (aa rfl)<| ?_
  refine nq (wM rfl Tryz.func175 (by kernel_rfl) (by kernel_rfl) (by kernel_rfl) (show _=some Extern.ReflectliteType.typeOf by kernel_rfl) (AO _ _)) ?_
  refine nq (EP rfl rfl (l8 _ _) Tryz.func341 (by kernel_rfl) (by kernel_rfl) (by kernel_rfl) (g := Extern.ReflectliteType.method fun t => do Rtype.noPackHeld "Comparable" t; pure (.bool (← typeInfo t).comparable)) (by kernel_rfl) (s3 _)) ?_
  refine nq (ab rfl)<|ba<|bB (ae (t:=5) rfl<|ae (t:=11) rfl<|ae (t:=4) rfl<|ae (t:=0) rfl<|ae (t:=1) rfl<|aC)<|aF<|aW<|bc<|nq (aa rfl)<|nq (aa rfl)<|nq (aa rfl)<| ?_
  refine nx (eh rfl Tryz.call176 (Gx k m w) ?_)
  rintro e_ w1 ⟨rfl,rfl⟩
  refine⟨_,rfl, ?_⟩
  refine nq (ab rfl)<|ba<|bB (ae (t:=4) rfl<|ae (t:=5) rfl<|ae (t:=11) rfl<|ae (t:=0) rfl<|ae (t:=1) rfl<|aC)<|aF<|dO<| ?_
  exact eW trivial rfl rfl ⟨rfl,rfl⟩
def b8(s:List UInt8):List UInt8×Int:=match unhex s with
 |none=>(List.replicate 32 0,2)
 |some x=>if x.length=32 then(x,0)else(List.replicate 32 0,3)
theorem gT(s:List UInt8):(b8 s).1.length=32:=by
 unfold b8
 split
 ·simp
 ·split
  ·assumption
  ·simp
theorem BJ(s:List UInt8)(w:World)(hs:s.length≤140737488351232):
  Calls Tryz.prog 95 #[.string (strOf s)] w fun e w' =>e= .returned (.tuple #[.agg (aV (b8 s).1).toArray,.int .i64 (b8 s).2])∧Fr No w w' :=by
 refine enter (N:=21) Tryz.func95 rfl rfl (by simp) ?_
 refine aW<|bc<| ?_
 refine nx (mN cS fun g1 w1 hg1 hf1 hb1=> ?_)
 rw[pz]at hb1
 refine nq (ab rfl)<|ba<|aF<|aW<|bc<|nq (aa rfl)<| ?_
 refine nx (eh rfl Tryz.call169 (En s w1 hs) ?_)
 rintro e_ w2 ⟨⟨v,rfl,hv⟩,hf2⟩
 refine⟨_,rfl, ?_⟩
 have h12:=hb1.mU hf2
 have z32:(aV (List.replicate 32 (0:UInt8))).length=32:=by rw[az];simp
 unfold gR at hv
 split at hv
 ·rename_i x hx
  obtain⟨u,rfl,hu⟩:=hv
  obtain⟨Au,cu,rfl,hcu⟩:=hu.slice
  have ru:=(Own.rd hu).2.2
  have hxl:=fN s x hx
  refine nq (aa rfl)<|nq (ar rfl rfl)<|nq (ar rfl rfl)<|nq (ab rfl)<|nq (ab rfl)<|ba<|bB (ae (t:=5) rfl<|ae (t:=4) rfl<|ae (t:=3) rfl<|ae (t:=2) rfl<|ae (t:=0) rfl<|aC)<|aF<|aW<|aW<|bc<|nq (aa rfl)<|nq (db rfl rfl)<|ba<|bB (ae (t:=12) rfl<|ae (t:=5) rfl<|ae (t:=4) rfl<|ae (t:=3) rfl<|ae (t:=2) rfl<|ae (t:=0) rfl<|aC)<|aF<| ?_
  refine qb rfl ((decide_eq_false (fun h=>h rfl):decide (¬(0:Int)=0)=false)) ?_
  refine dN<|aF<|aW<|aW<|bc<|nq (aa rfl)<|nq (aS rfl Tryz.underlying27)<|nq (db rfl rfl)<|ba<|bB (ae (t:=17) rfl<|ae (t:=12) rfl<|ae (t:=5) rfl<|ae (t:=4) rfl<|ae (t:=3) rfl<|ae (t:=2) rfl<|ae (t:=0) rfl<|aC)<|aF<| ?_
  refine nF rfl (fun h=> ?_) (fun h=> ?_)
  ·refine aW<|bc<|nq (ep cS rfl (by kernel_rfl))<| ?_
   refine Bo (pH rfl rfl bf (List.length_replicate ..) h12 z32 fun w3 hf3 h13 hs3=> ?_)
   refine nq (ab rfl)<|ba<|bB (ae (t:=3) rfl<|ae (t:=17) rfl<|ae (t:=12) rfl<|ae (t:=5) rfl<|ae (t:=4) rfl<|ae (t:=2) rfl<|ae (t:=0) rfl<|aC)<|aF<|dO<|bF<| ?_
   refine qo trivial rfl rfl rfl b9 bf z32 h13.ax ⟨?_,(hf1.cy hf2).new hf3 (fun i hi=>by omega)⟩
   rw[b8,hx]
   simp only
   rw[if_neg (fun e=>h (by rw[e];rfl))]
  ·have h32:x.length=32:=by omega
   rw[h32]at ru ⊢
   refine dN<|aF<|aW<|bc<|nq (aa rfl)<| ?_
   refine nx (eh rfl Tryz.call170 (of Au cu x _ ru) ?_)
   rintro e_ w3 ⟨rfl,hf3⟩
   refine⟨_,rfl, ?_⟩
   refine Bo (pH rfl rfl bf h32 (h12.mU hf3) z32 fun w4 hf4 h14 hs4=> ?_)
   refine nq (ab rfl)<|ba<|bB (ae (t:=3) rfl<|ae (t:=17) rfl<|ae (t:=12) rfl<|ae (t:=5) rfl<|ae (t:=4) rfl<|ae (t:=2) rfl<|ae (t:=0) rfl<|aC)<|aF<|dO<| ?_
   refine qo trivial rfl rfl rfl b9 bf (by rw[az];exact h32) h14.ax ⟨?_,((hf1.cy hf2).cy hf3).new hf4 (fun i hi=>by omega)⟩
   rw[b8,hx]
   simp only
   rw[if_pos h32]
 ·rename_i hx
  subst hv
  refine nq (aa rfl)<|nq (ar rfl rfl)<|nq (ar rfl rfl)<|nq (ab rfl)<|nq (ab rfl)<|ba<|bB (ae (t:=5) rfl<|ae (t:=4) rfl<|ae (t:=3) rfl<|ae (t:=2) rfl<|ae (t:=0) rfl<|aC)<|aF<|aW<|aW<|bc<|nq (aa rfl)<|nq (db rfl rfl)<|ba<|bB (ae (t:=12) rfl<|ae (t:=5) rfl<|ae (t:=4) rfl<|ae (t:=3) rfl<|ae (t:=2) rfl<|ae (t:=0) rfl<|aC)<|aF<| ?_
  refine xO rfl ((decide_eq_true (by decide):decide (¬(2:Int)=0)=true)) ?_
  refine aW<|bc<|nq (ep cS rfl (by kernel_rfl))<|nq (aa rfl)<| ?_
  refine Bo (pH rfl rfl bf (List.length_replicate ..) h12 z32 fun w3 hf3 h13 hs3=> ?_)
  refine nq (ab rfl)<|ba<|bB (ae (t:=3) rfl<|ae (t:=12) rfl<|ae (t:=5) rfl<|ae (t:=4) rfl<|ae (t:=2) rfl<|ae (t:=0) rfl<|aC)<|aF<|dO<|bF<| ?_
  refine qo trivial rfl rfl rfl b9 bf z32 h13.ax ⟨?_,(hf1.cy hf2).new hf3 (fun i hi=>by omega)⟩
  rw[b8,hx]
  rfl
theorem B3(s:List UInt8)(w:World)(hs:s.length≤140737488351232):
  Calls Tryz.prog 92 #[.string (strOf s)] w fun e w' =>e= .returned (.tuple #[.agg (aV (b8 s).1).toArray,.int .i64 (b8 s).2])∧Fr No w w' :=by
 refine enter (N:=26) Tryz.func92 rfl rfl (by simp) ?_
 refine aW<|bc<| ?_
 refine nx (mN cS fun g1 w1 hg1 hf1 hb1=> ?_)
 rw[pz]at hb1
 refine nq (ab rfl)<|ba<|aF<|aW<|bc<|nq (aa rfl)<| ?_
 refine nx (eh rfl Tryz.call166 (parse s w1 hs) ?_)
 rintro e_ w2 ⟨⟨v,rfl,hv⟩,hf2⟩
 refine⟨_,rfl, ?_⟩
 have h12:=hb1.mU hf2
 have z32:(aV (List.replicate 32 (0:UInt8))).length=32:=by rw[az];simp
 unfold gR at hv
 split at hv
 ·rename_i x hx
  obtain⟨u,rfl,hu⟩:=hv
  obtain⟨Au,cu,rfl,hcu⟩:=hu.slice
  have ru:=(Own.rd hu).2.2
  have hxl:=fN s x hx
  refine nq (aa rfl)<|nq (ar rfl rfl)<|nq (ar rfl rfl)<|nq (ab rfl)<|nq (ab rfl)<|ba<|bB (ae (t:=5) rfl<|ae (t:=4) rfl<|ae (t:=3) rfl<|ae (t:=2) rfl<|ae (t:=0) rfl<|aC)<|aF<|aW<|cW<|aW<|bc<|nq (aa rfl)<|nq (kU rfl Tryz.underlying47 (fun _ h=>by cases h))<|nq (kU rfl Tryz.underlying47 (fun _ h=>by cases h))<| ?_
  refine nx (eh rfl Tryz.call103 (qt 0 2 _) ?_)
  rintro e_ w3 ⟨rfl,rfl⟩
  refine⟨_,rfl, ?_⟩
  refine nq (ab rfl)<|ba<|bB (ae (t:=11) rfl<|ae (t:=5) rfl<|ae (t:=4) rfl<|ae (t:=3) rfl<|ae (t:=2) rfl<|ae (t:=0) rfl<|aC)<|aF<| ?_
  refine qb rfl ((decide_eq_false (by decide):decide ((0:Int)=2)=false)) ?_
  refine aW<|bc<|nq (aa rfl)<|nq (aS rfl Tryz.underlying27)<|nq (db rfl rfl)<|nq (ab rfl)<|ba<|bB (ae (t:=18) rfl<|ae (t:=11) rfl<|ae (t:=5) rfl<|ae (t:=4) rfl<|ae (t:=3) rfl<|ae (t:=2) rfl<|ae (t:=0) rfl<|aC)<|aF<| ?_
  refine nF rfl (fun h=> ?_) (fun h=> ?_)
  ·refine aW<|bc<|nq (ep cS rfl (by kernel_rfl))<| ?_
   refine Bo (pH rfl rfl bf (List.length_replicate ..) h12 z32 fun w3 hf3 h13 hs3=> ?_)
   refine nq (ab rfl)<|ba<|bB (ae (t:=3) rfl<|ae (t:=18) rfl<|ae (t:=11) rfl<|ae (t:=5) rfl<|ae (t:=4) rfl<|ae (t:=2) rfl<|ae (t:=0) rfl<|aC)<|aF<|dO<|cz<|bF<| ?_
   refine qo trivial rfl rfl rfl b9 bf z32 h13.ax ⟨?_,(hf1.cy hf2).new hf3 (fun i hi=>by omega)⟩
   rw[b8,hx]
   simp only
   rw[if_neg (fun e=>h (by rw[e];rfl))]
  ·have h32:x.length=32:=by omega
   rw[h32]at ru ⊢
   obtain⟨ad,rfl⟩:∃ad,Au=some ad:=⟨_,ru.some (by omega)⟩
   refine dN<|ff<|aF<|aW<|bc<|nq (aa rfl)<|nq (o3 rfl Tryz.underlying53 (by omega))<|nq (aU rfl b9 bf ((by rw[az];exact h32)) ru.2.2)<| ?_
   refine Bo (pH rfl rfl bf h32 h12 z32 fun w4 hf4 h14 hs4=> ?_)
   refine nq (ab rfl)<|ba<|bB (ae (t:=3) rfl<|ae (t:=18) rfl<|ae (t:=11) rfl<|ae (t:=5) rfl<|ae (t:=4) rfl<|ae (t:=2) rfl<|ae (t:=0) rfl<|aC)<|aF<|dO<| ?_
   refine qo trivial rfl rfl rfl b9 bf (by rw[az];exact h32) h14.ax ⟨?_,(hf1.cy hf2).new hf4 (fun i hi=>by omega)⟩
   rw[b8,hx]
   simp only
   rw[if_pos h32]
 ·rename_i hx
  subst hv
  refine nq (aa rfl)<|nq (ar rfl rfl)<|nq (ar rfl rfl)<|nq (ab rfl)<|nq (ab rfl)<|ba<|bB (ae (t:=5) rfl<|ae (t:=4) rfl<|ae (t:=3) rfl<|ae (t:=2) rfl<|ae (t:=0) rfl<|aC)<|aF<|aW<|cW<|aW<|bc<|nq (aa rfl)<|nq (kU rfl Tryz.underlying47 (fun _ h=>by cases h))<|nq (kU rfl Tryz.underlying47 (fun _ h=>by cases h))<| ?_
  refine nx (eh rfl Tryz.call103 (qt 2 2 _) ?_)
  rintro e_ w3 ⟨rfl,rfl⟩
  refine⟨_,rfl, ?_⟩
  refine nq (ab rfl)<|ba<|bB (ae (t:=11) rfl<|ae (t:=5) rfl<|ae (t:=4) rfl<|ae (t:=3) rfl<|ae (t:=2) rfl<|ae (t:=0) rfl<|aC)<|aF<| ?_
  refine xO rfl ((decide_eq_true rfl:decide ((2:Int)=2)=true)) ?_
  refine aW<|bc<|nq (ep cS rfl (by kernel_rfl))<|nq (aa rfl)<| ?_
  refine Bo (pH rfl rfl bf (List.length_replicate ..) h12 z32 fun w3 hf3 h13 hs3=> ?_)
  refine nq (ab rfl)<|ba<|bB (ae (t:=3) rfl<|ae (t:=11) rfl<|ae (t:=5) rfl<|ae (t:=4) rfl<|ae (t:=2) rfl<|ae (t:=0) rfl<|aC)<|aF<|dO<|cz<|bF<| ?_
  refine qo trivial rfl rfl rfl b9 bf z32 h13.ax ⟨?_,(hf1.cy hf2).new hf3 (fun i hi=>by omega)⟩
  rw[b8,hx]
  rfl
def fill(l:List UInt8)(n:Nat):List UInt8:=(List.range n).map fun i=>l.getD (i % l.length) 0
theorem rN(l:List UInt8)(n:Nat):fill l (n+1)=fill l n++[l.getD (n % l.length) 0]:=by simp[fill,List.range_succ]
theorem EG(A:Option Addr)(n c:Nat)(l:List UInt8)(m:Nat)(w:World)(hr:Rd w 1 A n (aV l))(hn:n≤140737488351232)(hm:m≤1000000):
  Calls Tryz.prog 101 #[.slice A n c,.int .i64 (m:Int)] w fun e w' =>∃v,e= .returned v∧Go.Eng.Own w' w.heap.size 5 1 v m (aV (fill l m))∧Fr No w w' :=by
 have hl:l.length=n:=by have:=hr.1;rw[az]at this;omega
 refine enter (N:=29) Tryz.func101 rfl rfl (by simp) ?_
 refine aW<|bc<|nq (ab rfl)<|ba<|aF<|aW<|bc<|nq (ab rfl)<|ba<|aF<|aW<|aW<|bc<|nq (ab rfl)<|ba<|aF<|cW<| ?_
 refine sd (fun k _=>m-k) (fun k v=>[(0,.slice A n c),(1,.int .i64 (m:Int)),(5,v),(6,.int .i64 (k:Nat))]) (fun k v w' =>k≤m∧Go.Eng.Own w' w.heap.size 5 1 v k (aV (fill l k))∧Fr No w w') 0 (.slice none 0 0) (⟨Nat.zero_le _,Own.nil w w.heap.size _ 1,Fr.refl _ _⟩) (ae (t:=0) rfl<|ae (t:=1) rfl<|ae (t:=5) rfl<|ae (t:=6) rfl<|aC) (fun k v w2 ⟨hk,ho,hf⟩=> ?_)
 refine aW<|aW<|bc<|nq (aa rfl)<|nq (aa rfl)<|nq (bq rfl rfl)<|ba<|bB (ae (t:=9) rfl<|ae (t:=0) rfl<|ae (t:=1) rfl<|ae (t:=5) rfl<|ae (t:=6) rfl<|aC)<|aF<| ?_
 refine nF rfl (fun h=> ?_) (fun h=> ?_)
 ·refine dN<|aF<|aW<|cW<|aW<|bc<|nq (aa rfl)<|nq (aS rfl Tryz.underlying27)<|nq (da rfl rfl)<|ba<|bB (ae (t:=14) rfl<|ae (t:=9) rfl<|ae (t:=0) rfl<|ae (t:=1) rfl<|ae (t:=5) rfl<|ae (t:=6) rfl<|aC)<|aF<| ?_
  refine nF rfl (fun h2=> ?_) (fun h2=> ?_)
  ·have hkn:k % n<n:=Nat.mod_lt _ (by omega)
   have ga:=bL (l:=l) (i:=k % n) (by omega)
   have r2:=hr.mU hf
   refine bc<|nq (aa rfl)<|nq (aa rfl)<|nq (aa rfl)<|nq (aa rfl)<|nq (aS rfl Tryz.underlying27)<|nq (gN rfl rfl (by omega) (by omega))<|nq (aT rfl rfl Tryz.underlying27 ea r2.2.1 (show((k % n:Nat):Int)=_ by omega) (by omega))<|nq (ay rfl iX (r2.cell ga))<| ?_
   refine nx (na Tryz.underlying27 fa rfl rfl rfl (by simp[Value.cells,B8]) (by decide) (by decide) fun g w3 hg hf3 hb3=> ?_)
   refine nx (kL rfl rfl Tryz.underlying27 Tryz.underlying27 (by exact .inl rfl) fa rfl (ho.mU hf3) (Src.gi hb3 rfl) (aZ (l:=[_])) (by unfold maxLen;omega) (by omega) (hf.cy hf3).size fun v4 w4 ho4 hf4 hv4=> ?_)
   refine nq (ab rfl)<|ba<|bB (ae (t:=5) rfl<|ae (t:=14) rfl<|ae (t:=9) rfl<|ae (t:=0) rfl<|ae (t:=1) rfl<|ae (t:=6) rfl<|aC)<|ff<|aF<|bc<|nq (aa rfl)<|nq (aM rfl rfl (bG (by omega) (by omega)))<|nq (ab rfl)<|ba<|bB (ae (t:=6) rfl<|ae (t:=5) rfl<|ae (t:=14) rfl<|ae (t:=9) rfl<|ae (t:=0) rfl<|ae (t:=1) rfl<|aC)<| ?_
   refine pN (k+1) v4 (ae (t:=0) rfl<|ae (t:=1) rfl<|ae (t:=5) rfl<|ae (t:=6) rfl<|aC) (⟨by omega,by rw[rN,bH,hl];exact ho4,(hf.cy hf3).new hf4 (fun i hi=>(ho.from hi).1)⟩) (by omega)
  ·have h0:l=[]:=List.eq_nil_of_length_eq_zero (by omega)
   refine bc<|nq (aa rfl)<| ?_
   refine nx (na Tryz.underlying27 fa rfl rfl rfl (by simp[Value.cells,B8]) (by decide) (by decide) fun g w3 hg hf3 hb3=> ?_)
   refine nx (kL rfl rfl Tryz.underlying27 Tryz.underlying27 (by exact .inl rfl) fa rfl (ho.mU hf3) (Src.gi hb3 rfl) (aZ (l:=[0])) (by unfold maxLen;omega) (by omega) (hf.cy hf3).size fun v4 w4 ho4 hf4 hv4=> ?_)
   refine nq (ab rfl)<|ba<|bB (ae (t:=5) rfl<|ae (t:=14) rfl<|ae (t:=9) rfl<|ae (t:=0) rfl<|ae (t:=1) rfl<|ae (t:=6) rfl<|aC)<|ff<|aF<|bc<|nq (aa rfl)<|nq (aM rfl rfl (bG (by omega) (by omega)))<|nq (ab rfl)<|ba<|bB (ae (t:=6) rfl<|ae (t:=5) rfl<|ae (t:=14) rfl<|ae (t:=9) rfl<|ae (t:=0) rfl<|ae (t:=1) rfl<|aC)<| ?_
   refine pN (k+1) v4 (ae (t:=0) rfl<|ae (t:=1) rfl<|ae (t:=5) rfl<|ae (t:=6) rfl<|aC) (⟨by omega,by rw[rN,bH,h0];rw[h0]at ho4;exact ho4,(hf.cy hf3).new hf4 (fun i hi=>(ho.from hi).1)⟩) (by omega)
 ·obtain rfl:k=m:=by omega
  refine jk<|bS<|bS<|cT<|aF<|aW<|bc<|nq (aa rfl)<|nq (ab rfl)<|ba<|bB (ae (t:=4) rfl<|ae (t:=9) rfl<|ae (t:=0) rfl<|ae (t:=1) rfl<|ae (t:=5) rfl<|ae (t:=6) rfl<|aC)<|aF<|dO<| ?_
  exact eW trivial rfl rfl ⟨v,rfl,ho,hf⟩
theorem Fu(a:List UInt8)(w:World)(ha:a.length=32):
  Calls Tryz.prog 111 #[.agg (aV a).toArray] w fun e w' =>e= .returned (.string (strOf (cf a)))∧Fr No w w' :=by
 refine enter (N:=6) Tryz.func111 rfl rfl (by simp) ?_
 refine aW<|bc<| ?_
 refine nx (pW rfl fun g1 w1 hg1 hf1 hb1=> ?_)
 rw[bp]at hb1
 refine nq (ab rfl)<|ba<|aF<|aW<|bc<|nq (aU rfl b9 bf ((by rw[az];exact ha)) hb1.ax)<| ?_
 refine nx (eh rfl Tryz.call183 (bytes a _ ha) ?_)
 rintro e_ w2 ⟨v,rfl,hv,hf2⟩
 refine⟨_,rfl, ?_⟩
 obtain⟨Av,cv,rfl,hcv⟩:=hv.slice
 refine nx (eh rfl Tryz.call182 (Gw Av _ cv a _ ((Own.rd hv).2.2) (by omega)) ?_)
 rintro e_ w3 ⟨rfl,hf3⟩
 refine⟨_,rfl, ?_⟩
 refine nq (ab rfl)<|ba<|bB (ae (t:=2) rfl<|ae (t:=1) rfl<|ae (t:=0) rfl<|aC)<|aF<|dO<| ?_
 exact eW trivial rfl rfl ⟨rfl,(hf1.cy hf2).cy hf3⟩
theorem qQ(d:List UInt8)(h:d.length=32):b8 (cf d)=(d,0):=by
 rw[b8,kn]
 simp only
 rw[if_pos h]
end Go.Proofs.YtmibdabdlgmafaaGreatDoor
end
section
set_option maxRecDepth 20000
namespace Go.Proofs.YtmibdabdlgmafaaGreatDoor
open Go.Eng Go.Hx
theorem A9{a:List UInt8}(ha:a.length=32):ck Tryz.prog 104 [.agg (aV a).toArray] [] [] (fun v_ X_ S_=>v_=(.string (strOf (cf a)))∧X_=[]∧S_=[]):=by
 exact fP fun m=>Calls.mono (name a _ ha) (fun e w' ⟨h,hf⟩=>⟨_,h,⟨rfl,rfl,rfl⟩,hf⟩)
theorem wQ{a:List UInt8}(ha:a.length=32):ck Tryz.prog 111 [.agg (aV a).toArray] [] [] (fun v_ X_ S_=>v_=(.string (strOf (cf a)))∧X_=[]∧S_=[]):=by
 exact fP fun m=>Calls.mono (Fu a _ ha) (fun e w' ⟨h,hf⟩=>⟨_,h,⟨rfl,rfl,rfl⟩,hf⟩)
theorem As{s:List UInt8}(hs:s.length≤1000000):ck Tryz.prog 92 [.string (strOf s)] [] [] (fun v_ X_ S_=>v_=(.tuple #[.agg (aV (b8 s).1).toArray,.int .i64 (b8 s).2])∧X_=[]∧S_=[]):=by
 exact fP fun m=>Calls.mono (B3 s _ (by omega)) (fun e w' ⟨h,hf⟩=>⟨_,h,⟨rfl,rfl,rfl⟩,hf⟩)
theorem yd{s:List UInt8}(hs:s.length≤1000000):ck Tryz.prog 95 [.string (strOf s)] [] [] (fun v_ X_ S_=>v_=(.tuple #[.agg (aV (b8 s).1).toArray,.int .i64 (b8 s).2])∧X_=[]∧S_=[]):=by
 exact fP fun m=>Calls.mono (BJ s _ (by omega)) (fun e w' ⟨h,hf⟩=>⟨_,h,⟨rfl,rfl,rfl⟩,hf⟩)
theorem Ef{k q:Int}:ck Tryz.prog 103 [.iface 47 (.int .i64 k),.iface 47 (.int .i64 q)] [] [] (fun v_ X_ S_=>v_=(.bool (decide (k=q)))∧X_=[]∧S_=[]):=by
 exact fP fun m=>Calls.mono (qt k q _) (fun e w' ⟨h,hw⟩=>⟨_,h,⟨rfl,rfl,rfl⟩,hw▸Fr.refl _ _⟩)
theorem F5{A:Option Addr}{n c:Nat}{l:List UInt8}{k:Nat}(hn:n≤140737488351232)(hk:k≤1000000):ck Tryz.prog 101 [.slice A n c,.int .i64 (k:Nat)] [] [dr 1 A n (aV l)] (fun v_ X_ S_=>∃v,v_=v∧X_=[aG 5 1 v k (aV (fill l k))]∧S_=[]):=by
 exact kN fun m=>Calls.mono (EG A n c l k _ (m.rd 0 rfl) hn hk) (fun e w' ⟨v,h,ho,hf⟩=>⟨v,v,_,_,_,_,h,⟨v,rfl,rfl,rfl⟩,ho,hf⟩)
end Go.Proofs.YtmibdabdlgmafaaGreatDoor
end
