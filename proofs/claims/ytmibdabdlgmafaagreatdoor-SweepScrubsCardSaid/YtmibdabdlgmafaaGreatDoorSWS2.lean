/- Part. -/
import Derived.Test.YtmibdabdlgmafaaGreatDoorSWS1
import Derived.Test.YtmibdabdlgmafaaGreatDoorProg
import Derived.KernelRfl
import Derived.Lib.Bytealg
import Derived.Test.YtmibdabdlgmafaaGreatDoorRows
import Derived.ProofKit
import Derived.LaidMore
import Derived.OpenShut
import Derived.MakeChecks
import Derived.LaidHandle
import Derived.LaidLaws
import Derived.Lib.BytesEntry
import Derived.Sort.Grow
import Derived.Shelf.SlSortCmp.NoneTotal
import Derived.Ground.SlsfProg
import Derived.Recover
import Derived.WideKeyEntry
import Derived.Lib.IndexAny
set_option linter.all false
section
namespace Go.Hx
open Go.Eng
def kQ(n:Nat)(x:UInt32):UInt32:=.ofNat (x.toNat/2 ^ n+x.toNat % 2 ^ n*2 ^ (32-n))
theorem mE{n:Nat}(hn:n≤32)(x:UInt32):(kQ n x).toNat=x.toNat/2 ^ n+x.toNat % 2 ^ n*2 ^ (32-n):=by
 rw[kQ,UInt32.toNat_ofNat',Nat.mod_eq_of_lt]
 have h1:=x.toNat_lt
 have h2:2 ^ n*2 ^ (32-n)=2 ^ 32:=by rw[←Nat.pow_add];congr 1;omega
 have h3:x.toNat % 2 ^ n<2 ^ n:=Nat.mod_lt _ (Nat.two_pow_pos n)
 have h4:x.toNat/2 ^ n<2 ^ (32-n):=Nat.div_lt_of_lt_mul (by omega)
 have h5:x.toNat % 2 ^ n*2 ^ (32-n)≤(2 ^ n-1)*2 ^ (32-n):=Nat.mul_le_mul_right _ (by omega)
 have h6:(2 ^ n-1)*2 ^ (32-n)+2 ^ (32-n)=2 ^ 32:=by
  rw[←h2,Nat.sub_mul,Nat.one_mul]
  have:=Nat.le_mul_of_pos_left (2 ^ (32-n)) (Nat.two_pow_pos n)
  omega
 omega
def uq(x:UInt32):UInt32:=x/2+x % 2*2147483648
theorem yL(x:UInt32):(uq x).toNat=x.toNat/2+x.toNat % 2*2147483648:=by
 have h1:=x.toNat_lt
 rw[uq,UInt32.toNat_add,UInt32.toNat_mul,UInt32.toNat_div,UInt32.toNat_mod]
 show(x.toNat/2+x.toNat % 2*2147483648 % 4294967296) % 4294967296=_
 have:x.toNat % 2<2:=Nat.mod_lt _ (by decide)
 omega
theorem xQ(x:UInt32):kQ 0 x=x:=by
 apply UInt32.toNat_inj.1
 rw[mE (by decide)]
 simp[Nat.mod_one]
theorem yI{n:Nat}(hn:n<32)(x:UInt32):kQ (n+1) x=uq (kQ n x):=by
 apply UInt32.toNat_inj.1
 rw[yL,mE (by omega),mE (by omega)]
 obtain⟨k,hk⟩:∃k,32-n=k+1:=⟨31-n,by omega⟩
 have hk2:32-(n+1)=k:=by omega
 rw[hk,hk2,Nat.pow_succ 2 k,Nat.pow_succ 2 n]
 have hq:x.toNat/(2 ^ n*2)=x.toNat/2 ^ n/2:=(Nat.div_div_eq_div_mul ..).symm
 have hm:x.toNat % (2 ^ n*2)=x.toNat % 2 ^ n+2 ^ n*(x.toNat/2 ^ n % 2):=Nat.mod_mul ..
 rw[hq,hm]
 generalize x.toNat/2 ^ n=q
 generalize x.toNat % 2 ^ n=m
 have h31:2 ^ n*2 ^ k=2147483648:=by rw[←Nat.pow_add,show n+k=31 by omega]
 have e1:(q+m*(2 ^ k*2))/2=q/2+m*2 ^ k:=by
  rw[show m*(2 ^ k*2)=(m*2 ^ k)*2 by rw[Nat.mul_assoc]];omega
 have e2:(q+m*(2 ^ k*2)) % 2=q % 2:=by
  rw[show m*(2 ^ k*2)=(m*2 ^ k)*2 by rw[Nat.mul_assoc]];omega
 rw[e1,e2,Nat.add_mul,Nat.mul_right_comm (2 ^ n),h31]
 omega
theorem BK{n:Nat}(h0:0<n)(hn:n<32)(x:UInt32):UInt32.ofNat (x.toNat*2 ^ (32-n)) ||| UInt32.ofNat (x.toNat/2 ^ n)=kQ n x:=by
 apply UInt32.toNat_inj.1
 have h1:=x.toNat_lt
 rw[mE (by omega),UInt32.toNat_or,UInt32.toNat_ofNat',UInt32.toNat_ofNat']
 have h2:2 ^ n*2 ^ (32-n)=2 ^ 32:=by rw[←Nat.pow_add];congr 1;omega
 have h4:x.toNat/2 ^ n<2 ^ (32-n):=Nat.div_lt_of_lt_mul (by omega)
 have h5:x.toNat/2 ^ n≤x.toNat:=Nat.div_le_self ..
 rw[Nat.mod_eq_of_lt (a:=x.toNat/2 ^ n) (by omega)]
 have h6:x.toNat*2 ^ (32-n) % 2 ^ 32=2 ^ (32-n)*(x.toNat % 2 ^ n):=by
  rw[←h2,Nat.mul_mod_mul_right,Nat.mul_comm]
 rw[h6,←Nat.two_pow_add_eq_or_of_lt h4,Nat.mul_comm,Nat.add_comm]
def fP:List UInt32:=[1116352408,1899447441,3049323471,3921009573,961987163,1508970993,2453635748,2870763221,3624381080,310598401,607225278,1426881987,1925078388,2162078206,2614888103,3248222580,3835390401,4022224774,264347078,604807628,770255983,1249150122,1555081692,1996064986,2554220882,2821834349,2952996808,3210313671,3336571891,3584528711,113926993,338241895,666307205,773529912,1294757372,1396182291,1695183700,1986661051,2177026350,2456956037,2730485921,2820302411,3259730800,3345764771,3516065817,3600352804,4094571909,275423344,430227734,506948616,659060556,883997877,958139571,1322822218,1537002063,1747873779,1955562222,2024104815,2227730452,2361852424,2428436474,2756734187,3204031479,3329325298]
def mC:List UInt32:=[1779033703,3144134277,1013904242,2773480762,1359893119,2600822924,528734635,1541459225]
def turns(a b c:Nat)(x:UInt32):UInt32:=kQ a x ^^^ kQ b x ^^^ kQ c x
def at8(b:List UInt8)(i:Nat):Nat:=(b.getD i 0).toNat
def lp(b:List UInt8)(i:Nat):UInt32:=.ofNat (at8 b i*16777216+at8 b (i+1)*65536+at8 b (i+2)*256+at8 b (i+3))
def wp(b:List UInt8)(i:Nat):Nat→Nat
 |0=>0
 |j+1=>wp b i j*256+at8 b (i+j)
theorem nT(b:List UInt8)(i:Nat):at8 b i<256:=(b.getD i 0).toNat_lt
theorem DM(b:List UInt8)(i:Nat):∀j,wp b i j<256 ^ j
 |0=>Nat.one_pos
 |j+1=>by
  have h1:=DM b i j
  have h2:=nT b (i+j)
  rw[wp,Nat.pow_succ]
  omega
theorem CO{b:List UInt8}{i j:Nat}(hj:j<4):(UInt32.ofNat (wp b i j)*256) ||| (b.getD (i+j) 0).toUInt32=UInt32.ofNat (wp b i (j+1)):=by
 apply UInt32.toNat_inj.1
 have h1:=DM b i j
 have h0:256 ^ j≤256 ^ 3:=Nat.pow_le_pow_right (by decide) (by omega)
 have h2:=nT b (i+j)
 have h3:wp b i j<16777216:=Nat.lt_of_lt_of_le h1 h0
 rw[UInt32.toNat_or,UInt32.toNat_mul,UInt32.toNat_ofNat',UInt8.toNat_toUInt32,UInt32.toNat_ofNat',wp]
 show(wp b i j % 4294967296*256 % 4294967296 ||| at8 b (i+j))=_
 rw[Nat.mod_eq_of_lt (a:=wp b i j) (by omega),Nat.mod_eq_of_lt (a:=wp b i j*256) (by omega),Nat.mod_eq_of_lt (a:=wp b i j*256+_) (by omega),show wp b i j*256=2 ^ 8*wp b i j by omega,Nat.two_pow_add_eq_or_of_lt (i:=8) h2]
theorem Ey(b:List UInt8)(i:Nat):wp b i 4=at8 b i*16777216+at8 b (i+1)*65536+at8 b (i+2)*256+at8 b (i+3):=by
 have e1:wp b i 1=wp b i 0*256+at8 b (i+0):=rfl
 have e2:wp b i 2=wp b i 1*256+at8 b (i+1):=rfl
 have e3:wp b i 3=wp b i 2*256+at8 b (i+2):=rfl
 have e4:wp b i 4=wp b i 3*256+at8 b (i+3):=rfl
 have e0:wp b i 0=0:=rfl
 rw[Nat.add_zero]at e1
 rw[e4,e3,e2,e1,e0]
 generalize at8 b i=p
 generalize at8 b (i+1)=q
 generalize at8 b (i+2)=r
 generalize at8 b (i+3)=s
 omega
theorem Dn(b:List UInt8)(i:Nat):UInt32.ofNat (wp b i 4)=lp b i:=congrArg UInt32.ofNat (Ey b i)
theorem xV(b:List UInt8)(i:Nat):(b.getD i 0).toUInt32*16777216+(b.getD (i+1) 0).toUInt32*65536+(b.getD (i+2) 0).toUInt32*256+(b.getD (i+3) 0).toUInt32=lp b i:=by
 apply UInt32.toNat_inj.1
 have h0:(b.getD i 0).toNat<256:=nT b i
 have h1:(b.getD (i+1) 0).toNat<256:=nT b (i+1)
 have h2:(b.getD (i+2) 0).toNat<256:=nT b (i+2)
 have h3:(b.getD (i+3) 0).toNat<256:=nT b (i+3)
 have k1:(16777216:UInt32).toNat=16777216:=rfl
 have k2:(65536:UInt32).toNat=65536:=rfl
 have k3:(256:UInt32).toNat=256:=rfl
 simp only[lp,at8,UInt32.toNat_add,UInt32.toNat_mul,UInt8.toNat_toUInt32,UInt32.toNat_ofNat',k1,k2,k3]
 generalize(b.getD i 0).toNat=p at*
 generalize(b.getD (i+1) 0).toNat=q at*
 generalize(b.getD (i+2) 0).toNat=r at*
 generalize(b.getD (i+3) 0).toNat=s at*
 omega
def Hv(x:UInt32):UInt32:=kQ 7 x ^^^ kQ 18 x ^^^ (x/8)
def GM(x:UInt32):UInt32:=kQ 17 x ^^^ kQ 19 x ^^^ (x/1024)
def nz(w:List UInt32)(i:Nat):UInt32:=w.getD (i-16) 0+Hv (w.getD (i-15) 0)+w.getD (i-7) 0+GM (w.getD (i-2) 0)
def wl(b:List UInt8):Nat→List UInt32
 |0=>[]
 |i+1=>wl b i++[if i<16 then lp b (4*i)else nz (wl b i) i]
theorem fM(b:List UInt8):∀i,(wl b i).length=i
 |0=>rfl
 |i+1=>by rw[wl,List.length_append,fM b i];rfl
def v_(v:List UInt32)(i:Nat):UInt32:=v.getD i 0
def rt(v:List UInt32)(k w:UInt32):UInt32:=v_ v 7+turns 6 11 25 (v_ v 4)+((v_ v 4 &&& v_ v 5) ^^^ (~~~(v_ v 4) &&& v_ v 6))+k+w
def ru(v:List UInt32):UInt32:=turns 2 13 22 (v_ v 0)+((v_ v 0 &&& v_ v 1) ^^^ (v_ v 0 &&& v_ v 2) ^^^ (v_ v 1 &&& v_ v 2))
def Hy(v:List UInt32)(k w:UInt32):List UInt32:=[rt v k w+ru v,v_ v 0,v_ v 1,v_ v 2,v_ v 3+rt v k w,v_ v 4,v_ v 5,v_ v 6]
def kN(w v:List UInt32):Nat→List UInt32
 |0=>v
 |i+1=>Hy (kN w v i) (fP.getD i 0) (w.getD i 0)
theorem kW{w v:List UInt32}(h:v.length=8):∀i,(kN w v i).length=8
 |0=>h
 |i+1=>rfl
def gg(v h:List UInt32)(i:Nat):List UInt32:=(List.range v.length).map fun j=>if j<i then v_ v j+v_ h j else v_ v j
def eI(h:List UInt32)(b:List UInt8):List UInt32:=gg (kN (wl b 64) h 64) h 8
theorem jA{h:List UInt32}(hl:h.length=8)(b:List UInt8):(eI h b).length=8:=by simp[eI,gg,kW hl]
theorem rU{v h:List UInt32}:gg v h 0=v:=by
 apply List.ext_getElem?
 intro i
 simp only[gg,Nat.not_lt_zero,if_false,List.getElem?_map]
 by_cases hi:i<v.length
 ·simp[hi,v_,List.getD]
 ·rw[List.getElem?_eq_none (by simpa using hi),List.getElem?_eq_none (by omega)];rfl
theorem rR{v h:List UInt32}{i:Nat}(hi:i<v.length):gg v h (i+1)=(gg v h i).set i (v_ (gg v h i) i+v_ h i):=by
 apply List.ext_getElem?
 intro j
 have e:v_ (gg v h i) i=v_ v i:=by simp[gg,v_,List.getD,hi]
 rw[e]
 by_cases hj:j<v.length
 ·by_cases hij:i=j
  ·subst hij
   simp[gg,hi]
  ·rw[List.getElem?_set_ne hij]
   simp only[gg,List.getElem?_map,List.getElem?_range hj,Option.map_some]
   congr 1
   by_cases h1:j<i
   ·rw[if_pos h1,if_pos (by omega)]
   ·rw[if_neg h1,if_neg (by omega)]
 ·rw[List.getElem?_eq_none (by simp[gg];omega),List.getElem?_eq_none (by simp[gg];omega)]
def oH:Nat→List UInt32→List UInt8→List UInt32
 |0,h,_=>h
 |n+1,h,l=>oH n (eI h (l.take 64)) (l.drop 64)
def fI(h:List UInt32)(l:List UInt8):List UInt32:=oH (l.length/64) h l
theorem qh:∀(n:Nat) (h:List UInt32) (l b:List UInt8),l.length=64*n→b.length=64→oH (n+1) h (l++b)=eI (oH n h l) b
 |0,h,l,b,hl,hb=>by
  obtain rfl:=List.eq_nil_of_length_eq_zero hl
  simp only[oH,List.nil_append]
  rw[List.take_of_length_le (by omega)]
 |n+1,h,l,b,hl,hb=>by
  have h1:(l++b).take 64=l.take 64:=by rw[List.take_append_of_le_length (by omega)]
  have h2:(l++b).drop 64=l.drop 64++b:=by rw[List.drop_append_of_le_length (by omega)]
  rw[oH,h1,h2,qh n _ (l.drop 64) b (by rw[List.length_drop];omega) hb]
  rfl
theorem p6{h:List UInt32}{l b:List UInt8}(hl:l.length % 64=0)(hb:b.length=64):fI h (l++b)=eI (fI h l) b:=by
 unfold fI
 rw[List.length_append,hb,show(l.length+64)/64=l.length/64+1 by omega]
 exact qh _ h l b (by omega) hb
theorem nB:∀(n:Nat) (h:List UInt32) (l:List UInt8),h.length=8→(oH n h l).length=8
 |0,h,l,hl=>hl
 |n+1,h,l,hl=>nB n _ _ (jA hl _)
theorem mS{h:List UInt32}(l:List UInt8)(hl:h.length=8):(fI h l).length=8:=nB _ _ _ hl
def By(x:UInt32):List UInt8:=[.ofNat (x/16777216).toNat,.ofNat (x/65536).toNat,.ofNat (x/256).toNat,.ofNat x.toNat]
def eU(h:List UInt32):List UInt8:=h.flatMap By
def tb(n:Nat):List UInt8:=(List.range 8).map fun i=>.ofNat (n/256 ^ (7-i))
def iO(n:Nat):Nat:=(119-n % 64) % 64
def jx(b:List UInt8):List UInt8:=b++(128::List.replicate (iO b.length) 0)++tb (8*b.length)
theorem oK(b:List UInt8):(jx b).length % 64=0:=by
 simp only[jx,List.length_append,List.length_cons,List.length_replicate,tb,List.length_map,List.length_range,iO]
 omega
def bn(b:List UInt8):List UInt8:=eU (fI mC (jx b))
theorem mI{h:List UInt32}(hl:h.length=8):(eU h).length=32:=by
 match h,hl with
 | [a,b,c,d,e,f,g,i],_=>rfl
theorem br(b:List UInt8):(bn b).length=32:=mI (mS _ rfl)
end Go.Hx
end
section
namespace Go.Proofs.YtmibdabdlgmafaaGreatDoor
open Go.Eng
theorem fZ:dz Tryz.prog 3=some false:=by kernel_rfl
theorem s7:fy Tryz.prog 3=some 1:=by kernel_rfl
theorem Eh:TI Tryz.prog 3 (.int .i64 0) 1 8:=by unfold TI;kernel_rfl
theorem Ik:dz Tryz.prog 4=some false:=by kernel_rfl
theorem HY:fy Tryz.prog 4=some 1:=by kernel_rfl
theorem jc:dz Tryz.prog 5=some false:=by kernel_rfl
theorem dZ:fy Tryz.prog 5=some 1:=by kernel_rfl
theorem fk:TI Tryz.prog 5 (.int .u8 0) 1 1:=by unfold TI;kernel_rfl
theorem lz:dz Tryz.prog 9=some false:=by kernel_rfl
theorem HI:fy Tryz.prog 9=some 1:=by kernel_rfl
theorem HH:TI Tryz.prog 9 (.string ⟨#[]⟩) 1 16:=by unfold TI;kernel_rfl
theorem eh:dz Tryz.prog 27=some false:=by kernel_rfl
theorem oV:fy Tryz.prog 27=some 1:=by kernel_rfl
theorem tj:TI Tryz.prog 27 (.slice none 0 0) 1 24:=by unfold TI;kernel_rfl
theorem EI:dz Tryz.prog 28=some false:=by kernel_rfl
theorem Hs:fy Tryz.prog 28=some 1:=by kernel_rfl
theorem kv:dz Tryz.prog 35=some false:=by kernel_rfl
theorem oQ:dz Tryz.prog 36=some false:=by kernel_rfl
theorem GO:fy Tryz.prog 36=some 1:=by kernel_rfl
theorem G0:dz Tryz.prog 37=some false:=by kernel_rfl
theorem FT:fy Tryz.prog 37=some 1:=by kernel_rfl
theorem ca:dz Tryz.prog 39=some true:=by kernel_rfl
theorem bj:fy Tryz.prog 39=some 5:=by kernel_rfl
theorem fO:TI Tryz.prog 39 (.agg (([.int .i64 0])++([.slice none 0 0])++([.slice none 0 0])++([.slice none 0 0])++([.int .i64 0]):List Value).toArray) 5 88:=by unfold TI;kernel_rfl
theorem zL:j4 Tryz.prog 39 0=some (0,1,3):=by kernel_rfl
theorem gD:j4 Tryz.prog 39 1=some (1,1,36):=by kernel_rfl
theorem EP:j4 Tryz.prog 39 2=some (2,1,36):=by kernel_rfl
theorem sH:j4 Tryz.prog 39 3=some (3,1,37):=by kernel_rfl
theorem hO:j4 Tryz.prog 39 4=some (4,1,3):=by kernel_rfl
theorem EK:TI Tryz.prog 44 (.slice none 0 0) 1 24:=by unfold TI;kernel_rfl
theorem lT:dz Tryz.prog 47=some false:=by kernel_rfl
theorem yx:fy Tryz.prog 47=some 1:=by kernel_rfl
theorem Hl:TI Tryz.prog 47 (.int .i64 0) 1 8:=by unfold TI;kernel_rfl
theorem b9:dz Tryz.prog 53=some true:=by kernel_rfl
theorem bg:fy Tryz.prog 53=some 32:=by kernel_rfl
theorem cP:TI Tryz.prog 53 (.agg (aW (List.replicate 32 0):List Value).toArray) 32 32:=by unfold TI;kernel_rfl
theorem vX{l:List UInt8}(h:l.length=32):Tryz.prog.keyLits 2 53 (aW l)=some (l.map fun b=>Lit.int .u8 (b.toNat:Int)):=fF (D:=0) Tryz.underlying53 Tryz.underlying5 (by kernel_rfl) (by kernel_rfl) h
theorem sY{N:Nat}{D:List Deferred}{ρ:Env}{w:World}{ty t' :TypeId}{x y:Operand}{l m:List UInt8}(hx:ev ρ x=some (.agg (aW l).toArray))(hy:ev ρ y=some (.agg (aW m).toArray))(hl:l.length=32)(hm:m.length=32):Yl Tryz.prog N D ρ w (.binOp .eql 53 x y t') ty (.bool (decide (l=m))):=
 Gb (m:=5) hx hy (by decide) (by kernel_rfl) (by kernel_rfl) b9 (by rw[az,hl];kernel_rfl) (by rw[az,hm];kernel_rfl) (vX hl) (vX hm) jq
theorem o1{N:Nat}{D:List Deferred}{ρ:Env}{w:World}{ty t' :TypeId}{x y:Operand}{l m:List UInt8}(hx:ev ρ x=some (.agg (aW l).toArray))(hy:ev ρ y=some (.agg (aW m).toArray))(hl:l.length=32)(hm:m.length=32):Yl Tryz.prog N D ρ w (.binOp .neq 53 x y t') ty (.bool (decide (¬l=m))):=
 GN (m:=5) hx hy (by decide) (by kernel_rfl) (by kernel_rfl) b9 (by rw[az,hl];kernel_rfl) (by rw[az,hm];kernel_rfl) (vX hl) (vX hm) jq
theorem HO:dz Tryz.prog 75=some true:=by kernel_rfl
theorem HM:fy Tryz.prog 75=some 3:=by kernel_rfl
theorem HK:TI Tryz.prog 75 (.agg (([.int .i64 0])++([.int .i64 0])++([.int .i64 0]):List Value).toArray) 3 24:=by unfold TI;kernel_rfl
theorem EG:dz Tryz.prog 80=some false:=by kernel_rfl
theorem Hr:fy Tryz.prog 80=some 1:=by kernel_rfl
theorem Cu:dz Tryz.prog 82=some true:=by kernel_rfl
theorem va:fy Tryz.prog 82=some 36:=by kernel_rfl
theorem E7:TI Tryz.prog 82 (.agg ((([.int .i64 0])++([.int .i64 0])++([.int .i64 0]))++(aW (List.replicate 32 0))++([.slice none 0 0]):List Value).toArray) 36 80:=by unfold TI;kernel_rfl
theorem Ee:j4 Tryz.prog 82 0=some (0,3,75):=by kernel_rfl
theorem Fb:o9 Tryz.prog 82 0=some (0,3):=by kernel_rfl
theorem FD:j4 Tryz.prog 82 1=some (3,32,53):=by kernel_rfl
theorem vc:j4 Tryz.prog 82 2=some (35,1,80):=by kernel_rfl
theorem GL:dz Tryz.prog 88=some true:=by kernel_rfl
theorem Bi:fy Tryz.prog 88=some 36:=by kernel_rfl
theorem Cl:TI Tryz.prog 88 (.agg ((([.int .i64 0])++([.int .i64 0])++([.int .i64 0]))++(aW (List.replicate 32 0))++([.slice none 0 0]):List Value).toArray) 36 80:=by unfold TI;kernel_rfl
theorem FC:o9 Tryz.prog 88 0=some (0,3):=by kernel_rfl
theorem Ep:o9 Tryz.prog 88 1=some (3,32):=by kernel_rfl
theorem E0:j4 Tryz.prog 88 2=some (35,1,80):=by kernel_rfl
theorem Fg:o9 Tryz.prog 88 2=some (35,1):=by kernel_rfl
theorem GJ:dz Tryz.prog 100=some true:=by kernel_rfl
theorem zG:fy Tryz.prog 100=some 33:=by kernel_rfl
theorem xy:TI Tryz.prog 100 (.agg ((aW (List.replicate 32 0))++([.int .i64 0]):List Value).toArray) 33 40:=by unfold TI;kernel_rfl
theorem CA:j4 Tryz.prog 100 0=some (0,32,53):=by kernel_rfl
theorem C6:o9 Tryz.prog 100 0=some (0,32):=by kernel_rfl
theorem BJ:o9 Tryz.prog 100 1=some (32,1):=by kernel_rfl
theorem GP:TI Tryz.prog 121 (.agg (([.pointer none])++(([.int .i64 0])++([.slice none 0 0])++([.slice none 0 0])++([.slice none 0 0])++([.int .i64 0])):List Value).toArray) 6 96:=by unfold TI;kernel_rfl
theorem eR:j4 Tryz.prog 121 0=some (0,1,35):=by kernel_rfl
theorem BT:o9 Tryz.prog 121 0=some (0,1):=by kernel_rfl
theorem eP:j4 Tryz.prog 121 1=some (1,5,39):=by kernel_rfl
theorem BP:o9 Tryz.prog 121 1=some (1,5):=by kernel_rfl
theorem qV:dz Tryz.prog 156=some true:=by kernel_rfl
theorem fa:fy Tryz.prog 156=some 2:=by kernel_rfl
theorem jg:TI Tryz.prog 156 (.agg (([.string ⟨#[]⟩])++([.string ⟨#[]⟩]):List Value).toArray) 2 32:=by unfold TI;kernel_rfl
theorem eQ:j4 Tryz.prog 156 0=some (0,1,9):=by kernel_rfl
theorem o5:j4 Tryz.prog 156 1=some (1,1,9):=by kernel_rfl
theorem bY:dz Tryz.prog 166=some false:=by kernel_rfl
theorem bQ:fy Tryz.prog 166=some 1:=by kernel_rfl
theorem oG:TI Tryz.prog 166 (.int .u32 0) 1 4:=by unfold TI;kernel_rfl
theorem jh:dz Tryz.prog 174=some false:=by kernel_rfl
theorem DP:fy Tryz.prog 174=some 1:=by kernel_rfl
theorem uj:dz Tryz.prog 175=some false:=by kernel_rfl
theorem tR:fy Tryz.prog 175=some 1:=by kernel_rfl
theorem Gz:TI Tryz.prog 177 (.agg (([.int .i64 0])++([.map none])++([.map none])++([.slice none 0 0])++([.int .i64 0]):List Value).toArray) 5 56:=by unfold TI;kernel_rfl
theorem Ce:j4 Tryz.prog 177 0=some (0,1,3):=by kernel_rfl
theorem gK:j4 Tryz.prog 177 1=some (1,1,174):=by kernel_rfl
theorem lv:j4 Tryz.prog 177 2=some (2,1,174):=by kernel_rfl
theorem gH:j4 Tryz.prog 177 3=some (3,1,175):=by kernel_rfl
theorem lB:j4 Tryz.prog 177 4=some (4,1,3):=by kernel_rfl
theorem DL:dz Tryz.prog 186=some true:=by kernel_rfl
theorem Dq:fy Tryz.prog 186=some 4:=by kernel_rfl
theorem pM:TI Tryz.prog 186 (.agg (([.int .i64 0])++([.string ⟨#[]⟩])++([.string ⟨#[]⟩])++([.string ⟨#[]⟩]):List Value).toArray) 4 56:=by unfold TI;kernel_rfl
theorem vZ:j4 Tryz.prog 186 0=some (0,1,3):=by kernel_rfl
theorem pb:j4 Tryz.prog 186 1=some (1,1,9):=by kernel_rfl
theorem BG:j4 Tryz.prog 186 2=some (2,1,9):=by kernel_rfl
theorem Cx:j4 Tryz.prog 186 3=some (3,1,9):=by kernel_rfl
theorem DR:dz Tryz.prog 189=some true:=by kernel_rfl
theorem zW:fy Tryz.prog 189=some 2:=by kernel_rfl
theorem DT:TI Tryz.prog 189 (.agg (([.string ⟨#[]⟩])++([.slice none 0 0]):List Value).toArray) 2 40:=by unfold TI;kernel_rfl
theorem BB:j4 Tryz.prog 189 0=some (0,1,9):=by kernel_rfl
theorem pd:j4 Tryz.prog 189 1=some (1,1,27):=by kernel_rfl
theorem Gd:dz Tryz.prog 232=some false:=by kernel_rfl
theorem Gu:fy Tryz.prog 232=some 1:=by kernel_rfl
theorem rG:TI Tryz.prog 232 (.nilIface) 1 16:=by unfold TI;kernel_rfl
theorem F4:TI Tryz.prog 237 (.agg (([.string ⟨#[]⟩]):List Value).toArray) 1 16:=by unfold TI;kernel_rfl
theorem BE:j4 Tryz.prog 237 0=some (0,1,9):=by kernel_rfl
theorem Gl:TI Tryz.prog 257 (.agg (([.string ⟨#[]⟩])++([.string ⟨#[]⟩]):List Value).toArray) 2 32:=by unfold TI;kernel_rfl
theorem sM:j4 Tryz.prog 257 0=some (0,1,9):=by kernel_rfl
theorem BS:j4 Tryz.prog 257 1=some (1,1,9):=by kernel_rfl
theorem DA:fy Tryz.prog 288=some 1:=by kernel_rfl
theorem wI:TI Tryz.prog 288 (.agg (([.int .i64 0]):List Value).toArray) 1 8:=by unfold TI;kernel_rfl
theorem BU:j4 Tryz.prog 288 0=some (0,1,47):=by kernel_rfl
theorem re:dz Tryz.prog 295=some true:=by kernel_rfl
theorem jQ:fy Tryz.prog 295=some 3:=by kernel_rfl
theorem oy:TI Tryz.prog 295 (.agg (([.slice none 0 0])++([.int .i64 0])++([.int .i64 0]):List Value).toArray) 3 40:=by unfold TI;kernel_rfl
theorem BL:j4 Tryz.prog 295 0=some (0,1,27):=by kernel_rfl
theorem C0:j4 Tryz.prog 295 2=some (2,1,47):=by kernel_rfl
theorem wS:dz Tryz.prog 298=some true:=by kernel_rfl
theorem l7:fy Tryz.prog 298=some 2:=by kernel_rfl
theorem rS:TI Tryz.prog 298 (.agg (([.int .i64 0])++([.int .i64 0]):List Value).toArray) 2 16:=by unfold TI;kernel_rfl
theorem lH:j4 Tryz.prog 298 0=some (0,1,3):=by kernel_rfl
theorem xf:j4 Tryz.prog 298 1=some (1,1,3):=by kernel_rfl
theorem rr:dz Tryz.prog 306=some true:=by kernel_rfl
theorem lZ:fy Tryz.prog 306=some 8:=by kernel_rfl
theorem xp:TI Tryz.prog 306 (.agg ((List.replicate 8 ([.int .u32 0])).flatten:List Value).toArray) 8 32:=by unfold TI;kernel_rfl
theorem Dy:TI Tryz.prog 308 (.agg (((List.replicate 8 ([.int .u32 0])).flatten)++([.int .i64 0])++([.slice none 0 0]):List Value).toArray) 10 64:=by unfold TI;kernel_rfl
theorem o6:j4 Tryz.prog 308 0=some (0,8,306):=by kernel_rfl
theorem mG:j4 Tryz.prog 308 1=some (8,1,3):=by kernel_rfl
theorem ky:j4 Tryz.prog 308 2=some (9,1,27):=by kernel_rfl
theorem oD:dz Tryz.prog 322=some false:=by kernel_rfl
theorem Dz:dz Tryz.prog 354=some true:=by kernel_rfl
theorem xl:fy Tryz.prog 354=some 64:=by kernel_rfl
theorem yP:TI Tryz.prog 354 (.agg ((List.replicate 64 ([.int .u32 0])).flatten:List Value).toArray) 64 256:=by unfold TI;kernel_rfl
theorem z8:dz Tryz.prog 357=some false:=by kernel_rfl
theorem Gf:TI Tryz.prog 359 (.agg (([.slice none 0 0])++([.map none])++([.int .i64 0]):List Value).toArray) 3 40:=by unfold TI;kernel_rfl
theorem kD:j4 Tryz.prog 359 0=some (0,1,27):=by kernel_rfl
theorem se:j4 Tryz.prog 359 1=some (1,1,357):=by kernel_rfl
theorem iw:j4 Tryz.prog 359 2=some (2,1,3):=by kernel_rfl
theorem wL:dz Tryz.prog 364=some true:=by kernel_rfl
theorem tS:fy Tryz.prog 364=some 4:=by kernel_rfl
theorem GR:TI Tryz.prog 364 (.agg (aW (List.replicate 4 0):List Value).toArray) 4 4:=by unfold TI;kernel_rfl
end Go.Proofs.YtmibdabdlgmafaaGreatDoor
end
section
namespace Go.Hx
open Go.Eng
def nr(x:Nat):Nat:=if x % 2=1 then(x/2) ^^^ 2197175160 else x/2
theorem y1{x:Nat}(h:x<4294967296):nr x<4294967296:=by
 unfold nr
 split
 ·exact Nat.xor_lt_two_pow (n:=32) (by omega) (by decide)
 ·omega
def gx:Nat→Nat→Nat
 |0,x=>x
 |n+1,x=>nr (gx n x)
theorem lx{x:Nat}(h:x<4294967296):∀n,gx n x<4294967296
 |0=>h
 |n+1=>y1 (lx h n)
def kE(n:Nat)(l:List UInt8):Nat:=l.foldl (fun n b=>gx 8 (n ^^^ b.toNat)) n
theorem mL{n:Nat}(h:n<4294967296):∀l:List UInt8,kE n l<4294967296:=by
 intro l
 induction l generalizing n with
 |nil=>exact h
 |cons a r ih=>exact ih (lx (Nat.xor_lt_two_pow (n:=32) h (by have:=a.toNat_lt;omega)) 8)
theorem qs(n:Nat)(l:List UInt8)(b:UInt8):kE n (l++[b])=gx 8 (kE n l ^^^ b.toNat):=by simp[kE]
theorem uf{m:Nat}(h:m<4294967296):4294967295 ^^^ m=4294967295-m:=by
 have h1:(BitVec.allOnes 32 ^^^ BitVec.ofNat 32 m)= ~~~ BitVec.ofNat 32 m:=BitVec.allOnes_xor
 have h2:=congrArg BitVec.toNat h1
 rw[BitVec.toNat_xor,BitVec.toNat_not,BitVec.toNat_allOnes,BitVec.toNat_ofNat,Nat.mod_eq_of_lt h]at h2
 exact h2
def da(l:List UInt8):Nat:=4294967295-kE 4294967295 l
theorem jP(l:List UInt8):da l<4294967296:=by unfold da;omega
def gP(n:Nat):List UInt8:=[UInt8.ofNat n,UInt8.ofNat (n/256),UInt8.ofNat (n/65536),UInt8.ofNat (n/16777216)]
def r5:Nat→Nat→Nat
 |0,n=>n
 |k+1,n=>r5 k n/256
def ED(k n:Nat):List UInt8:=(List.range k).map fun i=>UInt8.ofNat (r5 i n)
theorem zS(k n:Nat):ED (k+1) n=ED k n++[UInt8.ofNat (r5 k n)]:=by simp[ED,List.range_succ]
theorem zp(n:Nat):ED 4 n=gP n:=by
 simp only[ED,List.range_succ,List.range_zero,List.nil_append,List.cons_append,List.map_cons,List.map_nil,r5,gP,Nat.div_div_eq_div_mul]
theorem w6{n b:Nat}(h:n<b):∀k,r5 k n<b
 |0=>h
 |k+1=>by have:=w6 h k;simp only[r5];omega
theorem fB(n:Nat):(gP n).length=4:=rfl
def Bv(l:List UInt8):List UInt8:=l++gP (da l)
theorem x6(x:Nat)(h:x<4294967296):(x/2) ^^^ (2197175160*(x % 2))=nr x:=by
 unfold nr
 split
 ·rename_i h1;rw[h1]
 ·rename_i h1
  have:x % 2=0:=by omega
  rw[this];simp
theorem ij(n:Nat):IntKind.u8.wrap (n:Int)=((UInt8.ofNat n).toNat:Int):=by
 simp[IntKind.wrap,IntKind.signed,IntKind.bits]
theorem Hw(x:Nat)(h:x<4294967296):bits .and .u32 (x:Int) 1=((x % 2:Nat):Int):=by
 have:=u32_and_nat x 1 h (by decide)
 rw[Nat.and_one_is_mod]at this
 exact this
theorem AN(x:Nat)(h:x<4294967296):bits .xor .u32 ((x:Int)/2) (2197175160*((x % 2:Nat):Int))=((nr x:Nat):Int):=by
 have h2:x % 2=0∨x % 2=1:=by omega
 have h3:2197175160*(x % 2)<4294967296:=by rcases h2 with h2|h2 <;> rw[h2] <;> decide
 have:=u32_xor_nat (x/2) (2197175160*(x % 2)) (by omega) h3
 rw[x6 x h]at this
 rw[←this]
 congr 1
theorem tp(x:Nat)(h:x<4294967296)(b:UInt8):bits .xor .u32 (x:Int) (b.toNat:Int)=((x ^^^ b.toNat:Nat):Int):=u32_xor_nat x b.toNat h (by have:=b.toNat_lt;omega)
theorem Ac(x:Nat)(h:x<4294967296):bits .xor .u32 ((x:Int)/2) 2197175160=(((x/2) ^^^ 2197175160:Nat):Int):=u32_xor_nat (x/2) 2197175160 (by omega) (by decide)
theorem oe{x:Nat}(h:x<4294967296)(b:UInt8):x ^^^ b.toNat<4294967296:=Nat.xor_lt_two_pow (n:=32) h (by have:=b.toNat_lt;omega)
end Go.Hx
end
section
namespace Go.Hx
open Go.Eng
def ko:List UInt8:=[48,49,50,51,52,53,54,55,56,57,97,98,99,100,101,102]
def pH(b:UInt8):List UInt8:=[ko.getD (b.toNat/16) 0,ko.getD (b.toNat % 16) 0]
def cd(l:List UInt8):List UInt8:=l.flatMap pH
theorem dS(l:List UInt8):(cd l).length=2*l.length:=by
 induction l with
 |nil=>rfl
 |cons a r ih=>simp only[cd,List.flatMap_cons,List.length_append,List.length_cons]at ih ⊢;rw[ih];simp[pH];omega
theorem tJ(l m:List UInt8):cd (l++m)=cd l++cd m:=by simp[cd]
theorem dY{l:List UInt8}{k:Nat}(h:k<l.length):l.take (k+1)=l.take k++[l.getD k 0]:=by
 rw[List.take_succ_eq_append_getElem h];simp[List.getD,List.getElem?_eq_getElem h]
theorem rD{l:List UInt8}{k:Nat}(h:k<l.length):cd (l.take (k+1))=cd (l.take k)++pH (l.getD k 0):=by
 rw[dY h,tJ];simp[cd]
theorem tW(j:Nat)(h:j<16):((bytesOf ⟨#[48,49,50,51,52,53,54,55,56,57,97,98,99,100,101,102]⟩).take (j+1)).drop j=[ko.getD j 0]:=by
 revert j;decide
theorem xC{l:List UInt8}{k:Nat}(h:k<l.length):strOf (cd (l.take k))++strOf (((bytesOf ⟨#[48,49,50,51,52,53,54,55,56,57,97,98,99,100,101,102]⟩).take ((l.getD k 0).toNat/16+1)).drop ((l.getD k 0).toNat/16))++
  strOf (((bytesOf ⟨#[48,49,50,51,52,53,54,55,56,57,97,98,99,100,101,102]⟩).take ((l.getD k 0).toNat % 16+1)).drop ((l.getD k 0).toNat % 16))=strOf (cd (l.take (k+1))):=by
 have hb:=(l.getD k 0).toNat_lt
 rw[tW _ (by omega),tW _ (by omega),dC,dC,rD h]
 simp[pH]
theorem xh(i:Int)(h0:0≤i)(h:i<16):(#[48,49,50,51,52,53,54,55,56,57,97,98,99,100,101,102]:Array UInt8)[i.toNat]? =some (ko.getD i.toNat 0):=by
 have:i.toNat<16:=by omega
 generalize i.toNat=j at this
 revert j
 decide
theorem Cc(x:UInt8):(#[48,49,50,51,52,53,54,55,56,57,97,98,99,100,101,102]:Array UInt8)[((x.toNat:Int)/16).toNat]? =some (ko.getD (x.toNat/16) 0):=by
 have h:=x.toNat_lt
 rw[xh _ (by omega) (by omega)]
 rfl
theorem BF(x:UInt8):(#[48,49,50,51,52,53,54,55,56,57,97,98,99,100,101,102]:Array UInt8)[((x.toNat % 16:Nat):Int).toNat]? =some (ko.getD (x.toNat % 16) 0):=by
 rw[xh _ (by omega) (by omega)]
 rfl
theorem F6(x:UInt8):bits .and .u8 (x.toNat:Int) 15=((x.toNat % 16:Nat):Int):=by
 have:=u8_and_nat x.toNat 15 (by have:=x.toNat_lt;omega) (by decide)
 rw[show((15:Nat):Int)=15 from rfl]at this
 rw[this]
 congr 1
 exact Nat.and_two_pow_sub_one_eq_mod x.toNat 4
end Go.Hx
end
section
namespace Go.Hx
open Go.Eng
def im(c:UInt8):Int:=if 48≤c.toNat∧c.toNat≤57 then(c.toNat:Int)-48 else if 97≤c.toNat∧c.toNat≤102 then(c.toNat:Int)-87 else-1
theorem iG(c:UInt8):-1≤im c∧im c≤15:=by unfold im;split <;> (try split) <;> omega
def unhex:List UInt8→Option (List UInt8)
 | []=>some []
 | [_]=>none
 |a::b::r=>if im a<0∨im b<0 then none else(unhex r).map (UInt8.ofNat (16*(im a).toNat+(im b).toNat)::·)
theorem my:∀(l:List UInt8) (n:Nat) (a b:UInt8) (x:List UInt8),l.length=2*n→unhex l=some x→unhex (l++[a,b])=if im a<0∨im b<0 then none else some (x++[UInt8.ofNat (16*(im a).toNat+(im b).toNat)])
 | [],n,a,b,x,_,h=>by
  simp only[unhex,Option.some.injEq]at h
  subst h
  simp[unhex]
 | [c],n,a,b,x,hl,h=>by simp at hl;omega
 |c::d::r,n,a,b,x,hl,h=>by
  simp only[unhex]at h
  simp only[List.cons_append,unhex]
  split at h
  ·cases h
  ·rename_i hcd
   rw[if_neg hcd]
   simp only[Option.map_eq_some_iff]at h
   obtain⟨y,hy,rfl⟩:=h
   rw[my r (n-1) a b y (by simp at hl;omega) hy]
   split <;> simp
theorem fX:∀(l m:List UInt8) (n:Nat),l.length=2*n→unhex l=none→unhex (l++m)=none
 | [],m,n,_,h=>by simp[unhex]at h
 | [c],m,n,hl,h=>by simp at hl;omega
 |c::d::r,m,n,hl,h=>by
  simp only[unhex]at h
  simp only[List.cons_append,unhex]
  split at h
  ·rename_i hcd;rw[if_pos hcd]
  ·rename_i hcd
   rw[if_neg hcd]
   simp only[Option.map_eq_none_iff]at h
   rw[fX r m (n-1) (by simp at hl;omega) h]
   rfl
theorem nP:∀(l:List UInt8),l.length % 2=1→unhex l=none
 | [],h=>by simp at h
 | [_],_=>rfl
 |a::b::r,h=>by
  simp only[unhex]
  split
  ·rfl
  ·rw[nP r (by simp at h;omega)];rfl
theorem fQ:∀(l x:List UInt8),unhex l=some x→l.length=2*x.length
 | [],x,h=>by simp[unhex]at h;subst h;rfl
 | [_],x,h=>by simp[unhex]at h
 |a::b::r,x,h=>by
  simp only[unhex]at h
  split at h
  ·cases h
  ·simp only[Option.map_eq_some_iff]at h
   obtain⟨y,hy,rfl⟩:=h
   have:=fQ r y hy
   simp;omega
theorem uT(k:Nat)(h:k<16):im (ko.getD k 0)=k:=by
 revert k;decide
theorem j9:∀(l:List UInt8),unhex (cd l)=some l
 | []=>rfl
 |a::r=>by
  have ih:=j9 r
  have ha:=a.toNat_lt
  have h1:=uT (a.toNat/16) (by omega)
  have h2:=uT (a.toNat % 16) (by omega)
  have e:cd (a::r)=ko.getD (a.toNat/16) 0::ko.getD (a.toNat % 16) 0::cd r:=by simp[cd,pH]
  rw[e,unhex,h1,h2,if_neg (by omega),ih]
  simp only[Option.map_some,Int.toNat_natCast]
  congr 2
  have e2:16*(a.toNat/16)+a.toNat % 16=a.toNat:=by omega
  rw[e2]
  simp
theorem Ah(a b:UInt8)(ha:0≤im a)(hb:0≤im b):16*im a+im b=((UInt8.ofNat (16*(im a).toNat+(im b).toNat)).toNat:Int):=by
 have h1:=iG a
 have h2:=iG b
 rw[UInt8.toNat_ofNat',Nat.mod_eq_of_lt (by omega)]
 omega
theorem ud{l:List UInt8}{k:Nat}(h:2*k+1<l.length):l.take (2*(k+1))=l.take (2*k)++[l.getD (2*k) 0,l.getD (2*k+1) 0]:=by
 have e:2*(k+1)=2*k+1+1:=by omega
 rw[e,dY h,dY (by omega)]
 simp
theorem Bk{l m:List UInt8}(h:cd l=cd m):l=m:=by
 have:=j9 l
 rw[h,j9 m]at this
 simpa using this.symm
theorem qg(c:UInt8):Lib.indexByte ko c=im c:=by
 have h:∀n,n<256→Lib.indexByte ko (UInt8.ofNat n)=im (UInt8.ofNat n):=by decide+kernel
 have:=h c.toNat c.toNat_lt
 rwa [UInt8.ofNat_toNat]at this
theorem FF(a b:Int)(ha:0≤a)(ha' :a<16)(hb:0≤b)(hb' :b<16):bits .or .i64 (a*16) b=16*a+b:=by
 have h:∀n,n<16→∀m,m<16→bits .or .i64 (((n:Nat):Int)*16) ((m:Nat):Int)=16*((n:Nat):Int)+((m:Nat):Int):=by decide+kernel
 have:=h a.toNat (by omega) b.toNat (by omega)
 rwa [Int.toNat_of_nonneg ha,Int.toNat_of_nonneg hb]at this
end Go.Hx
end
section
set_option maxRecDepth 20000
namespace Go.Proofs.YtmibdabdlgmafaaGreatDoor
open Go.Eng Go.Hx
theorem CS(g:Nat)(bt:TypeId)(x:Nat)(hx:x<4294967296)(w:World)(hb:fi w g bt [.int .u32 (x:Int)]):
  Calls Tryz.prog 298 #[.pointer (some ⟨g,0,none⟩)] w fun e w' =>e= .returned (.tuple #[])∧Fr (fun i=>i=g) w w' ∧fi w' g bt [.int .u32 (nr x:Nat)]:=by
 have hc:w.cell? ⟨g,0,none⟩=some (.int .u32 (x:Int)):=hb.cell rfl
 have h3:(0:Int)≤2197175160*((x % 2:Nat):Int)∧2197175160*((x % 2:Nat):Int)<4294967296:=by omega
 refine enter (N:=9) Tryz.func298 rfl rfl (by simp) ?_
 refine aV<|bd<|nq (aw rfl bY hc)<|nq (ib (by simp) rfl rfl (Hw x hx))<|nq (ab rfl)<|bc<|bE (ae (t:=1) rfl<|ae (t:=0) rfl<|aC)<|aF<|bd<|nq (aw rfl bY hc)<|nq (oB (p:=2) rfl rfl (by decide) (by decide) (by decide))<|nq (aa rfl)<|nq (fN rfl rfl (wq h3.1 h3.2))<|nq (ib (by simp) rfl rfl (AN x hx))<| ?_
 refine Bz (xe rfl rfl bQ rfl hb (by simp) fun w1 hf1 hb1 hs1=> ?_)
 refine bc<|bE (ae (t:=1) rfl<|ae (t:=0) rfl<|aC)<| ?_
 exact F8 trivial rfl ⟨rfl,hf1,hb1⟩
theorem AZ(x n:Nat)(hx:x<4294967296)(hn:n≤1000000)(w:World):
  Calls Tryz.prog 273 #[.int .u32 (x:Int),.int .i64 (n:Int)] w fun e w' =>e= .returned (.int .u32 (gx n x:Nat))∧Fr No w w' :=by
 refine enter (N:=14) Tryz.func273 rfl rfl (by simp) ?_
 refine aV<|bd<| ?_
 refine nx (pZ rfl fun g w1 hg hf1 hb1=> ?_)
 refine nq (ab rfl)<|bc<|aF<|aV<|bd<|nq (iP rfl rfl)<|nq (ab rfl)<|bc<|bE (ae (t:=5) rfl<|ae (t:=4) rfl<|ae (t:=2) rfl<|ae (t:=0) rfl<|ae (t:=1) rfl<|aC)<|aF<|aV<|aV<|bd<|nq (aa rfl)<|nq (aa rfl)<|bc<|aF<|cZ<| ?_
 refine kZ (fun k=>n-k) (fun k=>[(2,.pointer (some ⟨g,0,none⟩)),(5,.func (.func 298) #[] #[.pointer (some ⟨g,0,none⟩)]),(7,.int .i64 (n:Int)),(8,.int .i64 (k:Nat))]) (fun k w' =>k≤n∧Fr No w w' ∧fi w' g 166 [.int .u32 (gx k x:Nat)]) 0 (⟨Nat.zero_le _,hf1,hb1⟩) (ae (t:=2) rfl<|ae (t:=5) rfl<|ae (t:=7) rfl<|ae (t:=8) rfl<|aC) (fun k w2 ⟨hk,hf2,hb2⟩=> ?_)
 refine aV<|bd<|nq (bw rfl rfl)<|bc<|aF<|aV<| ?_
 refine nI rfl (fun h=> ?_) (fun h=> ?_)
 ·refine dN<|aF<|aV<|cZ<|bd<|nq (aa rfl)<| ?_
  refine nx (wV rfl rfl Tryz.call298 (first:=[]) (cap:=[_]) (CS g _ _ (lx hx k) _ hb2) ?_)
  rintro e_ w3 ⟨rfl,hf3,hb3⟩
  refine⟨_,rfl, ?_⟩
  refine bc<|bE (ae (t:=9) rfl<|ae (t:=2) rfl<|ae (t:=5) rfl<|ae (t:=7) rfl<|ae (t:=8) rfl<|aC)<|fq<|aF<|bd<|nq (aN rfl rfl (bF (by omega) (by omega)))<|nq (aa rfl)<|bc<|bE (ae (t:=8) rfl<|ae (t:=9) rfl<|ae (t:=2) rfl<|ae (t:=5) rfl<|ae (t:=7) rfl<|aC)<| ?_
  refine ll (k+1) (ae (t:=2) rfl<|ae (t:=5) rfl<|ae (t:=7) rfl<|ae (t:=8) rfl<|aC) (⟨by omega,hf2.new hf3 (fun i hi=>by omega),hb3⟩) (by omega)
 ·obtain rfl:k=n:=by omega
  refine jf<|bS<|bS<|cU<|aF<|aV<|bd<|nq (aw rfl bY ((hb2.cell rfl)))<|nq (ab rfl)<|bc<|bE (ae (t:=4) rfl<|ae (t:=9) rfl<|ae (t:=2) rfl<|ae (t:=5) rfl<|ae (t:=7) rfl<|ae (t:=8) rfl<|aC)<|aF<|dP<| ?_
  exact ff trivial rfl rfl ⟨rfl,hf2⟩
theorem Ck(A:Option Addr)(n c:Nat)(l:List UInt8)(s:Nat)(hs:s<4294967296)(w:World)(hr:Rd w 1 A n (aW l))(hn:n≤140737488351232):
  Calls Tryz.prog 232 #[.int .u32 (s:Int),.slice A n c] w fun e w' =>e= .returned (.int .u32 (4294967295-kE (4294967295-s) l:Nat))∧Fr No w w' :=by
 have hl:l.length=n:=by have:=hr.1;rw[az]at this;omega
 refine enter (N:=25) Tryz.func232 rfl rfl (by simp) ?_
 refine aV<|bd<|nq (ab rfl)<|bc<|aF<|aV<|bd<|nq (aa rfl)<|nq (yV (sv rfl hs) (congrArg (fun n:Nat=>Value.int .u32 (n:Int)) (uf hs)))<|nq (ab rfl)<|bc<|bE (ae (t:=5) rfl<|ae (t:=4) rfl<|ae (t:=0) rfl<|ae (t:=1) rfl<|aC)<|aF<|aV<|aV<|bd<|nq (aa rfl)<|nq (aT rfl Tryz.underlying27)<|nq (aa rfl)<|bc<|bE (ae (t:=11) rfl<|ae (t:=10) rfl<|ae (t:=5) rfl<|ae (t:=4) rfl<|ae (t:=0) rfl<|ae (t:=1) rfl<|aC)<|aF<|cZ<| ?_
 refine kZ (fun k=>n-k) (fun k=>[(1,.slice A n c),(5,.int .u32 (kE (4294967295-s) (l.take k):Nat)),(10,.int .i64 (n:Int)),(11,.int .i64 (k:Nat))]) (fun k w' =>k≤n∧Fr No w w') 0 (⟨Nat.zero_le _,Fr.refl _ _⟩) (ae (t:=1) rfl<|ae (t:=5) rfl<|ae (t:=10) rfl<|ae (t:=11) rfl<|aC) (fun k w2 ⟨hk,hf2⟩=> ?_)
 refine aV<|bd<|nq (bw rfl rfl)<|bc<|aF<|aV<| ?_
 refine nI rfl (fun h=> ?_) (fun h=> ?_)
 ·have hkn:k<l.length:=by omega
  have hm:=mL (n:=4294967295-s) (by omega) (l.take k)
  have hbt:=(l.getD k 0).toNat_lt
  have r2:=hr.nv hf2
  refine dN<|aF<|aV<|cZ<|aV<|bd<|nq (aa rfl)<|nq (ab rfl)<|bc<|bE (ae (t:=6) rfl<|ae (t:=12) rfl<|ae (t:=1) rfl<|ae (t:=5) rfl<|ae (t:=10) rfl<|ae (t:=11) rfl<|aC)<|aF<|bd<|nq (aa rfl)<|nq (aa rfl)<|nq (aa rfl)<|nq (aS rfl rfl Tryz.underlying27 dZ r2.2.1 rfl (by omega))<|nq (aw rfl jc (r2.cell (bM hkn)))<|nq (bX rfl Tryz.underlying5 Tryz.underlying166 ((wq (by omega) (by omega))))<|nq (ib (by simp) rfl rfl (tp _ hm _))<| ?_
  refine nx (ep rfl Tryz.call273 (AZ _ 8 (oe hm _) (by decide) _) ?_)
  rintro e_ w3 ⟨rfl,hf3⟩
  refine⟨_,rfl, ?_⟩
  rw[←qs,←Go.Hx.dY hkn]
  refine nq (ab rfl)<|bc<|bE (ae (t:=5) rfl<|ae (t:=6) rfl<|ae (t:=12) rfl<|ae (t:=1) rfl<|ae (t:=10) rfl<|ae (t:=11) rfl<|aC)<|fq<|aF<|bd<|nq (aN rfl rfl (bF (by omega) (by omega)))<|nq (aa rfl)<|bc<|bE (ae (t:=11) rfl<|ae (t:=5) rfl<|ae (t:=6) rfl<|ae (t:=12) rfl<|ae (t:=1) rfl<|ae (t:=10) rfl<|aC)<| ?_
  refine ll (k+1) (ae (t:=1) rfl<|ae (t:=5) rfl<|ae (t:=10) rfl<|ae (t:=11) rfl<|aC) (⟨by omega,hf2.cz hf3⟩) (by omega)
 ·obtain rfl:k=n:=by omega
  have hm:=mL (n:=4294967295-s) (by omega) (l.take k)
  refine jf<|bS<|bS<|cU<|aF<|aV<|bd<|nq (aa rfl)<|nq (sv rfl hm)<|nq (ab rfl)<|bc<|bE (ae (t:=4) rfl<|ae (t:=12) rfl<|ae (t:=1) rfl<|ae (t:=5) rfl<|ae (t:=10) rfl<|ae (t:=11) rfl<|aC)<|aF<|dP<| ?_
  rw[List.take_of_length_le (by omega)]at hm ⊢
  rw[uf hm]
  exact ff trivial rfl rfl ⟨rfl,hf2⟩
theorem Bh(A:Option Addr)(n c:Nat)(l:List UInt8)(w:World)(hr:Rd w 1 A n (aW l))(hn:n≤140737488351232):
  Calls Tryz.prog 180 #[.slice A n c] w fun e w' =>e= .returned (.int .u32 (da l:Nat))∧Fr No w w' :=by
 refine enter (N:=5) Tryz.func180 rfl rfl (by simp) ?_
 refine aV<|bd<|nq (ab rfl)<|bc<|aF<|aV<|bd<|nq (aa rfl)<| ?_
 refine nx (ep rfl Tryz.call232 (Ck A n c l 0 (by decide) w hr hn) ?_)
 rintro e_ w1 ⟨rfl,hf1⟩
 refine⟨_,rfl, ?_⟩
 refine nq (ab rfl)<|bc<|bE (ae (t:=2) rfl<|ae (t:=0) rfl<|aC)<|aF<|dP<| ?_
 exact ff trivial rfl rfl ⟨rfl,hf1⟩
theorem clone(A:Option Addr)(n c:Nat)(l:List UInt8)(w:World)(hr:Rd w 1 A n (aW l))(hn:n≤140737488351232):
  Calls Tryz.prog 117 #[.slice A n c] w fun e w' =>∃v,e= .returned v∧Go.Eng.Own w' w.heap.size 5 1 v n (aW l)∧Fr No w w' :=by
 have hl:l.length=n:=by have:=hr.1;rw[az]at this;omega
 refine enter (N:=8) Tryz.func117 rfl rfl (by simp) ?_
 refine aV<|bd<|nq (ab rfl)<|bc<|aF<|aV<|aV<|bd<|nq (aa rfl)<|nq (EW rfl rfl Tryz.underlying27)<|bc<|bE (ae (t:=4) rfl<|ae (t:=2) rfl<|ae (t:=0) rfl<|aC)<|aF<| ?_
 cases A with
 |none=>
  have h0:n=0:=by
   rcases Nat.eq_zero_or_pos n with h|h
   ·exact h
   ·exact absurd rfl (hr.2.1 h)
  subst h0
  obtain rfl:l=[]:=List.eq_nil_of_length_eq_zero hl
  refine xN rfl (rfl) ?_
  refine aV<|bd<|nq (ab rfl)<|bc<|aF<|dP<|bG<| ?_
  exact ff trivial rfl rfl ⟨_,rfl,Own.nil _ _ _ _,Fr.refl _ _⟩
 |some a=>
  refine qG rfl (rfl) ?_
  refine dN<|aF<|aV<|bd<| ?_
  refine nx (Ek Tryz.underlying27 fk fun g w1 hg hf1 hb1=> ?_)
  refine nq (aa rfl)<| ?_
  refine nx (kY rfl rfl Tryz.underlying27 Tryz.underlying27 (by exact .inl rfl) fk rfl (Own.GS hb1 hg) (Src.bR (hr.nv hf1)) gU (by unfold maxLen;omega) (by omega) hf1.size fun v w2 ho hf2 hv=> ?_)
  refine nq (ab rfl)<|bc<|bE (ae (t:=2) rfl<|ae (t:=4) rfl<|ae (t:=0) rfl<|aC)<|aF<|dP<| ?_
  refine ff trivial rfl rfl ⟨v,rfl, ?_,hf1.new hf2 (fun i hi=>by have:i=g:=hi;omega)⟩
  simpa using ho
theorem y7(A:Option Addr)(n c:Nat)(l:List UInt8)(s:Nat)(hs:s<4294967296)(w:World)(hr:Rd w 1 A n (aW l))(hn:n≤140737488351232):
  Calls Tryz.prog 243 #[.int .u32 (s:Int),.slice A n c] w fun e w' =>e= .returned (.int .u32 (4294967295-kE (4294967295-s) l:Nat))∧w=w' :=by
 have hl:l.length=n:=by have:=hr.1;rw[az]at this;omega
 refine enter (N:=37) Tryz.func243 rfl rfl (by simp) ?_
 refine aV<|bd<|nq (ab rfl)<|bc<|aF<|aV<|bd<|nq (aa rfl)<|nq (cp rfl rfl ((show IntKind.u32.wrap (4294967295-(s:Int))=((4294967295-s:Nat):Int) by rw[wq (by omega) (by omega)];omega)))<|nq (ab rfl)<|bc<|bE (ae (t:=5) rfl<|ae (t:=4) rfl<|ae (t:=0) rfl<|ae (t:=1) rfl<|aC)<|aF<|aV<|aV<|bd<|nq (ab rfl)<|bc<|aF<|cZ<| ?_
 refine kZ (fun k=>n-k) (fun k=>[(1,.slice A n c),(5,.int .u32 (kE (4294967295-s) (l.take k):Nat)),(6,.int .i64 (k:Nat))]) (fun k w' =>k≤n∧w=w') 0 (⟨Nat.zero_le _,rfl⟩) (ae (t:=1) rfl<|ae (t:=5) rfl<|ae (t:=6) rfl<|aC) (fun k w2 ⟨hk,hw⟩=> ?_)
 obtain rfl:=hw
 refine aV<|aV<|bd<|nq (aa rfl)<|nq (aa rfl)<|nq (aT rfl Tryz.underlying27)<|nq (bw rfl rfl)<|bc<|bE (ae (t:=13) rfl<|ae (t:=1) rfl<|ae (t:=5) rfl<|ae (t:=6) rfl<|aC)<|aF<| ?_
 refine nI rfl (fun h=> ?_) (fun h=> ?_)
 ·have hkn:k<l.length:=by omega
  have hm:=mL (n:=4294967295-s) (by omega) (l.take k)
  have hbt:=(l.getD k 0).toNat_lt
  have hx:=oe hm (l.getD k 0)
  refine dN<|aF<|aV<|cZ<|aV<|bd<|nq (aa rfl)<|nq (aa rfl)<|nq (aa rfl)<|nq (aS rfl rfl Tryz.underlying27 dZ hr.2.1 rfl (by omega))<|nq (aw rfl jc (hr.cell (bM hkn)))<|nq (bX rfl Tryz.underlying5 Tryz.underlying166 ((wq (by omega) (by omega))))<|nq (ib (by simp) rfl rfl (tp _ hm _))<|nq (ab rfl)<|bc<|bE (ae (t:=5) rfl<|ae (t:=13) rfl<|ae (t:=1) rfl<|ae (t:=6) rfl<|aC)<|aF<|aV<|bd<|nq (ab rfl)<|bc<|aF<|cZ<| ?_
  generalize hX:kE (4294967295-s) (l.take k) ^^^ (l.getD k 0).toNat=X at hx
  refine kZ (fun q=>8-q) (fun q=>[(1,.slice A n c),(5,.int .u32 (gx q X:Nat)),(6,.int .i64 (k:Nat)),(7,.int .i64 (q:Nat))]) (fun q w' =>q≤8∧w=w') 0 (⟨Nat.zero_le _,rfl⟩) (ae (t:=1) rfl<|ae (t:=5) rfl<|ae (t:=6) rfl<|ae (t:=7) rfl<|aC) (fun q w3 ⟨hq,hw⟩=> ?_)
  obtain rfl:=hw
  have hc:=lx hx q
  refine aV<|aV<|bd<|nq (aa rfl)<|nq (bw rfl rfl)<|bc<|bE (ae (t:=24) rfl<|ae (t:=1) rfl<|ae (t:=5) rfl<|ae (t:=6) rfl<|ae (t:=7) rfl<|aC)<|aF<| ?_
  refine nI rfl (fun h2=> ?_) (fun h2=> ?_)
  ·refine dN<|aF<|aV<|cZ<|aV<|bd<|nq (aa rfl)<|nq (gN rfl rfl (by omega) (by omega))<|nq (cM rfl rfl)<|bc<|bE (ae (t:=29) rfl<|ae (t:=24) rfl<|ae (t:=1) rfl<|ae (t:=5) rfl<|ae (t:=6) rfl<|ae (t:=7) rfl<|aC)<|aF<| ?_
   refine nI rfl (fun h3=> ?_) (fun h3=> ?_)
   ·refine bd<|nq (aa rfl)<|nq (jV rfl rfl (by omega) (by omega) (wq (by omega) (by omega)))<|nq (ib (by simp) rfl rfl (Ac _ hc))<|nq (ab rfl)<|bc<|bE (ae (t:=5) rfl<|ae (t:=29) rfl<|ae (t:=24) rfl<|ae (t:=1) rfl<|ae (t:=6) rfl<|ae (t:=7) rfl<|aC)<|fq<|aF<|bd<|nq (aa rfl)<|nq (aN rfl rfl (bF (by omega) (by omega)))<|nq (ab rfl)<|bc<|bE (ae (t:=7) rfl<|ae (t:=5) rfl<|ae (t:=29) rfl<|ae (t:=24) rfl<|ae (t:=1) rfl<|ae (t:=6) rfl<|aC)<| ?_
    rw[show gx q X/2 ^^^ 2197175160=gx (q+1) X by rw[gx,nr,if_pos (by omega)]]
    refine ll (q+1) (ae (t:=1) rfl<|ae (t:=5) rfl<|ae (t:=6) rfl<|ae (t:=7) rfl<|aC) (⟨by omega,rfl⟩) (by omega)
   ·refine bd<|nq (aa rfl)<|nq (jV rfl rfl (by omega) (by omega) (wq (by omega) (by omega)))<|nq (ab rfl)<|bc<|bE (ae (t:=5) rfl<|ae (t:=29) rfl<|ae (t:=24) rfl<|ae (t:=1) rfl<|ae (t:=6) rfl<|ae (t:=7) rfl<|aC)<|fq<|aF<|bd<|nq (aa rfl)<|nq (aN rfl rfl (bF (by omega) (by omega)))<|nq (ab rfl)<|bc<|bE (ae (t:=7) rfl<|ae (t:=5) rfl<|ae (t:=29) rfl<|ae (t:=24) rfl<|ae (t:=1) rfl<|ae (t:=6) rfl<|aC)<| ?_
    rw[show(gx q X:Int)/2=((gx (q+1) X:Nat):Int) by rw[gx,nr,if_neg (by omega)];omega]
    refine ll (q+1) (ae (t:=1) rfl<|ae (t:=5) rfl<|ae (t:=6) rfl<|ae (t:=7) rfl<|aC) (⟨by omega,rfl⟩) (by omega)
  ·obtain rfl:q=8:=by omega
   refine jf<|bS<|bS<|cU<|fq<|aF<|bd<|nq (aa rfl)<|nq (aN rfl rfl (bF (by omega) (by omega)))<|nq (ab rfl)<|bc<|bE (ae (t:=6) rfl<|ae (t:=24) rfl<|ae (t:=1) rfl<|ae (t:=5) rfl<|ae (t:=7) rfl<|aC)<| ?_
   rw[←hX,←qs,←Go.Hx.dY hkn]
   refine ll (k+1) (ae (t:=1) rfl<|ae (t:=5) rfl<|ae (t:=6) rfl<|aC) (⟨by omega,rfl⟩) (by omega)
 ·obtain rfl:k=n:=by omega
  have hm:=mL (n:=4294967295-s) (by omega) (l.take k)
  refine jf<|bS<|bS<|cU<|aF<|aV<|bd<|nq (aa rfl)<|nq (cp rfl rfl ((show IntKind.u32.wrap (4294967295-((kE (4294967295-s) (l.take k):Nat):Int))=((4294967295-kE (4294967295-s) (l.take k):Nat):Int) by rw[wq (by omega) (by omega)];omega)))<|nq (ab rfl)<|bc<|bE (ae (t:=4) rfl<|ae (t:=13) rfl<|ae (t:=1) rfl<|ae (t:=5) rfl<|ae (t:=6) rfl<|aC)<|aF<|dP<| ?_
  rw[List.take_of_length_le (by omega)]
  exact ff trivial rfl rfl ⟨rfl,rfl⟩
theorem Df(A:Option Addr)(n c:Nat)(l:List UInt8)(w:World)(hr:Rd w 1 A n (aW l))(hn:n≤70368744177664):
  Calls Tryz.prog 189 #[.slice A n c] w fun e w' =>∃v,e= .returned v∧Go.Eng.Own w' w.heap.size 5 1 v (n+4) (aW (Bv l))∧Fr No w w' :=by
 have hl:l.length=n:=by have:=hr.1;rw[az]at this;omega
 refine enter (N:=24) Tryz.func189 rfl rfl (by simp) ?_
 refine aV<|bd<|nq (ab rfl)<|bc<|aF<|aV<|bd<|nq (aa rfl)<| ?_
 refine nx (ep rfl Tryz.call243 (y7 A n c l 0 (by decide) w hr (by omega)) ?_)
 rintro e_ w1 ⟨rfl,rfl⟩
 refine⟨_,rfl, ?_⟩
 refine nq (ab rfl)<|bc<|bE (ae (t:=3) rfl<|ae (t:=2) rfl<|ae (t:=0) rfl<|aC)<|aF<|aV<|bd<|nq (ab rfl)<|bc<|aF<|aV<|bd<|nq (aa rfl)<|nq (aa rfl)<| ?_
 refine nx (kY rfl rfl Tryz.underlying27 Tryz.underlying27 (by exact .inl rfl) fk rfl (Own.nil w w.heap.size _ 1) (Src.bR hr) gU (by unfold maxLen;omega) (by omega) (Nat.le_refl _) fun v w2 hv hf2 hvv=> ?_)
 have hlt:=jP l
 have f2:Fr No w w2:=hf2.mono (fun _ _ e=>e.elim)
 refine nq (ab rfl)<|bc<|bE (ae (t:=4) rfl<|ae (t:=3) rfl<|ae (t:=2) rfl<|ae (t:=0) rfl<|aC)<|aF<|aV<|aV<|bd<|nq (ab rfl)<|bc<|aF<|cZ<| ?_
 refine sZ (fun k _=>4-k) (fun k v=>[(3,.int .u32 (r5 k (da l):Nat)),(4,v),(5,.int .i64 (k:Nat))]) (fun k v w' =>k≤4∧Go.Eng.Own w' w.heap.size 5 1 v (n+k) (aW (l++ED k (da l)))∧Fr No w w') 0 v (⟨Nat.zero_le _,by simpa[ED]using hv,f2⟩) (ae (t:=3) rfl<|ae (t:=4) rfl<|ae (t:=5) rfl<|aC) (fun k v w3 ⟨hk,ho,hf⟩=> ?_)
 refine aV<|aV<|bd<|nq (aa rfl)<|nq (bw rfl rfl)<|bc<|bE (ae (t:=12) rfl<|ae (t:=3) rfl<|ae (t:=4) rfl<|ae (t:=5) rfl<|aC)<|aF<| ?_
 refine nI rfl (fun h=> ?_) (fun h=> ?_)
 ·have hs8:=w6 hlt k
  refine dN<|aF<|aV<|cZ<|aV<|bd<|nq (aa rfl)<|nq (aa rfl)<|nq (gN rfl rfl (by omega) (by omega))<|nq (bX rfl Tryz.underlying166 Tryz.underlying5 ((show IntKind.u8.wrap (((r5 k (da l):Nat):Int) % 256)=((UInt8.ofNat (r5 k (da l))).toNat:Int) by simp[IntKind.wrap,IntKind.signed,IntKind.bits])))<| ?_
  refine nx (mQ Tryz.underlying27 fk rfl rfl rfl (by simp[Value.cells,B8]) (by decide) (by decide) fun g w4 hg hf4 hb4=> ?_)
  refine nx (kY rfl rfl Tryz.underlying27 Tryz.underlying27 (by exact .inl rfl) fk rfl (ho.nv hf4) (Src.gv hb4 rfl) (aY (l:=[_])) (by unfold maxLen;omega) (by omega) (hf.cz hf4).size fun v5 w5 ho5 hf5 hv5=> ?_)
  refine nq (ab rfl)<|bc<|bE (ae (t:=4) rfl<|ae (t:=12) rfl<|ae (t:=3) rfl<|ae (t:=5) rfl<|aC)<|aF<|bd<|nq (aa rfl)<|nq (jV rfl rfl (by omega) (by omega) (wq (by omega) (by omega)))<|nq (ab rfl)<|bc<|bE (ae (t:=3) rfl<|ae (t:=4) rfl<|ae (t:=12) rfl<|ae (t:=5) rfl<|aC)<|fq<|aF<|bd<|nq (aa rfl)<|nq (aN rfl rfl (bF (by omega) (by omega)))<|nq (ab rfl)<|bc<|bE (ae (t:=5) rfl<|ae (t:=3) rfl<|ae (t:=4) rfl<|ae (t:=12) rfl<|aC)<| ?_
  refine qc (k+1) v5 (ae (t:=3) rfl<|ae (t:=4) rfl<|ae (t:=5) rfl<|aC) (⟨by omega,by rw[zS,←List.append_assoc,bH];exact ho5,(hf.cz hf4).new hf5 (fun i hi=>(ho.from hi).1)⟩) (by omega)
 ·obtain rfl:k=4:=by omega
  refine jf<|bS<|bS<|cU<|aF<|aV<|bd<|nq (aa rfl)<|nq (ab rfl)<|bc<|bE (ae (t:=2) rfl<|ae (t:=12) rfl<|ae (t:=3) rfl<|ae (t:=4) rfl<|ae (t:=5) rfl<|aC)<|aF<|dP<| ?_
  rw[zp]at ho
  exact ff trivial rfl rfl ⟨v,rfl,ho,hf⟩
end Go.Proofs.YtmibdabdlgmafaaGreatDoor
end
section
set_option maxRecDepth 20000
namespace Go.Proofs.YtmibdabdlgmafaaGreatDoor
open Go.Eng Go.Hx
theorem vK(A:Option Addr)(n c:Nat)(l:List UInt8)(A' :Option Addr)(n' c' :Nat)(l' :List UInt8)(w:World)(hr:Rd w 1 A n (aW l))(hr' :Rd w 1 A' n' (aW l')):
  Calls Tryz.prog 215 #[.slice A n c,.slice A' n' c'] w fun e w' =>e= .returned (.bool (decide (l=l')))∧w=w' :=by
 refine enter (N:=10) Tryz.func215 rfl rfl (by simp) ?_
 refine aV<|bd<|nq (ab rfl)<|bc<|aF<|aV<|bd<|nq (aa rfl)<|nq (kF rfl Tryz.underlying27 Tryz.underlying5 Tryz.underlying9 hr)<|nq (aa rfl)<|nq (kF rfl Tryz.underlying27 Tryz.underlying5 Tryz.underlying9 hr')<|nq (rC rfl rfl)<|nq (ab rfl)<|bc<|bE (ae (t:=4) rfl<|ae (t:=0) rfl<|ae (t:=1) rfl<|aC)<|aF<|dP<| ?_
 refine ff trivial rfl rfl ⟨?_,rfl⟩
 simp only[cN]
end Go.Proofs.YtmibdabdlgmafaaGreatDoor
end
section
set_option maxRecDepth 20000
namespace Go.Proofs.YtmibdabdlgmafaaGreatDoor
open Go.Eng Go.Hx
theorem og{A A1:Option Addr}{n c n1 c1:Nat}{l l1:List UInt8}:cf Tryz.prog 215 [.slice A n c,.slice A1 n1 c1] [] [di 1 A n (aW l),di 1 A1 n1 (aW l1)] (fun v_ X_ S_=>v_=(.bool (decide (l=l1)))∧X_=[]∧S_=[]):=by
 exact fU fun m=>Calls.mono (vK A n c l A1 n1 c1 l1 _ (m.rd 0 rfl) (m.rd 1 rfl)) (fun e w' ⟨h,hw⟩=>⟨_,h,⟨rfl,rfl,rfl⟩,hw▸Fr.refl _ _⟩)
theorem sE{A:Option Addr}{n c:Nat}{l:List UInt8}(hn:n≤140737488351232):cf Tryz.prog 117 [.slice A n c] [] [di 1 A n (aW l)] (fun v_ X_ S_=>∃v,v_=v∧X_=[aH 5 1 v n (aW l)]∧S_=[]):=by
 exact kS fun m=>Calls.mono (clone A n c l _ (m.rd 0 rfl) hn) (fun e w' ⟨v,h,ho,hf⟩=>⟨v,v,_,_,_,_,h,⟨v,rfl,rfl,rfl⟩,ho,hf⟩)
end Go.Proofs.YtmibdabdlgmafaaGreatDoor
end
section
set_option maxRecDepth 20000
namespace Go.Proofs.YtmibdabdlgmafaaGreatDoor
open Go.Eng Go.Hx
def ey:bq:=di 1 (some ⟨1,0,none⟩) 64 (ez fP)
theorem El{n:Nat}(h0:0<n)(hn:n<32):IntKind.u64.wrap (-(n:Int))=((18446744073709551616-n:Nat):Int):=by
 simp[IntKind.wrap,IntKind.signed,IntKind.bits]
 omega
theorem Bc{n:Nat}(h0:0<n)(hn:n<32):bits .and .u64 ((18446744073709551616-n:Nat):Int) 31=((32-n:Nat):Int):=by
 have h:=u64_and_nat (18446744073709551616-n) 31 (by omega) (by decide)
 rw[show((31:Nat):Int)=31 from rfl]at h
 rw[h,show(31:Nat)=2 ^ 5-1 from rfl,Nat.and_two_pow_sub_one_eq_mod]
 congr 1
 show(18446744073709551616-n) % 32=32-n
 omega
theorem vO{x:UInt32}{n:Nat}(h0:0<n)(hn:n<32):cf Tryz.prog 296 [Wd x,.int .i64 (-(n:Int))] [] [] (fun v_ X_ S_=>v_=(Wd (kQ n x))∧X_=[]∧S_=[]):=by
 refine aP (N:=17) Tryz.func296 rfl rfl (by simp) fun b=> ?_
 have hs:IntKind.u64.wrap (32-((32-n:Nat):Int))=(n:Int):=by
  rw[show(32:Int)-((32-n:Nat):Int)=(n:Int) by omega]
  simp[IntKind.wrap,IntKind.signed,IntKind.bits]
  omega
 refine ah<|aj<|hy (fun _=>ab rfl)<|ai<|ag<|ah<|aj<|hy (fun _=>aa rfl)<|hy (fun _=>bX rfl Tryz.underlying3 Tryz.underlying263 (El h0 hn))<|hy (fun _=>ib (by simp) rfl rfl (Bc h0 hn))<|hy (fun _=>ab rfl)<|ai<|al (ρ' :=[(5,_),(4,_),(0,_),(1,_)]) ⟨rfl,rfl,rfl,rfl,trivial⟩<|ag<|ah<|aj<|hy (fun _=>aa rfl)<|hy (fun _=>aa rfl)<|hy (fun _=>(As (k:=32-n) (by omega) rfl rfl))<|hy (fun _=>aa rfl)<|hy (fun _=>aa rfl)<|hy (fun _=>cp rfl rfl hs)<|hy (fun _=>(Bp (k:=n) hn rfl rfl))<|hy (fun _=>yV (DH rfl rfl) ((show Wd (UInt32.ofNat (x.toNat*2 ^ (32-n)) ||| UInt32.ofNat (x.toNat/2 ^ n))=Wd (kQ n x) by rw[BK h0 hn])))<|hy (fun _=>ab rfl)<|ai<|al (ρ' :=[(4,_),(5,_),(0,_),(1,_)]) ⟨rfl,rfl,rfl,rfl,trivial⟩<|ag<|aX<| ?_
 exact bh trivial rfl rfl [] rfl [] rfl ⟨rfl,rfl,rfl⟩
theorem xj{x:UInt32}{n1 n2 n3:Nat}(h1:0<n1∧n1<32)(h2:0<n2∧n2<32)(h3:0<n3∧n3<32):cf Tryz.prog 269 [Wd x,.int .i64 (n1:Int),.int .i64 (n2:Int),.int .i64 (n3:Int)] [] [] (fun v_ X_ S_=>v_=(Wd (turns n1 n2 n3 x))∧X_=[]∧S_=[]):=by
 refine aP (N:=23) Tryz.func269 rfl rfl (by simp) fun b=> ?_
 refine ah<|aj<|hy (fun _=>ab rfl)<|ai<|ag<|ah<|aj<|hy (fun _=>aa rfl)<|hy (fun _=>aa rfl)<|hy (fun _=>xg rfl (bF (by omega) (by omega)))<| ?_
 refine hx (aq rfl Tryz.call296 (vO h1.1 h1.2 (n:=n1)) [] rfl [] rfl ?_)
 rintro _ _ _ ⟨rfl,rfl,rfl⟩
 refine hy (fun _=>aa rfl)<|hy (fun _=>aa rfl)<|hy (fun _=>xg rfl (bF (by omega) (by omega)))<| ?_
 refine hx (aq rfl Tryz.call296 (vO h2.1 h2.2 (n:=n2)) [] rfl [] rfl ?_)
 rintro _ _ _ ⟨rfl,rfl,rfl⟩
 refine hy (fun _=>ew rfl rfl)<|hy (fun _=>aa rfl)<|hy (fun _=>aa rfl)<|hy (fun _=>xg rfl (bF (by omega) (by omega)))<| ?_
 refine hx (aq rfl Tryz.call296 (vO h3.1 h3.2 (n:=n3)) [] rfl [] rfl ?_)
 rintro _ _ _ ⟨rfl,rfl,rfl⟩
 refine hy (fun _=>ew rfl rfl)<|hy (fun _=>ab rfl)<|ai<|al (ρ' :=[(8,_),(0,_),(1,_),(2,_),(3,_)]) ⟨rfl,rfl,rfl,rfl,rfl,trivial⟩<|ak (X' :=[]) (S' :=[]) (fun _ m=>m)<|ag<|aX<| ?_
 exact bh trivial rfl rfl [] rfl [] rfl ⟨rfl,rfl,rfl⟩
theorem mM{a:List UInt32}{i k n:Nat}(ha:a.length=i)(hk:k<i):(ez (a++List.replicate n 0))[k]? =some (Wd (a.getD k 0)):=by
 rw[bp (by simp;omega)]
 simp[List.getD,List.getElem?_append_left (show k<a.length by omega)]
theorem Ca{a r:List UInt32}{i:Nat}{x:UInt32}(ha:a.length=i):(ez (a++x::r))[i]? =some (Wd x):=by
 subst ha
 simp[ez]
theorem wg{a r:List UInt32}{i:Nat}{x y:UInt32}(ha:a.length=i):(ez (a++x::r)).set i (Wd y)=ez (a++y::r):=by
 subst ha
 simp[ez,List.set_append]
theorem wX{a r:List UInt32}{y:UInt32}:a++y::r=(a++[y])++r:=by simp
theorem Ea{A:Option Addr}{c:Nat}{l:List UInt8}(hc:64≤c):cf Tryz.prog 268 [.slice A 64 c] [] [di 1 A 64 (aW l)] (fun v_ X_ S_=>v_=(.agg (ez (wl l 64)).toArray)∧X_=[]∧S_=[]):=by
 refine aP (N:=75) Tryz.func268 rfl rfl (by simp) fun b=> ?_
 refine a6 (fun m=>ig (m.rd 0 rfl)) ?_
 rintro⟨hl_r,hA_r⟩
 have hl:l.length=64:=hl_r
 refine ah<|aj<| ?_
 refine hx (aM yP (fun g2=> ?_))
 refine ai<|ak (X' :=[_]) (S' :=[_]) (fun _ m=>m)<|ag<|ah<|aj<| ?_
 refine hx (aM yP (fun g3=> ?_))
 refine aQ (fun w m=>m.bN 0 rfl (show _=aL g3 354 (ez (wl l 0++List.replicate (64-0) 0))from rfl)) ?_
 refine ai<|ak (X' :=[_,_]) (S' :=[_]) (fun _ m=>m)<|ag<|ah<|ah<|aj<|hy (fun _=>aa rfl)<|ai<|ag<|aK<| ?_
 refine dH (fun i=>64-i) (fun i=>[(9,.int .i64 (i:Nat))]) (fun i=>[aL g3 354 (ez (wl l i++List.replicate (64-i) 0))]) (fun i=>[]) (fun i=>i≤64) 0 [(3,_),(2,_),(0,_)] ⟨rfl,rfl,rfl,trivial⟩ [0] rfl [] rfl (Nat.zero_le _) ⟨rfl,trivial⟩ (fun i hI=> ?_)
 have hwl:=fM l i
 refine ah<|aj<|hy (fun _=>bw rfl rfl)<|ai<|ag<|ah<| ?_
 refine cG rfl (fun h=> ?_) (fun h=> ?_)
 ·have hr64:(List.replicate (64-i) (0:UInt32))=0::List.replicate (63-i) 0:=by rw[show 64-i=(63-i)+1 by omega,List.replicate_succ]
  have hr63:(64-(i+1))=63-i:=by omega
  refine aB<|ag<|ah<|aK<|ah<|aj<|hy (fun _=>aa rfl)<|hy (fun _=>ab rfl)<|ai<|al (ρ' :=[(4,_),(10,_),(9,_),(3,_),(2,_),(0,_)]) ⟨rfl,rfl,rfl,rfl,rfl,rfl,trivial⟩<|ag<|ah<|ah<|aj<|hy (fun _=>aa rfl)<|hy (fun _=>bw rfl rfl)<|ai<|al (ρ' :=[(13,_),(4,_),(10,_),(9,_),(3,_),(2,_),(0,_)]) ⟨rfl,rfl,rfl,rfl,rfl,rfl,rfl,trivial⟩<|ag<| ?_
  refine cG rfl (fun h16=> ?_) (fun h16=> ?_)
  ·have hws:wl l (i+1)=wl l i++[lp l (4*i)]:=by rw[wl,if_pos (by omega)]
   refine bC (fun w m=>m.jL 0 rfl (View.sub (k:=4*i) (m:=4) hc (by omega))) ?_
   refine a6 (fun m=>ig (m.rd 0 rfl)) ?_
   rintro⟨hl_r4,hA_r4⟩
   refine ah<|ah<|aj<|hy (fun _=>aa rfl)<|hy (fun _=>aa rfl)<|hy (fun _=>fN rfl rfl (bF (by omega) (by omega)))<|hy (fun _=>aa rfl)<|hy (fun _=>fN rfl rfl (bF (by omega) (by omega)))<|hy (fun _=>aN rfl rfl (bF (by omega) (by omega)))<|hy (fun _=>yV (eZ rfl rfl rfl Tryz.underlying27 dZ (show((4*i:Nat):Int)=_ by omega) (show((4*i+4:Nat):Int)=_ by omega) (by omega) (by omega)) ((show Value.slice (if c=4*i then A else A.map (·.add (4*i*1))) (4*i+4-4*i) (c-4*i)= .slice (if c=4*i then A else A.map (·.add (4*i*1))) 4 (c-4*i) by rw[Nat.add_sub_cancel_left])))<|hy (fun _=>aT rfl Tryz.underlying27)<|hy (fun _=>aa rfl)<|ai<|al (ρ' :=[(22,_),(21,_),(20,_),(13,_),(4,_),(10,_),(9,_),(3,_),(2,_),(0,_)]) ⟨rfl,rfl,rfl,rfl,rfl,rfl,rfl,rfl,rfl,rfl,trivial⟩<|ag<|aK<| ?_
   refine bC (fun w m=>m.bN 0 rfl (show _=aL g3 354 (ez (wl l i++UInt32.ofNat (wp l (4*i) 0)::List.replicate (63-i) 0))from by rw[hr64];rfl)) ?_
   refine dH (fun j=>4-j) (fun j=>[(22,.int .i64 (j:Nat))]) (fun j=>[aL g3 354 (ez (wl l i++UInt32.ofNat (wp l (4*i) j)::List.replicate (63-i) 0))]) (fun j=>[]) (fun j=>j≤4) 0 [(21,_),(20,_),(13,_),(4,_),(10,_),(9,_),(3,_),(2,_),(0,_)] ⟨rfl,rfl,rfl,rfl,rfl,rfl,rfl,rfl,rfl,trivial⟩ [0] rfl [] rfl (Nat.zero_le _) ⟨rfl,trivial⟩ (fun j hj4=> ?_)
   refine ah<|aj<|hy (fun _=>bw rfl rfl)<|ai<|ag<|ah<| ?_
   refine cG rfl (fun hj=> ?_) (fun hj=> ?_)
   ·have hgl:((l.drop (4*i)).take 4).getD j 0=l.getD (4*i+j) 0:=by
     simp[List.getD,List.getElem?_take,List.getElem?_drop,show j<4 by omega]
    refine aB<|ag<|ah<|aK<|ah<|aj<|hy (fun _=>aS rfl rfl Tryz.underlying27 dZ hA_r4 rfl (by omega))<|hy (fun m=>aw rfl jc ((m.rd 0 rfl).cell (bM (by omega))))<|hy (fun _=>ab rfl)<|ai<|al (ρ' :=[(6,_),(23,_),(22,_),(21,_),(20,_),(13,_),(4,_),(10,_),(9,_),(3,_),(2,_),(0,_)]) ⟨rfl,rfl,rfl,rfl,rfl,rfl,rfl,rfl,rfl,rfl,rfl,rfl,trivial⟩<|ag<|aj<|hy (fun _=>aa rfl)<|hy (fun _=>aa rfl)<|hy (fun _=>bZ rfl rfl Tryz.underlying354 bQ rfl (by omega))<|hy (fun m=>aw rfl bY ((m.aZ 0 rfl).ax i _ (Ca hwl)))<|hy (fun _=>Cs (k:=8) (b:=256) (by decide) rfl rfl rfl)<|hy (fun _=>aa rfl)<|hy (fun _=>AX rfl Tryz.underlying5 Tryz.underlying166)<|hy (fun _=>yV (DH rfl rfl) ((show Wd ((UInt32.ofNat (wp l (4*i) j)*256) ||| (((l.drop (4*i)).take 4).getD j 0).toUInt32)=Wd (UInt32.ofNat (wp l (4*i) (j+1))) by rw[hgl,CO (by omega)])))<|hy (fun _=>bZ rfl rfl Tryz.underlying354 bQ rfl (by omega))<| ?_
    refine cH (ct 0 rfl rfl rfl bQ rfl (by rw[bB];simp only[List.length_append,List.length_cons,List.length_replicate,hwl];omega) ?_)
    refine ai<|al (ρ' :=[(6,_),(23,_),(22,_),(21,_),(20,_),(13,_),(4,_),(10,_),(9,_),(3,_),(2,_),(0,_)]) ⟨rfl,rfl,rfl,rfl,rfl,rfl,rfl,rfl,rfl,rfl,rfl,rfl,trivial⟩<|ak (X' :=[_,_]) (S' :=[_,_]) (fun _ m=>m)<|aO<|ag<|aj<|hy (fun _=>aN rfl rfl (bF (by omega) (by omega)))<|hy (fun _=>aa rfl)<|ai<|al (ρ' :=[(22,_),(6,_),(23,_),(21,_),(20,_),(13,_),(4,_),(10,_),(9,_),(3,_),(2,_),(0,_)]) ⟨rfl,rfl,rfl,rfl,rfl,rfl,rfl,rfl,rfl,rfl,rfl,rfl,trivial⟩<| ?_
    refine ak (fun w m=>m.bN 0 rfl (show _=aL g3 354 (ez (wl l i++UInt32.ofNat (wp l (4*i) (j+1))::List.replicate (63-i) 0))from by rw[Nat.zero_add,wg hwl])) ?_
    refine cX (j+1) ⟨rfl,rfl,rfl,rfl,rfl,rfl,rfl,rfl,rfl,rfl,trivial⟩ [0,0] rfl [0,1] rfl (by omega) (by omega)
   ·obtain rfl:j=4:=by omega
    refine bL<|ao<|ao<|aD<|ag<|bL<|ao<|aD<|ag<|aj<|hy (fun _=>aN rfl rfl (bF (by omega) (by omega)))<|hy (fun _=>aa rfl)<|ai<|al (ρ' :=[(9,_),(23,_),(22,_),(21,_),(20,_),(13,_),(4,_),(10,_),(3,_),(2,_),(0,_)]) ⟨rfl,rfl,rfl,rfl,rfl,rfl,rfl,rfl,rfl,rfl,rfl,trivial⟩<| ?_
    refine ak (fun w m=>m.bN 0 rfl (show _=aL g3 354 (ez (wl l (i+1)++List.replicate (64-(i+1)) 0))from by rw[Dn,wX,hws,hr63])) ?_
    refine cX (i+1) ⟨rfl,rfl,rfl,rfl,trivial⟩ [0,0] rfl [1] rfl (by omega) (by omega)
  ·have hws:wl l (i+1)=wl l i++[nz (wl l i) i]:=by rw[wl,if_neg (by omega)]
   refine aB<|ag<|ah<|cT [] [(0,some 0),(1,some 0),(2,some 0),(3,some 0),(4,some 0),(5,some 0),(6,some 0),(7,some 0),(8,some 0),(9,some 0)] (by kernel_rfl) (by kernel_rfl) rfl 99<|an (aa rfl)<|an (cp rfl rfl (bF (by omega) (by omega)))<|an (bZ rfl rfl Tryz.underlying354 bQ (show((i-15:Nat):Int)=_ by omega) (by omega))<|cq (fun m=>aw rfl bY ((m.aZ 0 rfl).ax (i-15) _ (mM hwl (by omega))))<|an (aa rfl)<|an (cp rfl rfl (bF (by omega) (by omega)))<|an (bZ rfl rfl Tryz.underlying354 bQ (show((i-2:Nat):Int)=_ by omega) (by omega))<|cq (fun m=>aw rfl bY ((m.aZ 0 rfl).ax (i-2) _ (mM hwl (by omega))))<|an (ab rfl)<|an (ab rfl)<|bz<|al (ρ' :=[(8,_),(7,_),(13,_),(4,_),(10,_),(9,_),(3,_),(2,_),(0,_)]) ⟨rfl,rfl,rfl,rfl,rfl,rfl,rfl,rfl,rfl,trivial⟩<|ag<|cT [6,8,20,22,29] [(0,some 4),(1,some 4),(2,some 4),(3,some 4),(4,some 4),(5,some 0),(7,some 1),(10,some 4),(11,some 4),(14,some 4),(15,some 4),(16,some 4),(17,some 4),(19,some 2),(21,some 3),(24,some 4),(25,some 4),(6,none),(8,none),(9,some 4),(12,some 4),(13,some 4),(18,some 4),(20,none),(22,none),(23,some 4),(26,some 4),(27,some 4),(28,some 4),(29,none)] (by kernel_rfl) (by kernel_rfl) rfl 4<|an (aa rfl)<|an (aa rfl)<|an (cp rfl rfl (bF (by omega) (by omega)))<|an (bZ rfl rfl Tryz.underlying354 bQ (show((i-16:Nat):Int)=_ by omega) (by omega))<|cq (fun m=>aw rfl bY ((m.aZ 0 rfl).ax (i-16) _ (mM hwl (by omega))))<|an (aa rfl)<|an (aa rfl)<|an (aa rfl)<|an (m8 (k:=3) (b:=8) (by decide) rfl rfl rfl)<|an (aa rfl)<|an (cp rfl rfl (bF (by omega) (by omega)))<|an (bZ rfl rfl Tryz.underlying354 bQ (show((i-7:Nat):Int)=_ by omega) (by omega))<|cq (fun m=>aw rfl bY ((m.aZ 0 rfl).ax (i-7) _ (mM hwl (by omega))))<|an (aa rfl)<|an (aa rfl)<|an (aa rfl)<|an (m8 (k:=10) (b:=1024) (by decide) rfl rfl rfl)<| ?_
   refine ek (aq rfl Tryz.call296 (vO (by decide) (by decide) (n:=7)) [] rfl [] rfl ?_)
   rintro _ _ _ ⟨rfl,rfl,rfl⟩
   refine⟨(fun _=>wk [0,0] [0] rfl rfl), ?_⟩
   refine ek (aq rfl Tryz.call296 (vO (by decide) (by decide) (n:=18)) [] rfl [] rfl ?_)
   rintro _ _ _ ⟨rfl,rfl,rfl⟩
   refine⟨(fun _=>wk [0,0] [0] rfl rfl), ?_⟩
   refine an (ew rfl rfl)<|an (ew rfl rfl)<|an (dF rfl rfl)<|an (dF rfl rfl)<| ?_
   refine ek (aq rfl Tryz.call296 (vO (by decide) (by decide) (n:=17)) [] rfl [] rfl ?_)
   rintro _ _ _ ⟨rfl,rfl,rfl⟩
   refine⟨(fun _=>wk [0,0] [0] rfl rfl), ?_⟩
   refine ek (aq rfl Tryz.call296 (vO (by decide) (by decide) (n:=19)) [] rfl [] rfl ?_)
   rintro _ _ _ ⟨rfl,rfl,rfl⟩
   refine⟨(fun _=>wk [0,0] [0] rfl rfl), ?_⟩
   refine an (ew rfl rfl)<|an (ew rfl rfl)<|an (yV (dF rfl rfl) ((rfl:_=Wd (nz (wl l i) i))))<|an (bZ rfl rfl Tryz.underlying354 bQ rfl (by omega))<| ?_
   refine kI (ct 0 rfl rfl rfl bQ rfl (by rw[bB];simp only[List.length_append,List.length_replicate,hwl];omega) ⟨(fun h=>absurd h (by decide)), ?_⟩)
   refine bz<|al (ρ' :=[(8,_),(7,_),(13,_),(4,_),(10,_),(9,_),(3,_),(2,_),(0,_)]) ⟨rfl,rfl,rfl,rfl,rfl,rfl,rfl,rfl,rfl,trivial⟩<|ak (X' :=[_,_]) (S' :=[_]) (fun _ m=>m)<|aO<|ag<|aj<|hy (fun _=>aN rfl rfl (bF (by omega) (by omega)))<|hy (fun _=>aa rfl)<|ai<|al (ρ' :=[(9,_),(8,_),(7,_),(13,_),(4,_),(10,_),(3,_),(2,_),(0,_)]) ⟨rfl,rfl,rfl,rfl,rfl,rfl,rfl,rfl,rfl,trivial⟩<| ?_
   refine ak (fun w m=>m.bN 0 rfl (show _=aL g3 354 (ez (wl l (i+1)++List.replicate (64-(i+1)) 0))from by rw[Nat.zero_add,hr64,wg hwl,wX,hws,hr63])) ?_
   refine cX (i+1) ⟨rfl,rfl,rfl,rfl,trivial⟩ [0,0] rfl [0] rfl (by omega) (by omega)
 ·obtain rfl:i=64:=by omega
  refine bC (fun w m=>m.bN 0 rfl (show _=aL g3 354 (ez (wl l 64))from by rw[Nat.sub_self];simp)) ?_
  refine bL<|ao<|ao<|aD<|ag<|ah<|aj<|hy (fun m=>yV (aU rfl Dz xl (by rw[bB,fM]) ((m.aZ 0 rfl).ax)) ((rfl:_=Value.agg (ez (wl l 64)).toArray)))<| ?_
  refine cH (aJ 1 rfl rfl rfl xl (by rw[bB,fM]) iu rfl ?_)
  refine ai<|al (ρ' :=[(10,_),(9,_),(3,_),(2,_),(0,_)]) ⟨rfl,rfl,rfl,rfl,rfl,trivial⟩<|ak (X' :=[_,_]) (S' :=[_]) (fun _ m=>m)<|ag<|aX<| ?_
  exact fw trivial rfl rfl Dz xl (by rw[bB,fM]) (fun m=>(m.aZ 0 rfl).ax) [] rfl [] rfl ⟨rfl,rfl,rfl⟩
theorem ur(v h:List UInt32)(i:Nat):(gg v h i).length=v.length:=by simp[gg]
theorem He{A:Option Addr}{c:Nat}{l:List UInt8}{h:List UInt32}(hc:64≤c)(hh:h.length=8):cf Tryz.prog 227 [.agg (ez h).toArray,.slice A 64 c] [] [di 1 A 64 (aW l),ey] (fun v_ X_ S_=>v_=(.agg (ez (eI h l)).toArray)∧X_=[]∧S_=[]):=by
 refine aP (N:=99) Tryz.func227 rfl rfl (by simp) fun b=> ?_
 refine a6 (fun m=>ig (m.rd 0 rfl)) ?_
 rintro⟨hl_r,hA_r⟩
 refine ah<|aj<| ?_
 refine hx (cw rfl (fun g2=> ?_))
 refine aQ (fun w m=>m.bN 0 rfl (show _=aL g2 306 (ez h)from congrArg (aL _ _) (bu _))) ?_
 refine hx (aM xp (fun g4=> ?_))
 refine ai<|ak (X' :=[_,_]) (S' :=[_,_]) (fun _ m=>m)<|ag<|ah<|aj<|hy (fun _=>aa rfl)<| ?_
 refine hx (aq rfl Tryz.call268 (Ea (by omega)) [] rfl [0] rfl ?_)
 rintro _ _ _ ⟨rfl,rfl,rfl⟩
 obtain⟨W,hW⟩:∃W,wl l 64=W:=⟨_,rfl⟩
 have hw64:W.length=64:=by rw[←hW];exact fM l 64
 rw[hW]
 refine hx (aM yP (fun g5=> ?_))
 refine cH (aJ 0 rfl rfl rfl xl (by rw[bB,hw64]) iu rfl ?_)
 refine ai<|al (ρ' :=[(5,_),(4,_),(2,_),(0,_),(1,_)]) ⟨rfl,rfl,rfl,rfl,rfl,trivial⟩<|ak (X' :=[_,_,_]) (S' :=[_,_]) (fun _ m=>m)<|ag<|ah<|aj<|hy (fun m=>yV (aU rfl rr lZ (by rw[bB,hh]) ((m.aZ 2 rfl).ax)) ((rfl:_=Value.agg (ez h).toArray)))<| ?_
 refine hx (aM xp (fun g6=> ?_))
 refine cH (aJ 0 rfl rfl rfl lZ (by rw[bB,hh]) iu rfl ?_)
 refine ai<|al (ρ' :=[(6,_),(5,_),(4,_),(2,_),(0,_),(1,_)]) ⟨rfl,rfl,rfl,rfl,rfl,rfl,trivial⟩<|ak (X' :=[_,_,_,_]) (S' :=[_,_]) (fun _ m=>m)<|ag<|ah<|ah<|aj<|hy (fun _=>aa rfl)<|ai<|ag<|aK<| ?_
 refine dH (fun i=>64-i) (fun i=>[(16,.int .i64 (i:Nat))]) (fun i=>[aL g6 306 (ez (kN W h i))]) (fun i=>[]) (fun i=>i≤64) 0 [(6,_),(5,_),(4,_),(2,_),(0,_),(1,_)] ⟨rfl,rfl,rfl,rfl,rfl,rfl,trivial⟩ [0] rfl [] rfl (Nat.zero_le _) ⟨rfl,trivial⟩ (fun i hI=> ?_)
 have hv:=kW (w:=W) hh i
 have hro:fP.length=64:=rfl
 refine ah<|aj<|hy (fun _=>bw rfl rfl)<|ai<|ag<|ah<| ?_
 refine cG rfl (fun hlt=> ?_) (fun hlt=> ?_)
 ·generalize hvd:kN W h i=v at hv ⊢
  refine aB<|ag<|ah<|aK<|ah<|aj<|hy (fun _=>aa rfl)<|hy (fun _=>ab rfl)<|ai<|al (ρ' :=[(7,_),(17,_),(16,_),(6,_),(5,_),(4,_),(2,_),(0,_),(1,_)]) ⟨rfl,rfl,rfl,rfl,rfl,rfl,rfl,rfl,rfl,trivial⟩<|ag<|ah<|cT [] [(0,some 0),(1,some 0),(2,some 0),(3,some 0),(4,some 0),(5,some 0)] (by kernel_rfl) (by kernel_rfl) rfl 99<|an (bZ rfl rfl Tryz.underlying306 bQ (show((4:Nat):Int)=4 from rfl) (by omega))<|cq (fun m=>aw rfl bY ((m.aZ 0 rfl).ax 4 _ (bp (by omega))))<|an (bZ rfl rfl Tryz.underlying306 bQ (show((0:Nat):Int)=0 from rfl) (by omega))<|cq (fun m=>aw rfl bY ((m.aZ 0 rfl).ax 0 _ (bp (by omega))))<|an (ab rfl)<|an (ab rfl)<|bz<|al (ρ' :=[(9,_),(8,_),(7,_),(17,_),(16,_),(6,_),(5,_),(4,_),(2,_),(0,_),(1,_)]) ⟨rfl,rfl,rfl,rfl,rfl,rfl,rfl,rfl,rfl,rfl,rfl,trivial⟩<|ag<|ah<|cT [3] [(0,some 1),(1,some 1),(2,some 0),(5,some 1),(6,some 1),(7,some 1),(8,some 1),(9,some 1),(10,some 1),(11,some 1),(12,some 1),(13,some 1),(14,some 1),(16,some 1),(17,some 1),(18,some 1),(20,some 1),(21,some 1),(22,some 1),(3,none),(4,some 1),(15,some 1),(19,some 1),(23,some 1),(24,some 1)] (by kernel_rfl) (by kernel_rfl) rfl 99<|an (bZ rfl rfl Tryz.underlying306 bQ (show((7:Nat):Int)=7 from rfl) (by omega))<|cq (fun m=>aw rfl bY ((m.aZ 0 rfl).ax 7 _ (bp (by omega))))<|an (aa rfl)<|an (aa rfl)<|an (bZ rfl rfl Tryz.underlying306 bQ (show((5:Nat):Int)=5 from rfl) (by omega))<|cq (fun m=>aw rfl bY ((m.aZ 0 rfl).ax 5 _ (bp (by omega))))<|an (jv rfl rfl)<|an (aa rfl)<|an (D4 rfl)<|an (bZ rfl rfl Tryz.underlying306 bQ (show((6:Nat):Int)=6 from rfl) (by omega))<|cq (fun m=>aw rfl bY ((m.aZ 0 rfl).ax 6 _ (bp (by omega))))<|an (jv rfl rfl)<|an (ew rfl rfl)<|an (aa rfl)<|an (bZ rfl rfl Tryz.underlying354 bQ rfl (by omega))<|cq (fun m=>aw rfl bY ((show Rd _ 1 _ 64 (ez fP)from m.HU 1 rfl).cell (j:=i) (bp (by omega))))<|an (aa rfl)<|an (bZ rfl rfl Tryz.underlying354 bQ rfl (by omega))<|cq (fun m=>aw rfl bY ((m.aZ 1 rfl).ax i _ (bp (by omega))))<| ?_
  refine ek (aq rfl Tryz.call269 (xj (by decide) (by decide) (by decide) (n1:=6) (n2:=11) (n3:=25)) [] rfl [] rfl ?_)
  rintro _ _ _ ⟨rfl,rfl,rfl⟩
  refine⟨(fun _=>wk [0,0,0,0] [0,1] rfl rfl), ?_⟩
  refine an (dF rfl rfl)<|an (dF rfl rfl)<|an (dF rfl rfl)<| ?_
  generalize hk:fP.getD i 0=k
  refine an (yV (dF rfl rfl) ((rfl:_=Wd (rt v k (W.getD i 0)))))<|an (ab rfl)<|bz<|al (ρ' :=[(10,_),(9,_),(8,_),(7,_),(17,_),(16,_),(6,_),(5,_),(4,_),(2,_),(0,_),(1,_)]) ⟨rfl,rfl,rfl,rfl,rfl,rfl,rfl,rfl,rfl,rfl,rfl,rfl,trivial⟩<|ak (X' :=[_,_,_,_]) (S' :=[_,_]) (fun _ m=>m)<|ag<|ah<|cT [1] [(0,some 0),(2,some 1),(3,some 1),(4,some 1),(5,some 1),(6,some 1),(7,some 1),(8,some 1),(9,some 1),(10,some 1),(11,some 1),(12,some 1),(13,some 1),(14,some 1),(15,some 1),(16,some 1),(1,none),(17,some 1),(18,some 1)] (by kernel_rfl) (by kernel_rfl) rfl 99<|an (aa rfl)<|an (aa rfl)<|an (bZ rfl rfl Tryz.underlying306 bQ (show((1:Nat):Int)=1 from rfl) (by omega))<|cq (fun m=>aw rfl bY ((m.aZ 0 rfl).ax 1 _ (bp (by omega))))<|an (jv rfl rfl)<|an (aa rfl)<|an (bZ rfl rfl Tryz.underlying306 bQ (show((2:Nat):Int)=2 from rfl) (by omega))<|cq (fun m=>aw rfl bY ((m.aZ 0 rfl).ax 2 _ (bp (by omega))))<|an (jv rfl rfl)<|an (ew rfl rfl)<|an (bZ rfl rfl Tryz.underlying306 bQ (show((1:Nat):Int)=1 from rfl) (by omega))<|cq (fun m=>aw rfl bY ((m.aZ 0 rfl).ax 1 _ (bp (by omega))))<|an (bZ rfl rfl Tryz.underlying306 bQ (show((2:Nat):Int)=2 from rfl) (by omega))<|cq (fun m=>aw rfl bY ((m.aZ 0 rfl).ax 2 _ (bp (by omega))))<|an (jv rfl rfl)<|an (ew rfl rfl)<| ?_
  refine ek (aq rfl Tryz.call269 (xj (by decide) (by decide) (by decide) (n1:=2) (n2:=13) (n3:=22)) [] rfl [] rfl ?_)
  rintro _ _ _ ⟨rfl,rfl,rfl⟩
  refine⟨(fun _=>wk [0,0,0,0] [0,1] rfl rfl), ?_⟩
  refine an (yV (dF rfl rfl) ((rfl:_=Wd (ru v))))<|an (ab rfl)<|bz<|al (ρ' :=[(11,_),(10,_),(9,_),(8,_),(7,_),(17,_),(16,_),(6,_),(5,_),(4,_),(2,_),(0,_),(1,_)]) ⟨rfl,rfl,rfl,rfl,rfl,rfl,rfl,rfl,rfl,rfl,rfl,rfl,rfl,trivial⟩<|ak (X' :=[_,_,_,_]) (S' :=[_,_]) (fun _ m=>m)<|ag<|aj<|hy (fun _=>aa rfl)<|hy (fun _=>aa rfl)<|hy (fun _=>dF rfl rfl)<|hy (fun _=>bZ rfl rfl Tryz.underlying306 bQ (show((0:Nat):Int)=0 from rfl) (by omega))<|hy (fun m=>aw rfl bY ((m.aZ 0 rfl).ax 0 _ (bp (by omega))))<|hy (fun _=>bZ rfl rfl Tryz.underlying306 bQ (show((1:Nat):Int)=1 from rfl) (by omega))<|hy (fun m=>aw rfl bY ((m.aZ 0 rfl).ax 1 _ (bp (by omega))))<|hy (fun _=>bZ rfl rfl Tryz.underlying306 bQ (show((2:Nat):Int)=2 from rfl) (by omega))<|hy (fun m=>aw rfl bY ((m.aZ 0 rfl).ax 2 _ (bp (by omega))))<|hy (fun _=>bZ rfl rfl Tryz.underlying306 bQ (show((3:Nat):Int)=3 from rfl) (by omega))<|hy (fun m=>aw rfl bY ((m.aZ 0 rfl).ax 3 _ (bp (by omega))))<|hy (fun _=>aa rfl)<|hy (fun _=>dF rfl rfl)<|hy (fun _=>bZ rfl rfl Tryz.underlying306 bQ (show((4:Nat):Int)=4 from rfl) (by omega))<|hy (fun m=>aw rfl bY ((m.aZ 0 rfl).ax 4 _ (bp (by omega))))<|hy (fun _=>bZ rfl rfl Tryz.underlying306 bQ (show((5:Nat):Int)=5 from rfl) (by omega))<|hy (fun m=>aw rfl bY ((m.aZ 0 rfl).ax 5 _ (bp (by omega))))<|hy (fun _=>bZ rfl rfl Tryz.underlying306 bQ (show((6:Nat):Int)=6 from rfl) (by omega))<|hy (fun m=>aw rfl bY ((m.aZ 0 rfl).ax 6 _ (bp (by omega))))<|hy (fun _=>yV (tl (n:=8) xp (by kernel_rfl) rfl (by kernel_rfl) rfl (by kernel_rfl) (by kernel_rfl) (rK (l:=[_,_,_,_,_,_,_,_]))) ((rfl:_=Value.agg (ez (Hy v k (W.getD i 0))).toArray)))<| ?_
  refine cH (aJ 0 rfl rfl rfl lZ rfl iu (by rw[bB,hv]) ?_)
  refine ai<|al (ρ' :=[(11,_),(10,_),(9,_),(8,_),(7,_),(17,_),(16,_),(6,_),(5,_),(4,_),(2,_),(0,_),(1,_)]) ⟨rfl,rfl,rfl,rfl,rfl,rfl,rfl,rfl,rfl,rfl,rfl,rfl,rfl,trivial⟩<|ak (X' :=[_,_,_,_]) (S' :=[_,_]) (fun _ m=>m)<|aO<|ag<|aj<|hy (fun _=>aN rfl rfl (bF (by omega) (by omega)))<|hy (fun _=>aa rfl)<|ai<|al (ρ' :=[(16,_),(11,_),(10,_),(9,_),(8,_),(7,_),(17,_),(6,_),(5,_),(4,_),(2,_),(0,_),(1,_)]) ⟨rfl,rfl,rfl,rfl,rfl,rfl,rfl,rfl,rfl,rfl,rfl,rfl,rfl,trivial⟩<| ?_
  refine ak (fun w m=>m.bN 0 rfl (show _=aL g6 306 (ez (kN W h (i+1)))from by rw[←hvd,←hk];rfl)) ?_
  refine cX (i+1) ⟨rfl,rfl,rfl,rfl,rfl,rfl,rfl,trivial⟩ [0,0,0,0] rfl [0,1] rfl (by omega) (by omega)
 ·obtain rfl:i=64:=by omega
  generalize hvv:kN W h 64=v at hv ⊢
  refine bC (fun w m=>m.bN 0 rfl (show _=aL g6 306 (ez (gg v h 0))from by rw[rU])) ?_
  refine bL<|ao<|ao<|aD<|ag<|ah<|ah<|aj<|hy (fun _=>aa rfl)<|ai<|ag<|aK<| ?_
  refine dH (fun j=>8-j) (fun j=>[(86,.int .i64 (j:Nat))]) (fun j=>[aL g6 306 (ez (gg v h j))]) (fun j=>[]) (fun j=>j≤8) 0 [(17,_),(16,_),(6,_),(5,_),(4,_),(2,_),(0,_),(1,_)] ⟨rfl,rfl,rfl,rfl,rfl,rfl,rfl,rfl,trivial⟩ [0] rfl [] rfl (Nat.zero_le _) ⟨rfl,trivial⟩ (fun j hj8=> ?_)
  have hsl:=ur v h j
  refine ah<|aj<|hy (fun _=>bw rfl rfl)<|ai<|ag<|ah<| ?_
  refine cG rfl (fun hj=> ?_) (fun hj=> ?_)
  ·refine aB<|ag<|ah<|aK<|ah<|aj<|hy (fun _=>aa rfl)<|hy (fun _=>ab rfl)<|ai<|al (ρ' :=[(12,_),(87,_),(86,_),(17,_),(16,_),(6,_),(5,_),(4,_),(2,_),(0,_),(1,_)]) ⟨rfl,rfl,rfl,rfl,rfl,rfl,rfl,rfl,rfl,rfl,rfl,trivial⟩<|ag<|cT [8] [(0,some 0),(1,some 0),(2,some 0),(3,some 0),(4,some 0),(5,some 0),(6,some 0),(7,some 0),(8,none)] (by kernel_rfl) (by kernel_rfl) rfl 0<|an (aa rfl)<|an (bZ rfl rfl Tryz.underlying306 bQ rfl (by omega))<|cq (fun m=>aw rfl bY ((m.aZ 0 rfl).ax j _ (bp (by omega))))<|an (aa rfl)<|an (bZ rfl rfl Tryz.underlying306 bQ rfl (by omega))<|cq (fun m=>aw rfl bY ((m.aZ 3 rfl).ax j _ (bp (by omega))))<|an (yV (dF rfl rfl) ((rfl:_=Wd (v_ (gg v h j) j+v_ h j))))<|an (bZ rfl rfl Tryz.underlying306 bQ rfl (by omega))<| ?_
   refine kI (ct 0 rfl rfl rfl bQ rfl (by rw[bB];omega) ⟨(fun h=>absurd h (by decide)), ?_⟩)
   refine bz<|al (ρ' :=[(12,_),(87,_),(86,_),(17,_),(16,_),(6,_),(5,_),(4,_),(2,_),(0,_),(1,_)]) ⟨rfl,rfl,rfl,rfl,rfl,rfl,rfl,rfl,rfl,rfl,rfl,trivial⟩<|ak (X' :=[_,_,_,_]) (S' :=[_,_]) (fun _ m=>m)<|aO<|ag<|aj<|hy (fun _=>aN rfl rfl (bF (by omega) (by omega)))<|hy (fun _=>aa rfl)<|ai<|al (ρ' :=[(86,_),(12,_),(87,_),(17,_),(16,_),(6,_),(5,_),(4,_),(2,_),(0,_),(1,_)]) ⟨rfl,rfl,rfl,rfl,rfl,rfl,rfl,rfl,rfl,rfl,rfl,trivial⟩<| ?_
   refine ak (fun w m=>m.bN 0 rfl (show _=aL g6 306 (ez (gg v h (j+1)))from by rw[Nat.zero_add,xr,rR (by omega)])) ?_
   refine cX (j+1) ⟨rfl,rfl,rfl,rfl,rfl,rfl,rfl,rfl,rfl,trivial⟩ [0,0,0,0] rfl [0,1] rfl (by omega) (by omega)
  ·obtain rfl:j=8:=by omega
   have hB:gg v h 8=eI h l:=by rw[eI,hW,hvv]
   rw[hB]
   have hbl:=jA hh l
   refine bL<|ao<|ao<|aD<|ag<|ah<|aj<|hy (fun m=>yV (aU rfl rr lZ (by rw[bB,hbl]) ((m.aZ 0 rfl).ax)) ((rfl:_=Value.agg (ez (eI h l)).toArray)))<| ?_
   refine cH (aJ 2 rfl rfl rfl lZ (by rw[bB,hbl]) iu rfl ?_)
   refine ai<|al (ρ' :=[(87,_),(86,_),(17,_),(16,_),(6,_),(5,_),(4,_),(2,_),(0,_),(1,_)]) ⟨rfl,rfl,rfl,rfl,rfl,rfl,rfl,rfl,rfl,rfl,trivial⟩<|ak (X' :=[_,_,_,_]) (S' :=[_,_]) (fun _ m=>m)<|ag<|aX<| ?_
   exact fw trivial rfl rfl rr lZ (by rw[bB,hbl]) (fun m=>(m.aZ 0 rfl).ax) [] rfl [] rfl ⟨rfl,rfl,rfl⟩
end Go.Proofs.YtmibdabdlgmafaaGreatDoor
end
section
set_option maxRecDepth 100000
namespace Go.Proofs.YtmibdabdlgmafaaGreatDoor
open Go.Eng Go.Hx Go.ChangeShapes Go.WideShapes Go.ChangeAt Go.WideMaps Go.WideElems Go.RowKit
theorem Eu : Tryz.prog.globalNamed "lighterage/sha.roots" = some 1 := by kernel_rfl
theorem Fu:(Tryz.prog.globals[1]?).map (·.type)=some 354:=by kernel_rfl
theorem vb:(Rows.laid_lighterage_sha_roots:DataW Unit)= .agg (fP.map fun x=>.lit (.int .u32 (x.toNat:Int))):=by kernel_rfl
theorem Ak (os : Os) (args : Array Value) : laidMetH Tryz.prog [("lighterage/sha.roots", Rows.laid_lighterage_sha_roots)] ((World.doorLaid Tryz.prog 400 os).forCall (fun _ _ => 0) ⟨#[], args, []⟩).memory :=
  laidMetH_of_parts3 (fuel:=8) (laidMet_of_run' 8 (by kernel_rfl) (by kernel_rfl)) (by kernel_rfl) (by kernel_rfl)
theorem qN {W : World} (h : laidMetH Tryz.prog [("lighterage/sha.roots", Rows.laid_lighterage_sha_roots)] W) : ey.holds W := by
  rw[MakeChecks.laidMetH_plain _ _ _ (by kernel_rfl)]at h
  obtain⟨ps,⟨g0,t0,cs0,f0,p0,q0,hg0,ht0,hv0,hd0,_,_⟩,_,_⟩:=h
  obtain rfl:=Option.some.inj (Eu.symm.trans hg0)
  obtain rfl:=Option.some.inj (Fu.symm.trans ht0)
  rw[vb]at hd0
  obtain⟨xs,m1,rfl,hx1,hlen,hn,hel⟩:=DataW.trod_array Tryz.underlying354 hd0
  have c3:Tryz.prog.cellsOf 166=1:=by kernel_rfl
  simp only[Prod.mk.injEq,DataW.agg.injEq]at hx1
  refine⟨by rw[bB];rfl,fun _=>by simp,fun j u hu=> ?_⟩
  have hj:j<64:=by
    obtain⟨h1,_⟩:=List.getElem?_eq_some_iff.1 hu
    rw[bB]at h1
    exact h1
  have h0:=hel j hj
  have hxj:(xs.map (·.1))[j]? =(fP.map fun x=>DataW.lit (Lit.int .u32 (x.toNat:Int)))[j]? :=by rw[←hx1.1]
  obtain⟨y,hy⟩:∃y,xs[j]? =some y:=⟨_,List.getElem?_eq_getElem (by omega)⟩
  rw[hy]at h0
  obtain⟨n,e1,e2,_⟩:=DataW.trod_int Tryz.underlying166 h0
  rw[List.getElem?_map,hy,List.getElem?_map]at hxj
  rw[ez,List.getElem?_map]at hu
  cases hr:fP[j]? with
  |none=>rw[hr]at hu;cases hu
  |some r=>
    rw[hr]at hu hxj
    rw[e2]at hxj
    have hn2:n=(r.toNat:Int):=by simpa using hxj
    have hu2:u= .int .u32 (r.toNat:Int):=by simpa using hu.symm
    have h5:=World.var?_cell hg0 hv0 j
    rw[c3,Nat.mul_one]at e1
    have h6:cs0[j]? =some (.int .u32 n):=by
      have h7:(List.take 1 (List.drop j cs0.toList))[0]? =some (.int .u32 n):=by rw[e1];rfl
      rw[List.getElem?_take,if_pos (by decide),List.getElem?_drop,Nat.add_zero]at h7
      simpa using h7
    show W.cell? ((Option.getD (some _) d0).add j)=some u
    rw[hu2,←hn2,←h6,←h5]
    have e:(⟨1,0,none⟩:Addr).add j=⟨1,j,none⟩:=by simp[Addr.add];omega
    exact congrArg W.cell? e
end Go.Proofs.YtmibdabdlgmafaaGreatDoor
end
section
namespace Go.Hx
open Go.Eng
abbrev cb:=Lib.compareBytes
theorem n5(a b:UInt8):a<b∨a=b∨b<a:=by
 rcases Nat.lt_trichotomy a.toNat b.toNat with h|h|h
 ·exact .inl h
 ·exact .inr (.inl (UInt8.toNat_inj.1 h))
 ·exact .inr (.inr h)
theorem mJ:∀a:List UInt8,cb a a=0
 | []=>rfl
 |x::a=>by simp[cb,Lib.compareBytes,UInt8.lt_irrefl];exact mJ a
theorem gF(x y:UInt8)(a b:List UInt8):cb (x::a) (y::b)=if x<y then-1 else if y<x then 1 else cb a b:=rfl
theorem iU{x y:UInt8}(h:x<y):¬y<x:=by
 have:x.toNat<y.toNat:=h
 intro h'
 have:y.toNat<x.toNat:=h'
 omega
theorem gC:∀a b:List UInt8,cb b a=-cb a b
 | [],[]=>rfl
 | [],_::_=>rfl
 |_::_,[]=>rfl
 |x::a,y::b=>by
  rw[gF,gF]
  have ih:=gC a b
  rcases n5 x y with h|h|h
  ·rw[if_neg (iU h),if_pos h,if_pos h];rfl
  ·subst h;simp[UInt8.lt_irrefl,ih]
  ·rw[if_pos h,if_neg (iU h),if_pos h]
theorem pA:∀a b:List UInt8,cb a b=0→a=b
 | [],[],_=>rfl
 | [],_::_,h=>by simp[cb,Lib.compareBytes]at h
 |_::_,[],h=>by simp[cb,Lib.compareBytes]at h
 |x::a,y::b,h=>by
  rw[gF]at h
  rcases n5 x y with h1|h1|h1
  ·rw[if_pos h1]at h;omega
  ·subst h1
   simp only[UInt8.lt_irrefl,if_false]at h
   rw[pA a b h]
  ·rw[if_neg (iU h1),if_pos h1]at h;omega
theorem mZ:∀a b c:List UInt8,cb a b≤0→cb b c≤0→cb a c≤0
 | [],b,[],_,_=>by simp[cb,Lib.compareBytes]
 | [],b,_::_,_,_=>by simp[cb,Lib.compareBytes]
 |x::a,[],c,h,_=>by simp[cb,Lib.compareBytes]at h
 |x::a,y::b,[],_,h=>by simp[cb,Lib.compareBytes]at h
 |x::a,y::b,z::c,h,h' =>by
  rw[gF]at h h' ⊢
  rcases n5 x y with h1|h1|h1
  ·rcases n5 y z with h2|h2|h2
   ·have:x<z:=by
     have a1:x.toNat<y.toNat:=h1
     have a2:y.toNat<z.toNat:=h2
     show x.toNat<z.toNat
     omega
    rw[if_pos this];decide
   ·subst h2;rw[if_pos h1];decide
   ·rw[if_neg (iU h2),if_pos h2]at h';omega
  ·subst h1
   simp only[UInt8.lt_irrefl,if_false]at h
   rcases n5 x z with h2|h2|h2
   ·rw[if_pos h2];decide
   ·subst h2
    simp only[UInt8.lt_irrefl,if_false]at h' ⊢
    exact mZ a b c h h'
   ·rw[if_neg (iU h2),if_pos h2]at h';omega
  ·rw[if_neg (iU h1),if_pos h1]at h;omega
theorem zg:∀(a b:List UInt8) (k:Nat),a.take k=b.take k→k<a.length→k<b.length→cb a b=if a.getD k 0<b.getD k 0 then-1 else if b.getD k 0<a.getD k 0 then 1 else cb (a.drop (k+1)) (b.drop (k+1))
 | [],b,k,_,h,_=>by simp at h
 |_::_,[],k,_,_,h=>by simp at h
 |x::a,y::b,0,_,_,_=>by rw[gF];simp
 |x::a,y::b,k+1,h,h1,h2=>by
  simp only[List.take_succ_cons,List.cons.injEq]at h
  obtain⟨rfl,h⟩:=h
  rw[gF]
  simp only[UInt8.lt_irrefl,if_false,List.getD_cons_succ,List.drop_succ_cons]
  exact zg a b k h (by simpa using h1) (by simpa using h2)
theorem F0{a b:List UInt8}{k:Nat}(h:a.take k=b.take k)(h1:k<a.length)(h2:k<b.length)(hlt:a.getD k 0<b.getD k 0):cb a b=-1:=by rw[zg a b k h h1 h2,if_pos hlt]
theorem Gg{a b:List UInt8}{k:Nat}(h:a.take k=b.take k)(h1:k<a.length)(h2:k<b.length)(hlt:b.getD k 0<a.getD k 0):cb a b=1:=by rw[zg a b k h h1 h2,if_neg (iU hlt),if_pos hlt]
theorem xS{a b:List UInt8}{k:Nat}(h:a.take k=b.take k)(h1:k<a.length)(h2:k<b.length)(n1:¬a.getD k 0<b.getD k 0)(n2:¬b.getD k 0<a.getD k 0):a.take (k+1)=b.take (k+1):=by
 rw[dY h1,dY h2,h]
 rcases n5 (a.getD k 0) (b.getD k 0)with h|h|h
 ·exact absurd h n1
 ·rw[h]
 ·exact absurd h n2
theorem o3:∀i j:Nat,i<16→j<16→(ko.getD i 0<ko.getD j 0↔i<j):=by
 have:∀i,i<16→∀j,j<16→(ko.getD i 0<ko.getD j 0↔i<j):=by decide+kernel
 exact fun i j hi hj=>this i hi j hj
theorem xb:∀a b:List UInt8,cb (cd a) (cd b)=cb a b
 | [],[]=>rfl
 | [],y::b=>by simp[cd,pH,cb,Lib.compareBytes]
 |x::a,[]=>by simp[cd,pH,cb,Lib.compareBytes]
 |x::a,y::b=>by
  have e:∀(a:UInt8) (r:List UInt8),cd (a::r)=ko.getD (a.toNat/16) 0::ko.getD (a.toNat % 16) 0::cd r:=by intro a r;simp[cd,pH]
  have hx:=x.toNat_lt
  have hy:=y.toNat_lt
  rw[e,e,gF,gF,gF,xb a b]
  have l1:=o3 (x.toNat/16) (y.toNat/16) (by omega) (by omega)
  have l2:=o3 (y.toNat/16) (x.toNat/16) (by omega) (by omega)
  have l3:=o3 (x.toNat % 16) (y.toNat % 16) (by omega) (by omega)
  have l4:=o3 (y.toNat % 16) (x.toNat % 16) (by omega) (by omega)
  have m1:(x<y)↔x.toNat<y.toNat:=Iff.rfl
  have m2:(y<x)↔y.toNat<x.toNat:=Iff.rfl
  simp only[l1,l2,l3,l4,m1,m2]
  split
  ·rw[if_pos (by omega)]
  ·split
   ·rw[if_neg (by omega),if_pos (by omega)]
   ·split
    ·rw[if_pos (by omega)]
    ·split
     ·rw[if_neg (by omega),if_pos (by omega)]
     ·rw[if_neg (by omega),if_neg (by omega)]
theorem rM{P:Program}{w:World}{A:Option Addr}{n c:Nat}{l:List UInt8}(h:Rd w 1 A n (aW l)):(Extern.Bytes.bytesOf (.slice A n c)).run P w= .ok (strOf l) w:=by
 have hl:l.length=n:=by have:=h.1;rw[az]at this;omega
 cases A with
 |none=>
  have:l=[]:=by
   rcases Nat.eq_zero_or_pos n with h0|h0
   ·exact List.eq_nil_of_length_eq_zero (by omega)
   ·exact absurd rfl (h.2.1 h0)
  subst this
  rfl
 |some a=>
  have hr:=Lib.run_loadBytesX (P:=P) (w:=w) (l.map fun b=>((b.toNat:Nat):Int)) a .empty (fun j x hx=>by
   rw[List.getElem?_map,Option.map_eq_some_iff]at hx
   obtain⟨u,hu,rfl⟩:=hx
   exact h.2.2 j (B8 u) (by simp[aW,List.getElem?_map,hu]))
  have e:Lib.bytesOf (l.map fun b=>((b.toNat:Nat):Int))=l:=by
   simp only[Lib.bytesOf,List.map_map]
   conv=>rhs;rw[←List.map_id l]
   apply List.map_congr_left
   intro b _
   simp
  rw[e,List.length_map,hl]at hr
  simp only[Extern.Bytes.bytesOf]
  rw[hr]
  simp[strOf]
theorem uS{P:Program}{w:World}{A A' :Option Addr}{n c n' c' :Nat}{l l' :List UInt8}(h:Rd w 1 A n (aW l))(h' :Rd w 1 A' n' (aW l')):(Extern.BytealgCompare.compare #[.slice A n c,.slice A' n' c']).run P w= .ok (.int .i64 (cb l l')) w:=by
 change Sem.run P (do pure (goInt (Extern.BytealgCompare.cmp (←Extern.Bytes.bytesOf (.slice A n c)) (←Extern.Bytes.bytesOf (.slice A' n' c'))))) w=_
 simp only[Sem.run_bind,Sem.run_pure,Result.andThen,rM h,rM h']
 rw[Lib.cmp_eq]
 rfl
end Go.Hx
end
section
set_option maxRecDepth 20000
namespace Go.Proofs.YtmibdabdlgmafaaGreatDoor
open Go.Eng Go.Hx
theorem Iv(A:Option Addr)(n c:Nat)(l:List UInt8)(m:Nat)(w:World)(hr:Rd w 1 A n (aW l))(hc:n≤c)(hn:n≤140737488351232):
  Calls Tryz.prog 32 #[.slice A n c,.int .i64 (m:Int)] w fun e w' =>∃v,e= .returned v∧Go.Eng.Own w' w.heap.size 5 1 v (min n m) (aW (l.take m))∧Fr No w w' :=by
 have hl:l.length=n:=by have:=hr.1;rw[az]at this;omega
 have hrd:Rd w 1 A (min n m) (aW (l.take m)):=by
  have:=hr.take (k:=min n m) (by omega)
  have e:(aW l).take (min n m*1)=aW (l.take m):=by
   rw[aW,aW,←List.map_take,Nat.mul_one]
   congr 1
   by_cases h:m≤n
   ·congr 1;omega
   ·rw[List.take_of_length_le (by omega),List.take_of_length_le (by omega)]
  rw[e]at this
  exact this
 refine enter (N:=14) Tryz.func32 rfl rfl (by simp) ?_
 refine aV<|bd<|nq (ab rfl)<|bc<|aF<|aV<|bd<|nq (ab rfl)<|bc<|aF<|aV<|bd<|nq (aa rfl)<|nq (aa rfl)<|nq (aa rfl)<|nq (aT rfl Tryz.underlying27)<|nq (aa rfl)<|nq (tw rfl rfl)<|nq (kj rfl rfl Tryz.underlying27 dZ (show((min n m:Nat):Int)=_ by omega) ((by omega)))<| ?_
 refine nx (kY rfl rfl Tryz.underlying27 Tryz.underlying27 (by exact .inl rfl) fk rfl (Own.nil w w.heap.size _ 1) (Src.bR hrd) aY (by unfold maxLen;omega) (by omega) (by omega) fun v w1 ho hf hv=> ?_)
 refine nq (ab rfl)<|bc<|bE (ae (t:=4) rfl<|ae (t:=5) rfl<|ae (t:=0) rfl<|ae (t:=1) rfl<|aC)<|aF<|dP<| ?_
 refine ff trivial rfl rfl ⟨v,rfl, ?_,hf.mono (fun _ _ e=>e.elim)⟩
 simpa using ho
def ef(n m:Int):Int:=(if n<0 then-(n+1)else n) % m
theorem n9(n m:Int)(hm:0<m):0≤ef n m∧ef n m<m:=⟨Int.emod_nonneg _ (by omega),Int.emod_lt_of_pos _ hm⟩
theorem zC(n m:Int)(w:World)(h1:-9223372036854775808≤n)(h2:n≤9223372036854775807)(hm:0<m):
  Calls Tryz.prog 16 #[.int .i64 n,.int .i64 m] w fun e w' =>e= .returned (.int .i64 (ef n m))∧w=w' :=by
 refine enter (N:=13) Tryz.func16 rfl rfl (by simp) ?_
 refine aV<|bd<|nq (ab rfl)<|bc<|aF<|aV<|aV<|bd<|nq (aa rfl)<|nq (bw rfl rfl)<|bc<|bE (ae (t:=6) rfl<|ae (t:=4) rfl<|ae (t:=0) rfl<|ae (t:=1) rfl<|aC)<|aF<| ?_
 refine nI rfl (fun h=> ?_) (fun h=> ?_)
 ·refine bd<|nq (aa rfl)<|nq (aN rfl rfl (bF (by omega) (by omega)))<|nq (xg rfl (bF (by omega) (by omega)))<|nq (ab rfl)<|bc<|bE (ae (t:=0) rfl<|ae (t:=6) rfl<|ae (t:=4) rfl<|ae (t:=1) rfl<|aC)<|aF<|aV<|bd<|nq (aa rfl)<|nq (aa rfl)<|nq (gN rfl rfl (by omega) (by omega))<|nq (ab rfl)<|bc<|bE (ae (t:=4) rfl<|ae (t:=0) rfl<|ae (t:=6) rfl<|ae (t:=1) rfl<|aC)<|aF<|dP<| ?_
  refine ff trivial rfl rfl ⟨?_,rfl⟩
  simp only[ef,if_pos h]
 ·refine dN<|aF<|aV<|bd<|nq (aa rfl)<|nq (aa rfl)<|nq (gN rfl rfl (by omega) (by omega))<|nq (ab rfl)<|bc<|bE (ae (t:=4) rfl<|ae (t:=6) rfl<|ae (t:=0) rfl<|ae (t:=1) rfl<|aC)<|aF<|dP<| ?_
  refine ff trivial rfl rfl ⟨?_,rfl⟩
  simp only[ef,if_neg h]
theorem s3(A:Option Addr)(n c:Nat)(l:List UInt8)(A' :Option Addr)(n' c' :Nat)(l' :List UInt8)(w:World)(h:Rd w 1 A n (aW l))(h' :Rd w 1 A' n' (aW l')):
  Calls Tryz.prog 208 #[.slice A n c,.slice A' n' c'] w fun e w' =>e= .returned (.int .i64 (cb l l'))∧w=w' :=by
 refine enter (N:=8) Tryz.func208 rfl rfl (by simp) ?_
 refine aV<|bd<|nq (ab rfl)<|bc<|aF<|aV<|bd<|nq (aa rfl)<|nq (aa rfl)<| ?_
 refine nq (xq rfl Tryz.func256 (by kernel_rfl) (by kernel_rfl) (by kernel_rfl) (show _=some Extern.BytealgCompare.compare by kernel_rfl) (uS h h')) ?_
 refine nq (ab rfl)<|bc<|bE (ae (t:=4) rfl<|ae (t:=0) rfl<|ae (t:=1) rfl<|aC)<|aF<|dP<| ?_
 exact ff trivial rfl rfl ⟨rfl,rfl⟩
theorem zd(a b:List UInt8)(w:World)(ha:a.length=32)(hb:b.length=32):
  Calls Tryz.prog 171 #[.agg (aW a).toArray,.agg (aW b).toArray] w fun e w' =>e= .returned (.int .i64 (cb a b))∧Fr No w w' :=by
 refine enter (N:=24) Tryz.func171 rfl rfl (by simp) ?_
 refine aV<|bd<| ?_
 refine nx (pZ rfl fun g1 w1 hg1 hf1 hb1=> ?_)
 refine nx (pZ rfl fun g2 w2 hg2 hf2 hb2=> ?_)
 rw[bu]at hb1 hb2
 refine nq (ab rfl)<|bc<|aF<|aV<|aV<|bd<|nq (ab rfl)<|bc<|aF<|cZ<| ?_
 refine kZ (fun k=>32-k) (fun k=>[(2,.pointer (some ⟨g1,0,none⟩)),(3,.pointer (some ⟨g2,0,none⟩)),(5,.int .i64 (k:Nat))]) (fun k w' =>k≤32∧a.take k=b.take k∧Fr No w2 w') 0 (⟨Nat.zero_le _,rfl,Fr.refl _ _⟩) (ae (t:=2) rfl<|ae (t:=3) rfl<|ae (t:=5) rfl<|aC) (fun k w3 ⟨hk,hab,hf3⟩=> ?_)
 refine aV<|aV<|bd<|nq (aa rfl)<|nq (bw rfl rfl)<|bc<|bE (ae (t:=7) rfl<|ae (t:=2) rfl<|ae (t:=3) rfl<|ae (t:=5) rfl<|aC)<|aF<| ?_
 refine nI rfl (fun h=> ?_) (fun h=> ?_)
 ·have hk2:k<32:=by omega
  have h1:∀w',Fr No w2 w' →fi w' g1 53 (aW a):=fun w' f=>(hb1.nv hf2).nv f
  have h2:∀w',Fr No w2 w' →fi w' g2 53 (aW b):=fun w' f=>hb2.nv f
  have ga:=bM (l:=a) (i:=k) (by omega)
  have gb:=bM (l:=b) (i:=k) (by omega)
  refine dN<|aF<|aV<|cZ<|aV<|aV<| ?_
  refine xF [(0,false),(1,false),(2,false),(3,false),(4,false),(5,false),(6,false)] (by kernel_rfl) (by kernel_rfl) rfl (fun w' =>Fr No w2 w') (hf3.cz (Fr.drew _)) (fun w4 hf4 hS4=> ?_)
  refine sq (fun w_ hS_=>aa rfl)<|sq (fun w_ hS_=>bZ rfl rfl Tryz.underlying53 dZ rfl (by omega))<|sq (fun w_ hS_=>aw rfl jc (((h1 _ hS_).ax _ _ ga)))<|sq (fun w_ hS_=>aa rfl)<|sq (fun w_ hS_=>bZ rfl rfl Tryz.underlying53 dZ rfl (by omega))<|sq (fun w_ hS_=>aw rfl jc (((h2 _ hS_).ax _ _ gb)))<|sq (fun w_ hS_=>bw rfl rfl)<|send<|bE (ae (t:=16) rfl<|ae (t:=7) rfl<|ae (t:=2) rfl<|ae (t:=3) rfl<|ae (t:=5) rfl<|aC)<|aF<| ?_
  refine nI rfl (fun hlt=> ?_) (fun hlt=> ?_)
  ·refine aV<|bd<|nq (ab rfl)<|bc<|aF<|dP<|bG<|cB<|bG<|bG<|cB<|bG<| ?_
   refine ff trivial rfl rfl ⟨?_,(hf1.cz hf2).cz hS4⟩
   rw[F0 hab (by omega) (by omega) (show(a.getD k 0).toNat<(b.getD k 0).toNat by omega)]
  ·refine dN<|aF<|aV<| ?_
   refine xF [(0,false),(1,false),(2,false),(3,false),(4,false),(5,false),(6,false)] (by kernel_rfl) (by kernel_rfl) rfl (fun w' =>Fr No w2 w') (hS4.cz (Fr.drew _)) (fun w5 hf5 hS5=> ?_)
   refine sq (fun w_ hS_=>aa rfl)<|sq (fun w_ hS_=>bZ rfl rfl Tryz.underlying53 dZ rfl (by omega))<|sq (fun w_ hS_=>aw rfl jc (((h1 _ hS_).ax _ _ ga)))<|sq (fun w_ hS_=>aa rfl)<|sq (fun w_ hS_=>bZ rfl rfl Tryz.underlying53 dZ rfl (by omega))<|sq (fun w_ hS_=>aw rfl jc (((h2 _ hS_).ax _ _ gb)))<|sq (fun w_ hS_=>dh rfl rfl)<|send<|bE (ae (t:=23) rfl<|ae (t:=16) rfl<|ae (t:=7) rfl<|ae (t:=2) rfl<|ae (t:=3) rfl<|ae (t:=5) rfl<|aC)<|aF<| ?_
   refine nI rfl (fun hgt=> ?_) (fun hgt=> ?_)
   ·refine aV<|bd<|nq (ab rfl)<|bc<|aF<|dP<|cB<|bG<|bG<|cB<|bG<| ?_
    refine ff trivial rfl rfl ⟨?_,(hf1.cz hf2).cz hS5⟩
    rw[Gg hab (by omega) (by omega) (show(b.getD k 0).toNat<(a.getD k 0).toNat by omega)]
   ·refine dN<|fq<|aF<|bd<|nq (aa rfl)<|nq (aN rfl rfl (bF (by omega) (by omega)))<|nq (ab rfl)<|bc<|bE (ae (t:=5) rfl<|ae (t:=23) rfl<|ae (t:=16) rfl<|ae (t:=7) rfl<|ae (t:=2) rfl<|ae (t:=3) rfl<|aC)<| ?_
    refine ll (k+1) (ae (t:=2) rfl<|ae (t:=3) rfl<|ae (t:=5) rfl<|aC) (⟨by omega,xS hab (by omega) (by omega) (fun q=>hlt (by have:(a.getD k 0).toNat<(b.getD k 0).toNat:=q;omega)) (fun q=>hgt (by have:(b.getD k 0).toNat<(a.getD k 0).toNat:=q;omega)),hS5⟩) (by omega)
 ·obtain rfl:k=32:=by omega
  refine jf<|bS<|bS<|cU<|aF<|aV<|bd<|nq (ab rfl)<|bc<|aF<|dP<| ?_
  refine ff trivial rfl rfl ⟨?_,(hf1.cz hf2).cz hf3⟩
  rw[List.take_of_length_le (by omega),List.take_of_length_le (by omega)]at hab
  rw[hab,mJ]
theorem qL{a b:List UInt8}{j n:Nat}(ha:a.length=n)(hb:b.length=n)(hj:j<n):(a.take j++b.drop j).set j (a.getD j 0)=a.take (j+1)++b.drop (j+1):=by
 rw[List.set_append,if_neg (by rw[List.length_take];omega),List.length_take,Nat.min_eq_left (by omega),Nat.sub_self,dY (by omega),List.append_assoc]
 congr 1
 rw[List.drop_eq_getElem_cons (by omega)]
 rfl
theorem pX:(Value.agg (aW (List.replicate 32 0)).toArray).cells.toList=aW (List.replicate 32 0):=rfl
theorem of(A:Option Addr)(c:Nat)(l:List UInt8)(w:World)(hr:Rd w 1 A 32 (aW l)):
  Calls Tryz.prog 170 #[.slice A 32 c] w fun e w' =>e= .returned (.agg (aW l).toArray)∧Fr No w w' :=by
 have hl:l.length=32:=by have:=hr.1;rw[az]at this;omega
 refine enter (N:=16) Tryz.func170 rfl rfl (by simp) ?_
 refine aV<|bd<| ?_
 refine nx (nc cP fun g1 w1 hg1 hf1 hb1=> ?_)
 refine bc<|aF<|aV<|bd<| ?_
 refine nx (nc cP fun g2 w2 hg2 hf2 hb2=> ?_)
 rw[pX]at hb1 hb2
 have hlt:=hb1.lt
 refine bc<|aF<|aV<|aV<|bd<|nq (ab rfl)<|bc<|aF<|cZ<| ?_
 refine kZ (fun j=>32-j) (fun j=>[(0,.slice A 32 c),(2,.pointer (some ⟨g1,0,none⟩)),(3,.pointer (some ⟨g2,0,none⟩)),(4,.int .i64 (j:Nat))]) (fun j w' =>j≤32∧Fr No w w' ∧fi w' g1 53 (aW (List.replicate 32 0))∧fi w' g2 53 (aW (l.take j++(List.replicate 32 0).drop j))) 0 (⟨Nat.zero_le _,hf1.cz hf2,hb1.nv hf2,hb2⟩) (ae (t:=0) rfl<|ae (t:=2) rfl<|ae (t:=3) rfl<|ae (t:=4) rfl<|aC) (fun j w4 ⟨hj,hf4,i1,i2⟩=> ?_)
 refine aV<|aV<|bd<|nq (aa rfl)<|nq (bw rfl rfl)<|bc<|bE (ae (t:=6) rfl<|ae (t:=0) rfl<|ae (t:=2) rfl<|ae (t:=3) rfl<|ae (t:=4) rfl<|aC)<|aF<| ?_
 refine nI rfl (fun h=> ?_) (fun h=> ?_)
 ·have ga:=bM (l:=l) (i:=j) (by omega)
  have hlen:(l.take j++(List.replicate 32 (0:UInt8)).drop j).length=32:=by rw[List.length_append,List.length_take,List.length_drop,List.length_replicate];omega
  have r4:=hr.nv hf4
  refine dN<|aF<|aV<|cZ<|bd<|nq (aa rfl)<|nq (aa rfl)<|nq (aa rfl)<|nq (aS rfl rfl Tryz.underlying27 dZ r4.2.1 rfl (by omega))<|nq (aw rfl jc (r4.cell ga))<|nq (bZ rfl rfl Tryz.underlying53 dZ rfl (by omega))<| ?_
  refine Bz (D5 rfl rfl dZ rfl i2 (by rw[az];omega) fun w5 hf5 i2' hs5=> ?_)
  rw[Nat.zero_add,←wK,qL hl (List.length_replicate ..) (by omega)]at i2'
  refine bc<|bE (ae (t:=6) rfl<|ae (t:=0) rfl<|ae (t:=2) rfl<|ae (t:=3) rfl<|ae (t:=4) rfl<|aC)<|fq<|aF<|bd<|nq (aa rfl)<|nq (aN rfl rfl (bF (by omega) (by omega)))<|nq (ab rfl)<|bc<|bE (ae (t:=4) rfl<|ae (t:=6) rfl<|ae (t:=0) rfl<|ae (t:=2) rfl<|ae (t:=3) rfl<|aC)<| ?_
  refine ll (j+1) (ae (t:=0) rfl<|ae (t:=2) rfl<|ae (t:=3) rfl<|ae (t:=4) rfl<|aC) (⟨by omega,hf4.new hf5 (fun i hi=>by have:=hf1.size;omega),i1.fr hf5 (by omega),i2'⟩) (by omega)
 ·obtain rfl:j=32:=by omega
  have e:l.take 32++(List.replicate 32 (0:UInt8)).drop 32=l:=by
   rw[List.take_of_length_le (by omega),List.drop_of_length_le (by simp)];simp
  rw[e]at i2
  refine jf<|bS<|bS<|cU<|aF<|aV<|bd<|nq (aU rfl b9 bg ((by rw[az];exact hl)) i2.ax)<| ?_
  refine Bz (pB rfl rfl bg hl i1 (by rw[az];simp) fun w5 hf5 i1' hs5=> ?_)
  refine bc<|bE (ae (t:=6) rfl<|ae (t:=0) rfl<|ae (t:=2) rfl<|ae (t:=3) rfl<|ae (t:=4) rfl<|aC)<|aF<|dP<| ?_
  exact Gx trivial rfl rfl b9 bg (by rw[az];exact hl) i1'.ax ⟨rfl,hf4.new hf5 (fun i hi=>by omega)⟩
theorem bytes(a:List UInt8)(w:World)(ha:a.length=32):
  Calls Tryz.prog 183 #[.agg (aW a).toArray] w fun e w' =>∃v,e= .returned v∧Go.Eng.Own w' w.heap.size 5 1 v 32 (aW a)∧Fr No w w' :=by
 refine enter (N:=16) Tryz.func183 rfl rfl (by simp) ?_
 refine aV<|bd<| ?_
 refine nx (pZ rfl fun g1 w1 hg1 hf1 hb1=> ?_)
 rw[bu]at hb1
 refine nq (ab rfl)<|bc<|aF<|aV<|bd<|nq (ab rfl)<|bc<|aF<|aV<|aV<|bd<|nq (ab rfl)<|bc<|aF<|cZ<| ?_
 refine sZ (fun k _=>32-k) (fun k v=>[(1,.pointer (some ⟨g1,0,none⟩)),(3,v),(4,.int .i64 (k:Nat))]) (fun k v w' =>k≤32∧Go.Eng.Own w' w1.heap.size 5 1 v k (aW (a.take k))∧Fr No w1 w') 0 (.slice none 0 0) (⟨Nat.zero_le _,Own.nil w1 w1.heap.size _ 1,Fr.refl _ _⟩) (ae (t:=1) rfl<|ae (t:=3) rfl<|ae (t:=4) rfl<|aC) (fun k v w2 ⟨hk,ho,hf⟩=> ?_)
 refine aV<|aV<|bd<|nq (aa rfl)<|nq (bw rfl rfl)<|bc<|bE (ae (t:=6) rfl<|ae (t:=1) rfl<|ae (t:=3) rfl<|ae (t:=4) rfl<|aC)<|aF<| ?_
 refine nI rfl (fun h=> ?_) (fun h=> ?_)
 ·have ga:=bM (l:=a) (i:=k) (by omega)
  refine dN<|aF<|aV<|cZ<|bd<|nq (aa rfl)<|nq (aa rfl)<|nq (bZ rfl rfl Tryz.underlying53 dZ rfl (by omega))<|nq (aw rfl jc ((hb1.nv hf).ax _ _ ga))<| ?_
  refine nx (mQ Tryz.underlying27 fk rfl rfl rfl (by simp[Value.cells,B8]) (by decide) (by decide) fun g w3 hg hf3 hb3=> ?_)
  refine nx (kY rfl rfl Tryz.underlying27 Tryz.underlying27 (by exact .inl rfl) fk rfl (ho.nv hf3) (Src.gv hb3 rfl) (aY (l:=[_])) (by unfold maxLen;omega) (by omega) (hf.cz hf3).size fun v4 w4 ho4 hf4 hv4=> ?_)
  refine nq (ab rfl)<|bc<|bE (ae (t:=3) rfl<|ae (t:=6) rfl<|ae (t:=1) rfl<|ae (t:=4) rfl<|aC)<|fq<|aF<|bd<|nq (aa rfl)<|nq (aN rfl rfl (bF (by omega) (by omega)))<|nq (ab rfl)<|bc<|bE (ae (t:=4) rfl<|ae (t:=3) rfl<|ae (t:=6) rfl<|ae (t:=1) rfl<|aC)<| ?_
  refine qc (k+1) v4 (ae (t:=1) rfl<|ae (t:=3) rfl<|ae (t:=4) rfl<|aC) (⟨by omega,by rw[dY (by omega),bH];exact ho4,(hf.cz hf3).new hf4 (fun i hi=>(ho.from hi).1)⟩) (by omega)
 ·obtain rfl:k=32:=by omega
  refine jf<|bS<|bS<|cU<|aF<|aV<|bd<|nq (aa rfl)<|nq (ab rfl)<|bc<|bE (ae (t:=2) rfl<|ae (t:=6) rfl<|ae (t:=1) rfl<|ae (t:=3) rfl<|ae (t:=4) rfl<|aC)<|aF<|dP<| ?_
  rw[List.take_of_length_le (by omega)]at ho
  exact ff trivial rfl rfl ⟨v,rfl,ho.wide hf1.size,hf1.cz hf⟩
end Go.Proofs.YtmibdabdlgmafaaGreatDoor
end
section
set_option maxRecDepth 20000
namespace Go.Proofs.YtmibdabdlgmafaaGreatDoor
open Go.Eng Go.Hx
theorem zf{P:Program}{Q:Exit→Act→World→Prop}{N:Nat}{D:List Deferred}{ρ:Env}{w:World}{x:Operand}{ty t:TypeId}{v:Value}{K:Value→World→Prop}(hx:ev ρ x=some v)(k:∀g w',w.heap.size≤g→Fr No w w' →fi w' g t v.cells.toList→w' =w.alloc (.cells v.cells t)→K (.pointer (some ⟨g,0,none⟩)) w'):XW P Q N D ρ w (.box t x) ty K:=
 de (w' :=w.alloc (.cells v.cells t)) (fun a _ _ _ _ ha=>by simp[execOp,ha.eval hx,Instr.box,newVar,newRow])
  (k _ _ (Nat.le_refl _) (Fr.alloc w _) (by have:=fi.new w t v.cells.toList;simpa using this) rfl)
theorem z6(a b:List UInt8)(w:World)(ha:a.length=32)(hb:b.length=32):
  Calls Tryz.prog 148 #[.agg (aW a).toArray,.agg (aW b).toArray] w fun e w' =>e= .returned (.int .i64 (cb a b))∧∃q os,w' =Go.Sort.grow (w.drewN q) os:=by
 refine enter (N:=8) Tryz.func148 rfl rfl (by simp) ?_
 refine aV<|bd<| ?_
 refine nx (zf rfl fun g1 w1 hg1 hf1 hb1 hw1=> ?_)
 refine nx (zf rfl fun g2 w2 hg2 hf2 hb2 hw2=> ?_)
 rw[bu]at hb1 hb2
 refine nq (ab rfl)<|bc<|aF<|aV<| ?_
 refine xF [(0,false),(1,false),(2,true),(3,false)] (by kernel_rfl) (by kernel_rfl) rfl (fun w' =>Fr No w2 w' ∧∃q,w' =w2.drewN q) (⟨Fr.drew _,1,rfl⟩) (fun w3 hf3 hS3=> ?_)
 refine sq (fun w_ hS_=>sl rfl Tryz.underlying53 dZ)<|sq (fun w_ hS_=>sl rfl Tryz.underlying53 dZ)<| ?_
 refine sx (ep rfl Tryz.call208 (s3 _ _ _ a _ _ _ b _ (Rd.gv ((hb1.nv hf2).nv hf3) (by rw[az];omega)) (Rd.gv (hb2.nv hf3) (by rw[az];omega))) ?_)
 rintro e_ w4 ⟨rfl,rfl⟩
 refine⟨_,rfl, ?_⟩
 refine⟨hS3, ?_⟩
 refine sq (fun w_ hS_=>ab rfl)<|send<|bE (ae (t:=4) rfl<|ae (t:=3) rfl<|ae (t:=2) rfl<|ae (t:=0) rfl<|ae (t:=1) rfl<|aC)<|aF<|dP<| ?_
 obtain⟨_,q,rfl⟩:=hS3
 exact ff trivial rfl rfl ⟨rfl,q,_,by rw[hw2,hw1,Go.Sort.alloc_eq_grow,Go.Sort.alloc_eq_grow,Go.Sort.grow_grow];rfl⟩
end Go.Proofs.YtmibdabdlgmafaaGreatDoor
end
section
namespace Go.Proofs
open Go.Shelf
def Tryz.xZ:Go.Shelf.Ren:=⟨fun|6=>147|15=>207|14=>206|28=>254|29=>255|20=>246|21=>247|22=>248|23=>249|24=>250|25=>251|26=>252|27=>253|46=>286|47=>287|48=>288|49=>289|50=>290|57=>306|n=>n,fun|22=>33|24=>53|25=>228|3=>3|39=>263|0=>0|53=>166|55=>310|4=>4|46=>339|45=>338|50=>343|5=>5|9=>9|66=>376|70=>380|76=>391|77=>324|n=>n,fun|n=>n⟩
theorem Tryz.DG:Go.Proofs.SlLaysF0.n6 Tryz.prog Tryz.xZ:={
 mixed:=by kernel_rfl
 f6:=⟨Tryz.f147.name,by decide,Tryz.func147.trans (congrArg some (by kernel_rfl))⟩
 f14:=⟨Tryz.f206.name,by decide,Tryz.func206.trans (congrArg some (by kernel_rfl))⟩
 f15:=Tryz.func207.trans (congrArg some (by kernel_rfl))
 f20:=⟨Tryz.f246.name,by decide,Tryz.func246.trans (congrArg some (by kernel_rfl))⟩
 f21:=⟨Tryz.f247.name,by decide,Tryz.func247.trans (congrArg some (by kernel_rfl))⟩
 f22:=⟨Tryz.f248.name,by decide,Tryz.func248.trans (congrArg some (by kernel_rfl))⟩
 f23:=⟨Tryz.f249.name,by decide,Tryz.func249.trans (congrArg some (by kernel_rfl))⟩
 f24:=⟨Tryz.f250.name,by decide,Tryz.func250.trans (congrArg some (by kernel_rfl))⟩
 f25:=⟨Tryz.f251.name,by decide,Tryz.func251.trans (congrArg some (by kernel_rfl))⟩
 f26:=⟨Tryz.f252.name,by decide,Tryz.func252.trans (congrArg some (by kernel_rfl))⟩
 f27:=⟨Tryz.f253.name,by decide,Tryz.func253.trans (congrArg some (by kernel_rfl))⟩
 f28:=Tryz.func254.trans (congrArg some (by kernel_rfl))
 f29:=Tryz.func255.trans (congrArg some (by kernel_rfl))
 f46:=⟨Tryz.f286.name,by decide,Tryz.func286.trans (congrArg some (by kernel_rfl))⟩
 f47:=Tryz.func287.trans (congrArg some (by kernel_rfl))
 f48:=Tryz.func288.trans (congrArg some (by kernel_rfl))
 f49:=⟨Tryz.f289.name,by decide,Tryz.func289.trans (congrArg some (by kernel_rfl))⟩
 f50:=⟨Tryz.f290.name,by decide,Tryz.func290.trans (congrArg some (by kernel_rfl))⟩
 f57:=⟨Tryz.f306.name,by decide,Tryz.func306.trans (congrArg some (by kernel_rfl))⟩
 t0:=Tryz.underlying0
 a0:=Tryz.isAgg0
 z0:=Tryz.sizeOf0
 v0:=Tryz.zeroValue0
 t3:=Tryz.underlying3
 a3:=Tryz.isAgg3
 z3:=Tryz.sizeOf3
 v3:=Tryz.zeroValue3
 t4:=Tryz.underlying4
 a4:=Tryz.isAgg4
 z4:=Tryz.sizeOf4
 v4:=Tryz.zeroValue4
 t5:=Tryz.underlying5
 a5:=Tryz.isAgg5
 z5:=Tryz.sizeOf5
 v5:=Tryz.zeroValue5
 t9:=Tryz.underlying9
 a9:=Tryz.isAgg9
 z9:=Tryz.sizeOf9
 v9:=Tryz.zeroValue9
 t22:=Tryz.underlying33
 a22:=Tryz.isAgg33
 z22:=Tryz.sizeOf33
 v22:=Tryz.zeroValue33
 t25:=Tryz.underlying228
 a25:=Tryz.isAgg228
 z25:=Tryz.sizeOf228
 v25:=Tryz.zeroValue228
 t39:=Tryz.underlying263
 a39:=Tryz.isAgg263
 z39:=Tryz.sizeOf263
 v39:=Tryz.zeroValue263
 t45:=Tryz.underlying338
 a45:=Tryz.isAgg338
 z45:=Tryz.sizeOf338
 v45:=Tryz.zeroValue338
 t46:=Tryz.underlying339
 a46:=Tryz.isAgg339
 z46:=Tryz.sizeOf339
 v46:=Tryz.zeroValue339
 t50:=Tryz.underlying343
 a50:=Tryz.isAgg343
 z50:=Tryz.sizeOf343
 v50:=Tryz.zeroValue343
 t53:=Tryz.underlying166
 a53:=Tryz.isAgg166
 z53:=Tryz.sizeOf166
 v53:=Tryz.zeroValue166
 t55:=Tryz.underlying310
 a55:=Tryz.isAgg310
 z55:=Tryz.sizeOf310
 v55:=Tryz.zeroValue310
 t66:=Tryz.underlying376
 a66:=Tryz.isAgg376
 z66:=Tryz.sizeOf376
 v66:=Tryz.zeroValue376
 t70:=Tryz.underlying380
 a70:=Tryz.isAgg380
 z70:=Tryz.sizeOf380
 v70:=Tryz.zeroValue380
 t76:=Tryz.underlying391
 a76:=Tryz.isAgg391
 z76:=Tryz.sizeOf391
 v76:=Tryz.zeroValue391
 t77:=Tryz.underlying324
 a77:=Tryz.isAgg324
 z77:=Tryz.sizeOf324
 v77:=Tryz.zeroValue324}
end Go.Proofs
end
section
namespace Go.Hx
open Go.Eng
abbrev kJ(ds:List (List UInt8)):Prop:=∀d∈ds,d.length=32
def eL:List (List UInt8)→List UInt8→List (List UInt8)
 | [],d=>[d]
 |a::r,d=>if cb a d<0 then a::eL r d else if a=d then a::r else d::a::r
theorem o8:∀(ds:List (List UInt8)) (d:List UInt8) (k:Nat),k≤ds.length→(∀i,i<k→cb (ds.getD i []) d<0)→(k<ds.length→¬cb (ds.getD k []) d<0)→
  eL ds d=if k<ds.length∧ds.getD k []=d then ds else ds.take k++[d]++ds.drop k
 | [],d,k,hk,_,_=>by
  obtain rfl:k=0:=by simpa using hk
  simp[eL]
 |a::r,d,0,_,_,h=>by
  have h0:=h (by simp)
  simp only[List.getD_cons_zero]at h0
  simp only[eL,if_neg h0,List.getD_cons_zero,List.take_zero,List.nil_append,List.drop_zero,List.singleton_append,List.length_cons,Nat.zero_lt_succ,true_and]
 |a::r,d,k+1,hk,h1,h2=>by
  have ha:=h1 0 (by omega)
  simp only[List.getD_cons_zero]at ha
  have ih:=o8 r d k (by simpa using hk) (fun i hi=>by have:=h1 (i+1) (by omega);simpa using this) (fun hl=>by have:=h2 (by simpa using hl);simpa using this)
  simp only[eL,if_pos ha,ih,List.getD_cons_succ,List.length_cons,Nat.succ_lt_succ_iff,List.take_succ_cons,List.drop_succ_cons,List.cons_append]
  split <;> rfl
theorem oh(ds:List (List UInt8))(d:List UInt8):ds.length≤(eL ds d).length∧(eL ds d).length≤ds.length+1:=by
 induction ds with
 |nil=>simp[eL]
 |cons a r ih=>
  simp only[eL]
  split
  ·simp only[List.length_cons];omega
  ·split <;> simp
theorem tz{ds:List (List UInt8)}{d:List UInt8}(h:kJ ds)(hd:d.length=32):kJ (eL ds d):=by
 induction ds with
 |nil=>intro x hx;simp[eL]at hx;subst hx;exact hd
 |cons a r ih=>
  have ih' :=ih (fun x hx=>h x (List.mem_cons_of_mem _ hx))
  have ha:=h a (List.mem_cons_self ..)
  intro x hx
  simp only[eL]at hx
  split at hx
  ·rcases List.mem_cons.1 hx with rfl|hx
   ·exact ha
   ·exact ih' x hx
  ·split at hx
   ·exact h x hx
   ·rcases List.mem_cons.1 hx with rfl|hx
    ·exact hd
    ·exact h x hx
end Go.Hx
end
section
namespace Go.Hx
open Go.Eng
def dJ(l:List (List UInt8)):Prop:=l.Pairwise fun a b=>cb a b<0
theorem zi{a b:List UInt8}(h:cb a b<0):¬cb b a<0:=by have:=gC a b;omega
theorem k7{a b c:List UInt8}(h:cb a b<0)(k:cb b c<0):cb a c<0:=by
 have h1:=mZ a b c (by omega) (by omega)
 refine Decidable.byContradiction fun hn=> ?_
 have h0:cb a c=0:=by omega
 have:=pA a c h0
 subst this
 have:=gC a b
 omega
theorem tn{a b c:List UInt8}(h:cb a b<0)(k:cb b c≤0):cb a c<0:=by
 by_cases h0:cb b c=0
 ·have:=pA b c h0
  subst this
  exact h
 ·exact k7 h (by omega)
theorem dJ.ext:∀{l m:List (List UInt8)},dJ l→dJ m→(∀x,x∈l↔x∈m)→l=m
 | [],[],_,_,_=>rfl
 | [],y::m,_,_,h=>absurd ((h y).2 (List.mem_cons_self ..)) (List.not_mem_nil)
 |x::l,[],_,_,h=>absurd ((h x).1 (List.mem_cons_self ..)) (List.not_mem_nil)
 |x::l,y::m,hl,hm,h=>by
  have hl' :=List.pairwise_cons.1 hl
  have hm' :=List.pairwise_cons.1 hm
  have e:x=y:=by
   rcases List.mem_cons.1 ((h x).1 (List.mem_cons_self ..))with e|e
   ·exact e
   ·rcases List.mem_cons.1 ((h y).2 (List.mem_cons_self ..))with e' |e'
    ·exact e'.symm
    ·exact absurd (hl'.1 y e') (zi (hm'.1 x e))
  subst e
  rw[dJ.ext hl'.2 hm'.2 (fun z=> ?_)]
  have ne:∀{n:List (List UInt8)},(∀a' ∈n,cb x a' <0)→z∈n→z≠x:=fun hn hz e=>by
   subst e
   have:=hn z hz
   rw[mJ]at this
   omega
  constructor
  ·intro hz
   exact(List.mem_cons.1 ((h z).1 (List.mem_cons_of_mem _ hz))).resolve_left (ne hl'.1 hz)
  ·intro hz
   exact(List.mem_cons.1 ((h z).2 (List.mem_cons_of_mem _ hz))).resolve_left (ne hm'.1 hz)
theorem kb:∀(l:List (List UInt8)) (d x:List UInt8),x∈eL l d↔x=d∨x∈l
 | [],d,x=>by simp[eL]
 |a::r,d,x=>by
  unfold eL
  split
  ·rw[List.mem_cons,kb r d x,List.mem_cons]
   constructor
   ·rintro(h|h|h)
    ·exact .inr (.inl h)
    ·exact .inl h
    ·exact .inr (.inr h)
   ·rintro(h|h|h)
    ·exact .inr (.inl h)
    ·exact .inl h
    ·exact .inr (.inr h)
  ·split
   ·next h=>subst h;simp
   ·simp
theorem kO:∀(l:List (List UInt8)) (d:List UInt8),dJ l→dJ (eL l d)
 | [],d,_=>by simp[eL,dJ]
 |a::r,d,h=>by
  have h' :=List.pairwise_cons.1 h
  unfold eL
  split
  ·next hc=>
   refine List.pairwise_cons.2 ⟨fun y hy=> ?_,kO r d h'.2⟩
   rcases(kb r d y).1 hy with rfl|hy
   ·exact hc
   ·exact h'.1 y hy
  ·next hc=>
   split
   ·exact h
   ·next hne=>
    have hd:cb d a<0:=by
     have h1:=gC a d
     have h2:cb a d≠0:=fun e=>hne (pA a d e)
     omega
    refine List.pairwise_cons.2 ⟨fun y hy=> ?_,h⟩
    rcases List.mem_cons.1 hy with rfl|hy
    ·exact hd
    ·exact k7 hd (h'.1 y hy)
theorem kU:∀(l acc:List (List UInt8)),dJ acc→dJ (l.foldl eL acc)∧∀x,x∈l.foldl eL acc↔x∈acc∨x∈l
 | [],acc,h=>⟨h,fun x=>by simp⟩
 |d::r,acc,h=>by
  obtain⟨h1,h2⟩:=kU r (eL acc d) (kO acc d h)
  refine⟨h1,fun x=> ?_⟩
  rw[List.foldl_cons,h2,kb,List.mem_cons]
  constructor
  ·rintro((h|h)|h)
   ·exact .inr (.inl h)
   ·exact .inl h
   ·exact .inr (.inr h)
  ·rintro(h|h|h)
   ·exact .inl (.inr h)
   ·exact .inl (.inl h)
   ·exact .inr h
def zq(l:List (List UInt8)):Prop:=l.Pairwise fun a b=>cb a b≤0
def FI(a b:List UInt8):Bool:= !(decide (cb b a<0))
def kn(l:List (List UInt8)):List (List UInt8):=l.mergeSort FI
theorem oz(l:List (List UInt8)):zq (kn l):=by
 have:=List.pairwise_mergeSort (le:=FI) (fun a b c hab hbc=>by
  simp only[FI,Bool.not_eq_true',decide_eq_false_iff_not]at*
  have h1:=gC a b
  have h2:=gC b c
  have h3:=gC a c
  have h4:=mZ a b c (by omega) (by omega)
  omega) (fun a b=>by
  simp only[FI,Bool.or_eq_true,Bool.not_eq_true',decide_eq_false_iff_not]
  have h1:=gC a b
  omega) l
 exact this.imp fun{a b} h=>by
  simp only[FI,Bool.not_eq_true',decide_eq_false_iff_not]at h
  have h1:=gC a b
  omega
theorem jW(l:List (List UInt8)):(kn l).Perm l:=List.mergeSort_perm _ _
theorem tO(l:List (List UInt8)):(kn l).length=l.length:=List.length_mergeSort ..
def lV:List (List UInt8)→List (List UInt8)
 | []=>[]
 | [a]=>[a]
 |a::b::r=>if a=b then lV (b::r)else a::lV (b::r)
theorem sS:∀(l:List (List UInt8)) (x:List UInt8),x∈lV l↔x∈l
 | [],x=>Iff.rfl
 | [a],x=>Iff.rfl
 |a::b::r,x=>by
  unfold lV
  have ih:=sS (b::r) x
  split
  ·next h=>subst h;rw[ih];simp
  ·rw[List.mem_cons,ih,←List.mem_cons]
theorem ql:∀(l:List (List UInt8)),zq l→dJ (lV l)
 | [],_=>List.Pairwise.nil
 | [a],_=>by simp[lV,dJ]
 |a::b::r,h=>by
  have h' :=List.pairwise_cons.1 h
  have ih:=ql (b::r) h'.2
  unfold lV
  split
  ·exact ih
  ·next hne=>
   refine List.pairwise_cons.2 ⟨fun y hy=> ?_,ih⟩
   have hab:cb a b<0:=by
    have h1:=h'.1 b (List.mem_cons_self ..)
    have h2:cb a b≠0:=fun e=>hne (pA a b e)
    omega
   rcases List.mem_cons.1 ((sS (b::r) y).1 hy)with rfl|hy
   ·exact hab
   ·exact tn hab ((List.pairwise_cons.1 h'.2).1 y hy)
theorem uO(l:List (List UInt8)):lV (kn l)=l.foldl eL []:=by
 obtain⟨h1,h2⟩:=kU l [] List.Pairwise.nil
 refine dJ.ext (ql _ (oz l)) h1 (fun x=> ?_)
 rw[sS,h2,(jW l).mem_iff]
 simp
theorem tQ{l:List (List UInt8)}(h:l.Nodup):dJ (kn l):=by
 have h1:=oz l
 have h2:(kn l).Nodup:=(jW l).nodup_iff.2 h
 refine(h1.and h2).imp fun{a b} hab=> ?_
 have:cb a b≠0:=fun e=>hab.2 (pA a b e)
 omega
end Go.Hx
end
section
namespace Go.Eng
open Go.RowKit
abbrev Ge(v:Value):List PanicEntry:=[{v,recovered:=false}]
def RE(b:cL)(R Rp:Value→List bq→List bq→Prop):Ending→World→Prop:=fun e w' =>
 (∃v X' S',e= .returned v∧R v X' S' ∧Mem b X' S' w')∨(∃v X' S',e= .panicked (Ge v)∧Rp v X' S' ∧Mem b X' S' w')
def EU(P:Program)(f:Nat)(args:List Value)(X0 S0:List bq)(R Rp:Value→List bq→List bq→Prop):Prop:=
 ∀w,Mem ⟨w,dL X0,dL S0⟩ X0 S0 w→Calls P f args.toArray w (RE ⟨w,dL X0,dL S0⟩ R Rp)
section
variable{P:Program}{Q:Exit→Act→World→Prop}{N:Nat}{D:List Deferred}{ρ:Env}{b:cL}{X X' X0 Xr S S' S0:List bq}{ty:TypeId}{x:Operand}{K:Value→List bq→List bq→Prop}
theorem B2{w:World}{K:Value→World→Prop}{f:Nat}{l:List Operand}{vs:List Value}{tys:Array TypeId}{R:Ending→World→Prop}(hv:oO ρ l=some vs)(hf:∀args w,(callFunc f args).run P w= .ok (.enter f args) w)
  (hc:Calls P f vs.toArray w R) (hR:∀e w',R e w' →(∃v,e= .returned v∧K v w')∨∃c,e= .panicked c∧WQ Q N D (.panic c) ρ w'):XW P Q N D ρ w (.call ⟨.value (.func f),l.toArray,tys⟩) ty K:=by
 intro a dst pos af g ha
 unfold Oper.wp
 have:(execOp a.eval ⟨dst,.call ⟨.value (.func f),l.toArray,tys⟩,ty,pos,af,g⟩).run P w= .ok (.enter f vs.toArray) w:=by
  simp[execOp,resolve,Deferred.ofValue,Act.eval,invoke,ha.j6 hv,hf]
 rw[this]
 refine Calls.mono hc ?_
 intro e w' he
 rcases hR e w' he with⟨v,rfl,hk⟩|⟨c,rfl,hk⟩
 ·exact⟨v,rfl,hk⟩
 ·exact hk a ha
theorem gS{f:Nat}{l:List Operand}{vs:List Value}{tys:Array TypeId}{R Rp:Value→List bq→List bq→Prop}(hv:oO ρ l=some vs)(hf:∀args w,(callFunc f args).run P w= .ok (.enter f args) w)
  (hc:EU P f vs X0 S0 R Rp) (is:List Nat) (hX:b5 is X=some (X0,Xr)) (js:List Nat) (hS:dV js S=some S0)
  (kp:∀v X' S',Rp v X' S' →HQ Q N D (.panic (Ge v)) ρ b (X' ++Xr) (S' ++S)) (k:∀v X' S',R v X' S' →K v (X' ++Xr) (S' ++S)):XH P Q N D ρ b X S (.call ⟨.value (.func f),l.toArray,tys⟩) ty K:=fun w m=>by
 have m1:=m.perm (au _ _ _ _ hX)
 refine B2 hv hf (hc w (m1.part (cy _ _ _ hS))) ?_
 rintro e w' (⟨v,X',S',rfl,hR,m'⟩|⟨v,X',S',rfl,hR,m'⟩)
 ·exact .inl ⟨v,rfl,_,_,m1.frame (cy _ _ _ hS) m',k v X' S' hR⟩
 ·exact .inr ⟨_,rfl,kp v X' S' hR w' (m1.frame (cy _ _ _ hS) m')⟩
theorem eD{K:Act→World→Prop}{c:List PanicEntry}(h:HQ Q N D (.panic c) ρ b X S):HQ (Exit.then K Q) N D (.panic c) ρ b X S:=h
end
theorem CB{P:Program}{f:Nat}{fn:Func}{c:Code}{vs:List Value}{R Rp:Value→List bq→List bq→Prop}{N:Nat}{X0 S0:List bq}(hf:P.funcs[f]? =some fn)(hb:fn.body=some c)(hN:fn.ntmps=N)(hl:vs.length≤N)
  (h:∀b,HC P (bodyPost P fn (RE b R Rp)) N [] c (gJ vs 0) b X0 S0):EU P f vs X0 S0 R Rp:=fun w m=>enter hf hb hN hl (h _ w m)
section
variable{P:Program}{fn:Func}{R Rp:Value→List bq→List bq→Prop}{N:Nat}{D:List Deferred}{ρ:Env}{b:cL}{X X' Xz Xr X0 S S' S0:List bq}{e:Exit}{u:FrameMode}
theorem qO{R1 R2:Ending→World→Prop}(h:∀e w,R1 e w→R2 e w):∀e a w,bodyPost P fn R1 e a w→bodyPost P fn R2 e a w
 | .normal,a,w,⟨h1,v,h2,h3⟩=>⟨h1,v,h2,h _ _ h3⟩
 | .ret,a,w,⟨h1,v,h2,h3⟩=>⟨h1,v,h2,h _ _ h3⟩
 | .panic c,a,w,⟨h1,h2⟩=>⟨h1,h _ _ h2⟩
 | .outgrown,a,w,h1=>h _ _ h1
 | .exit _,a,w,h1=>h1.elim
 | .goto _,a,w,h1=>h1.elim
theorem F7(h:HQ (bodyPost P fn (RB b R)) N D e ρ b X S):HQ (bodyPost P fn (RE b R Rp)) N D e ρ b X S:=fun w m a ha=>
 qO (fun e w h=>by obtain⟨v,X',S',h1,h2,h3⟩:=h;exact .inl ⟨v,X',S',h1,h2,h3⟩) _ _ _ (h w m a ha)
theorem F1{v:Value}(is:List Nat)(hX:b5 is X=some (X',Xz))(js:List Nat)(hS:dV js S=some S')(hR:Rp v X' S'):HQ (bodyPost P fn (RE b R Rp)) N [] (.panic (Ge v)) ρ b X S:=fun w m a ha=>
 ⟨ha.df,.inr ⟨v,X',S',rfl,hR,m.out is hX js hS⟩⟩
theorem wE{t t' t'' sz:Nat}{ty:TypeId}{p:Addr}{cs:List Value}{v' v'' :Value}(he:Leaves e)(hr:fn.results= #[.cell t ty,.tmp t',.tmp t''])(hv:get ρ t=some (.pointer (some p)))(hv' :get ρ t' =some v')(hv'' :get ρ t'' =some v'')(ha:dz P ty=some true)(hs:fy P ty=some sz)(hl:cs.length=sz)
  (hc:∀{w},Mem b X S w→∀j u,cs[j]? =some u→w.cell? (p.add j)=some u) (is:List Nat) (hX:b5 is X=some (X',Xz)) (js:List Nat) (hS:dV js S=some S') (hR:R (.tuple #[.agg cs.toArray,v',v'']) X' S'):HQ (bodyPost P fn (RB b R)) N [] e ρ b X S:=
 fun w m=>gM he (fun a hA=>by have h1:=hA.getD hv;have h2:=hA.getD hv';have h3:=hA.getD hv'';simp at h1 h2 h3;simp[results,hr,h1,h2,h3,asAddr,jN ha hs hl (hc m)]) ⟨_,_,_,rfl,hR,m.out is hX js hS⟩
def Eo(P:Program)(fn:Func)(b:cL)(R:Value→List bq→List bq→Prop)(N:Nat)(D:List Deferred)(ρ:Env)(X S:List bq)(u:FrameMode):Prop:=∀w,Mem b X S w→∀tmps:Array Value,(∀t v,get ρ t=some v→tmps[t]? =some v)→Go.Leaves P fn tmps (RB b R) D u w
theorem w0(he:Leaves e)(h:Eo P fn b R N D ρ X S .returning):HQ (bodyPostD P fn (RB b R)) N D e ρ b X S:=DY he h
theorem jk{c:List PanicEntry}(h:Eo P fn b R N D ρ X S (.panicking c)):HQ (bodyPostD P fn (RB b R)) N D (.panic c) ρ b X S:=fun w m a ha=>by
 have:=h w m a.tmps ha.gt
 show Go.Leaves P fn a.tmps (RB b R) a.defers (.panicking c) w
 rw[ha.df]
 exact this
def CF(P:Program)(f:Nat)(args:List Value)(u:FrameMode)(X0 S0:List bq)(R:FrameMode→List bq→List bq→Prop):Prop:=
 ∀w,Mem ⟨w,dL X0,dL S0⟩ X0 S0 w→CallsD P f args.toArray u w fun e u' w' =>e= .returned (.tuple #[])∧∃X' S',R (settle u') X' S' ∧Mem ⟨w,dL X0,dL S0⟩ X' S' w'
theorem mV{f:Nat}{vs cap:List Value}{Rd:FrameMode→List bq→List bq→Prop}(hu:u≠ .run)(hcall:∀args w,(callFunc f args).run P w= .ok (.enter f args) w)(hc:CF P f (vs++cap) u X0 S0 Rd)(is:List Nat)(hX:b5 is X=some (X0,Xr))(js:List Nat)(hS:dV js S=some S0)
  (k:∀u' X' S',Rd u' X' S' →Eo P fn b R N D ρ (X' ++Xr) (S' ++S) u'):Eo P fn b R N (⟨.fn (.func f) cap.toArray,vs.toArray⟩::D) ρ X S u:=fun w m tmps ht=>by
 have m1:=m.perm (au _ _ _ _ hX)
 refine leaves_cons (f:=f) (args:=(vs++cap).toArray) hu ?_ ?_
 ·simp[invoke,hcall]
 ·refine CallsD.mono (hc w (m1.part (cy _ _ _ hS))) ?_
  rintro e u' w' ⟨rfl,X',S',hR,m'⟩
  exact k _ _ _ hR w' (m1.frame (cy _ _ _ hS) m') tmps ht
end
section
variable{P:Program}{ops:Array Oper}{fn:Func}{N:Nat}{D:List Deferred}{ρ ρ' :Env}{w:World}{c₀:Frame}{cs:List Frame}{R:Ending→FrameMode→World→Prop}{Q:Exit→Act→List Frame→World→Prop}{op:Op}{ty:TypeId}{pos:String}{af:Array Edge}{d:Nat}{v:Value}{rest:List Nat}{u:FrameMode}
def SL(P:Program)(ops:Array Oper)(Q:Exit→Act→List Frame→World→Prop)(N:Nat)(D:List Deferred)(l:List Nat)(ρ:Env)(cs:List Frame)(w:World):Prop:=∀a,Ag N D ρ a→wpOpsS P ops Q l a cs w
theorem Hu{i:Nat}(ho:ops[i]? =some ⟨some d,op,ty,pos,af,none⟩)(h:Yl P N D ρ w op ty v)(k:SL P ops Q N D rest ((d,v)::ρ) cs w)(hd:d<N:=by decide):SL P ops Q N D (i::rest) ρ cs w:=fun a ha=>by
 simp only[wpOpsS,ho]
 rw[if_pos (by simp[Region.wanted]),h a (some d) pos af none ha]
 exact k _ (ha.put hd)
theorem Ev{i:Nat}{tys:Array TypeId}{pv:Value}{older:List PanicEntry}(ho:ops[i]? =some ⟨some d,.call ⟨.builtin .recover, #[],tys⟩,ty,pos,af,none⟩)(hu:c₀.mode= .panicking ({v:=pv,recovered:=false}::older))
  (k:SL P ops Q N D rest ((d,pv)::ρ) ({c₀ with mode:=.panicking ({v:=pv,recovered:=true}::older)}::cs) w) (hd:d<N:=by decide):SL P ops Q N D (i::rest) ρ (c₀::cs) w:=fun a ha=>by
 have hr:(execOp a.eval ⟨some d,.call ⟨.builtin .recover, #[],tys⟩,ty,pos,af,none⟩).run P w= .ok .recover w:=by
  simp[execOp,resolve,invoke,builtin]
 have h2:recoverD (c₀::cs)=some (pv,{c₀ with mode:=.panicking ({v:=pv,recovered:=true}::older)}::cs):=by simp[recoverD,hu]
 simp only[wpOpsS,ho]
 rw[if_pos (by simp[Region.wanted]),hr]
 simp only[h2]
 exact k _ (ha.put hd)
theorem CM{i:Nat}{tys:Array TypeId}(ho:ops[i]? =some ⟨some d,.call ⟨.builtin .recover, #[],tys⟩,ty,pos,af,none⟩)(hu:c₀.mode= .returning)
  (k:SL P ops Q N D rest ((d,.nilIface)::ρ) (c₀::cs) w) (hd:d<N:=by decide):SL P ops Q N D (i::rest) ρ (c₀::cs) w:=fun a ha=>by
 have hr:(execOp a.eval ⟨some d,.call ⟨.builtin .recover, #[],tys⟩,ty,pos,af,none⟩).run P w= .ok .recover w:=by
  simp[execOp,resolve,invoke,builtin]
 have h2:recoverD (c₀::cs)=none:=by simp[recoverD,hu]
 simp only[wpOpsS,ho]
 rw[if_pos (by simp[Region.wanted]),hr]
 simp only[h2]
 exact k _ (ha.put hd)
theorem D0{c:Code}{a:Act}{b:cL}{X S:List bq}{R0:Ending→World→Prop}(m:Mem b X S w)(h:HC P (bodyPost P fn R0) N [] c ρ b X S)(ha:Ag N [] ρ a)(hR:∀e w',R0 e w' →∃v,e= .returned v∧R (.returned v) u w'):c.wpS P (bodyPostS P fn c₀ cs R) a ({c₀ with mode:=u}::cs) w:=by
 refine wpS_of_wp (wp_mono (h w m a ha) ?_)
 intro e a' w' hb
 cases e with
 |normal=>
  obtain⟨h1,v,h2,h3⟩:=hb
  obtain⟨v',hv,h4⟩:=hR _ _ h3
  cases hv
  exact⟨h1,u,rfl,v,h2,h4⟩
 |ret=>
  obtain⟨h1,v,h2,h3⟩:=hb
  obtain⟨v',hv,h4⟩:=hR _ _ h3
  cases hv
  exact⟨h1,u,rfl,v,h2,h4⟩
 |panic c=>
  obtain⟨h1,h2⟩:=hb
  obtain⟨v',hv,h4⟩:=hR _ _ h2
  cases hv
 |outgrown=>
  obtain⟨v',hv,h4⟩:=hR _ _ hb
  cases hv
 |exit id=>exact hb.elim
 |goto l=>exact hb.elim
end
end Go.Eng
end
section
namespace Go.Eng
open Go.RowKit
def rF(ds:List Nat)(a a' :Act):Prop:=a'.defers=a.defers∧a'.tmps.size=a.tmps.size∧∀t:Nat,t∉ds→a'.tmps[t]? =a.tmps[t]?
theorem rF.refl(ds:List Nat)(a:Act):rF ds a a:=⟨rfl,rfl,fun _ _=>rfl⟩
theorem rF.put{ds:List Nat}{a a' :Act}{d:Nat}{v:Value}(hd:d∈ds)(h:rF ds a a'):rF ds (a.put (some d) v) a' :=by
 obtain⟨h1,h2,h3⟩:=h
 refine⟨h1,by rw[h2];simp[Act.put],fun t ht=> ?_⟩
 rw[h3 t ht]
 have hne:d≠t:=fun e=>ht (e▸hd)
 simp only[Act.put]
 rw[Array.getElem?_setIfInBounds_ne hne]
def Aj(ds:List Nat)(Q:Exit→Act→World→Prop):Exit→Act→World→Prop
 | .panic c,a,w=>∀a',rF ds a a' →Q (.panic c) a' w
 | .outgrown,_,_=>False
 |e,a,w=>Q e a w
section
variable{P:Program}{ops:Array Oper}{Q:Exit→Act→World→Prop}
theorem jn{T:Nat→World→Prop}{X:List Nat}(hs:Region.noSelect ops=true)(hQ:∀(i:Nat) (o:Oper),ops[i]? =some o→∀c a v w,Q (.panic c) (a.put o.dst v) w→Q (.panic c) a w):∀(L:List (Nat×Option Nat)) (sq:List (Option Nat×Oper)) (l:Array Bool) (a:Act) (w:World) (n k:Nat),
  iK ops L=some sq→eN ops X L l=true→L.length≤n→Kept ops l→jw X l=k→T k w→fE P ops Q T k sq a w→Cv P ops Q (fun l w=>T (jw X l) w) n l a w
 | [],sq,l,a,w,n,k,hp,hk,_,_,_,_,h=>by
  simp only[iK,Option.some.injEq]at hp
  subst hp
  have hr:Region.ready .any ops l=[]:=by simpa[eN]using hk
  cases n with
  |zero=>exact⟨hr,h⟩
  |succ n=>exact⟨fun _=>h,by rw[hr];simp⟩
 |(i,x)::r,sq,l,a,w,0,k,hp,hk,hf,_,_,_,h=>by simp at hf
 |(i,x)::r,sq,l,a,w,n+1,k,hp,hk,hf,hK,hc,hT,h=>by
  unfold iK at hp
  split at hp
  ·rename_i o l' ho hl'
   cases hp
   have hf' :r.length≤n:=by simp at hf;omega
   cases x with
   |none=>
    simp only[eN,Bool.and_eq_true,beq_iff_eq]at hk
    obtain⟨⟨hrd,hct⟩,hk⟩:=hk
    have hmem:i∈Region.ready .any ops l:=by rw[hrd];simp
    have hcs:jw X (l.setIfInBounds i true)=k+1:=by rw[sc (mem_ready.1 hmem).1,hct,hc]
    have hK' :=hK.set hmem
    refine⟨fun h0=>(by rw[h0]at hmem;cases hmem),fun j hj=> ?_⟩
    have hji:j=i:=by rw[hrd]at hj;simpa using hj
    subst hji
    unfold wpOp
    simp only[ho]
    simp only[fE]at h
    split at h
    ·rename_i hw
     rw[if_pos hw]
     refine .inl (Oper.wp_mono ?_ h)
     rintro a' w' ⟨hS',h'⟩
     exact⟨by rw[hcs];exact hS',jn hs hQ r l' _ a' w' n (k+1) hl' hk hf' hK' hcs hS' h'⟩
    ·rename_i hw
     rw[if_neg hw]
     exact⟨by rw[hcs];exact h.1,jn hs hQ r l' _ _ w n (k+1) hl' hk hf' hK' hcs h.1 h.2⟩
   |some m=>
    simp only[eN,Bool.and_eq_true,Bool.not_eq_true']at hk
    obtain⟨⟨⟨⟨hfree,hcon⟩,hX⟩,hcap⟩,hk⟩:=hk
    obtain⟨v,hy,h'⟩:=h
    have hmem:i∈Region.ready .any ops l:=by simpa using hcon
    have hcs:jw X (l.setIfInBounds i true)=k:=by rw[n8 hX,hc]
    refine nO ho (Region.noSelect_spec hs) (fun c a w=>hQ i o ho c a _ w) (fun l' =>Kept ops l' ∧∀q,l.getD q false=true→l'.getD q false=true) (fun l' j hR hj=>⟨hR.1.set hj,fun q hq=>getD_set_true (hR.2 q hq)⟩)
     (fun l' w' =>by rw[n8 hX]) n l a w (Region.free_spec ho hfree) hmem ?_ ⟨hK,fun q hq=>hq⟩ (by rw[hc];exact hT) (jn hs hQ r l' _ _ w n k hl' hk hf' (hK.set hmem) hcs hT h')
    rcases hy with⟨hw,hv⟩|hy
    ·refine .inl ⟨hw,fun w' hw' =>hv w' ?_⟩
     obtain⟨l2,⟨hK2,al⟩,hun,hT2⟩:=hw'
     exact⟨jw X l2,by rw[←hc];exact qm al,sG hK2 hun hcap,hT2⟩
    ·exact .inr hy
  ·cases hp
theorem qp{T:Nat→World→Prop}{X ds:List Nat}{id:Nat}{a:Act}{w:World}{sq:List (Option Nat×Oper)}(L:List (Nat×Option Nat))(hds:ops.all (fun o=>match o.dst with|some d=>ds.contains d|none=>true)=true)(hm:P.follows .mixedOrders=true)(hs:Region.noSelect ops=true)(hk:eN ops X L (Array.replicate ops.size false)=true)(hn:L.length≤ops.size)
  (hp:iK ops L=some sq) (hT:T 0 w.drew) (h:fE P ops (Aj ds Q) T 0 sq a w.drew):(Code.region id ops true).wp P Q a w:=by
 refine Code.wp_mono (Q:=Aj ds Q) (fun e a w q=>by cases e <;> first|exact q|exact q.elim|exact q a (.refl _ _)) ?_
 refine wp_region_any hm (fe _ _ _ _ (jn (X:=X) hs (fun i o ho c a v w q a' ha' => ?_) L sq _ a _ _ 0 hp hk hn ?_ ?_ hT h))
 ·have hmem:o∈ops:=by
   obtain⟨hi,he⟩:=Array.getElem?_eq_some_iff.1 ho
   exact he▸Array.getElem_mem hi
  have:=Array.all_eq_true_iff_forall_mem.1 hds o hmem
  cases hd:o.dst with
  |none=>rw[hd]at q;exact q a' ha'
  |some d=>
   rw[hd]at this q
   exact q a' (ha'.put (by simpa using this))
 ·intro j hj
  simp[Array.getElem?_replicate]at hj
  split at hj <;> cases hj
 ·unfold jw
  rw[List.countP_eq_zero]
  intro x _
  simp[Array.getElem?_replicate]
  split <;> rfl
end
def BY(ds:List Nat)(ρ:Env):Env:=ρ.filter fun p=> !ds.contains p.1
theorem qF{ds:List Nat}:∀{ρ:Env} {t:Nat} {v:Value},get (BY ds ρ) t=some v→t∉ds∧get ρ t=some v
 | [],t,v,h=>by simp[BY,get]at h
 |(t0,v0)::ρ,t,v,h=>by
  unfold BY at h
  rw[List.filter_cons]at h
  by_cases hc:ds.contains t0=true
  ·rw[if_neg (by simpa using hc)]at h
   obtain⟨h1,h2⟩:=qF (ρ:=ρ) h
   refine⟨h1, ?_⟩
   have hne:t0≠t:=fun e=>h1 (by rw[←e];simpa using hc)
   simp only[get]
   have hbf:Nat.beq t0 t=false:=by
    cases hb:Nat.beq t0 t with
    |true=>exact absurd (Nat.eq_of_beq_eq_true hb) hne
    |false=>rfl
   rw[hbf]
   exact h2
  ·rw[if_pos (by simpa using hc)]at h
   simp only[get]at h ⊢
   cases hb:Nat.beq t0 t with
   |true=>
    rw[hb]at h
    have:t0=t:=Nat.eq_of_beq_eq_true hb
    subst this
    exact⟨by simpa using hc,h⟩
   |false=>
    rw[hb]at h
    exact qF (ρ:=ρ) h
section
variable{P:Program}{ops:Array Oper}{Q:Exit→Act→World→Prop}{N:Nat}{D:List Deferred}{ρ ρ' :Env}{b:cL}{X X' X0 Xr S S' S0 X1 S1:List bq}{k c:Nat}{ds:List Nat}
theorem zy{id:Nat}{l:List (Option Nat×Oper)}(ds:List Nat)(is js:List Nat)(hX:b5 is X=some (X1,Xr))(hS:dV js S=some S1)(Xs:List Nat)(L:List (Nat×Option Nat))(hm:P.follows .mixedOrders=true)
  (hk:(Region.noSelect ops && eN ops Xs L (Array.replicate ops.size false) && decide (L.length≤ops.size))=true) (hds:ops.all (fun o=>match o.dst with|some d=>ds.contains d|none=>true)=true)
  (hp:iK ops L=some l) (c:Nat) (h:HT P ops (Aj ds Q) (TT b X1 S1 c) N D 0 l ρ b X S):HC P Q N D (.region id ops true) ρ b X S:=fun w m a ha=>by
 simp only[Bool.and_eq_true,decide_eq_true_eq]at hk
 exact qp (X:=Xs) L hds hm hk.1.1 hk.1.2 hk.2 hp (fun _=>(wk is js hX hS).mem (m.lift (Fr.drew w))) (h _ (m.lift (Fr.drew w)) a ha)
theorem zH{T:Nat→World→Prop}(h:HQ Q N D .normal ρ b X S):HT P ops (Aj ds Q) T N D k [] ρ b X S:=fun w m a ha=>h w m a ha
theorem DI{e:List PanicEntry}(h:HQ Q N D (.panic e) (BY ds ρ) b X S):HQ (Aj ds Q) N D (.panic e) ρ b X S:=fun w m a ha a' hag=>by
 obtain⟨h1,h2,h3⟩:=hag
 refine h w m a' ⟨by rw[h2];exact ha.sz,by rw[h1];exact ha.df,fun t v ht=> ?_⟩
 obtain⟨h4,h5⟩:=qF ht
 rw[h3 t h4]
 exact ha.gt t v h5
end
section
variable{P:Program}{ops:Array Oper}{fn:Func}{Q:Exit→Act→List Frame→World→Prop}{N:Nat}{D:List Deferred}{ρ:Env}{b:cL}{X X' S S' :List bq}{cs:List Frame}{c₀:Frame}{rest:List Nat}{op:Op}{ty:TypeId}{pos:String}{af:Array Edge}{d i:Nat}{v:Value}
def uX(P:Program)(ops:Array Oper)(Q:Exit→Act→List Frame→World→Prop)(N:Nat)(D:List Deferred)(l:List Nat)(ρ:Env)(cs:List Frame)(b:cL)(X S:List bq):Prop:=∀w,Mem b X S w→SL P ops Q N D l ρ cs w
theorem oN{o:Oper}{a:Act}{w:World}(ho:ops[i]? =some o)(hw:Region.wanted o (yielded ops a.tmps)=true)(h:o.wp P a w (fun a' w' =>wpOpsS P ops Q rest a' cs w') (fun e a' w' =>Q e a' cs w')):wpOpsS P ops Q (i::rest) a cs w:=by
 simp only[wpOpsS,ho]
 rw[if_pos hw]
 unfold Oper.wp at h
 split
 ·rename_i w' hr
  rw[hr]at h
  exact h.elim
 ·exact h
theorem l0(ho:ops[i]? =some ⟨some d,op,ty,pos,af,none⟩)(h:∀{w},Mem b X S w→Yl P N D ρ w op ty v)(k:uX P ops Q N D rest ((d,v)::ρ) cs b X S)(hd:d<N:=by decide):uX P ops Q N D (i::rest) ρ cs b X S:=fun w m=>Hu ho (h m) (k w m) hd
theorem Du(ho:ops[i]? =some ⟨some d,op,ty,pos,af,none⟩)(h:XH P (fun e a w=>Q e a cs w) N D ρ b X S op ty fun v X' S' =>uX P ops Q N D rest ((d,v)::ρ) cs b X' S')(hd:d<N:=by decide):uX P ops Q N D (i::rest) ρ cs b X S:=fun w m a ha=>by
 refine oN ho (by simp[Region.wanted]) (Oper.wp_mono ?_ (h w m a (some d) pos af none ha))
 rintro a' w' ⟨v,rfl,X',S',m',hk⟩
 exact hk w' m' _ (ha.put hd)
theorem Bf(ho:ops[i]? =some ⟨none,op,ty,pos,af,none⟩)(h:XH P (fun e a w=>Q e a cs w) N D ρ b X S op ty fun _ X' S' =>uX P ops Q N D rest ρ cs b X' S'):uX P ops Q N D (i::rest) ρ cs b X S:=fun w m a ha=>by
 refine oN ho (by simp[Region.wanted]) (Oper.wp_mono ?_ (h w m a none pos af none ha))
 rintro a' w' ⟨v,rfl,X',S',m',hk⟩
 exact hk w' m' _ ha
theorem C4{tys:Array TypeId}{pv:Value}{older:List PanicEntry}(ho:ops[i]? =some ⟨some d,.call ⟨.builtin .recover, #[],tys⟩,ty,pos,af,none⟩)(hu:c₀.mode= .panicking ({v:=pv,recovered:=false}::older))
  (k:uX P ops Q N D rest ((d,pv)::ρ) ({c₀ with mode:=.panicking ({v:=pv,recovered:=true}::older)}::cs) b X S) (hd:d<N:=by decide):uX P ops Q N D (i::rest) ρ (c₀::cs) b X S:=fun w m=>Ev ho hu (k w m) hd
theorem Aw{tys:Array TypeId}(ho:ops[i]? =some ⟨some d,.call ⟨.builtin .recover, #[],tys⟩,ty,pos,af,none⟩)(hu:c₀.mode= .returning)(k:uX P ops Q N D rest ((d,.nilIface)::ρ) ({c₀ with mode:=.returning}::cs) b X S)(hd:d<N:=by decide):uX P ops Q N D (i::rest) ρ (c₀::cs) b X S:=fun w m=>
 CM ho hu (by have:=k w m;rwa [show({c₀ with mode:=FrameMode.returning}:Frame)=c₀ by cases c₀;simp_all]at this) hd
theorem ET{l:List Nat}(h:∀w,Mem b X S w→Mem b X' S' w)(k:uX P ops Q N D l ρ cs b X' S'):uX P ops Q N D l ρ cs b X S:=fun w m=>k w (h w m)
def HZ(b:cL)(R:FrameMode→List bq→List bq→Prop):Ending→FrameMode→World→Prop:=fun e u' w' =>e= .returned (.tuple #[])∧∃X' S',R (settle u') X' S' ∧Mem b X' S' w'
def QD(P:Program)(fn:Func)(c₀:Frame)(cs:List Frame)(b:cL)(R:FrameMode→List bq→List bq→Prop)(c2:Code):Exit→Act→List Frame→World→Prop:=Exit.thenS (fun a cs' w=>c2.wpS P (bodyPostS P fn c₀ cs (HZ b R)) a cs' w) (bodyPostS P fn c₀ cs (HZ b R))
theorem uP{R:FrameMode→List bq→List bq→Prop}{c2:Code}{u2:FrameMode}(h:HC P (bodyPost P fn (RB b fun v X S=>v= .tuple #[]∧R (settle u2) X S)) N [] c2 ρ b X S):uX P ops (QD P fn c₀ cs b R c2) N [] [] ρ ({c₀ with mode:=u2}::cs) b X S:=fun w m a ha=>by
 refine D0 m h ha ?_
 rintro e w' ⟨v,X',S',rfl,⟨rfl,hR⟩,m'⟩
 exact⟨_,rfl,rfl,X',S',hR,m'⟩
end
theorem wD{P:Program}{f:Nat}{fn:Func}{id:Nat}{ops:Array Oper}{c2:Code}{vs:List Value}{u:FrameMode}{N:Nat}{X0 S0:List bq}{R:FrameMode→List bq→List bq→Prop}(hf:P.funcs[f]? =some fn)(hb:fn.body=some (.seq (.region id ops false) c2))(hN:fn.ntmps=N)(hl:vs.length≤N)
  (h:∀(b:cL) (c₀:Frame) (cs:List Frame),c₀.mode=u→uX P ops (QD P fn c₀ cs b R c2) N [] (List.range ops.size) (gJ vs 0) (c₀::cs) b X0 S0):CF P f vs u X0 S0 R:=fun w m=>by
 refine callsD_of_wpS hf hb fun c₀ cs hu=> ?_
 refine wpS_seq (wpS_region ?_)
 refine h _ c₀ cs hu w m _ ⟨?_,rfl,fun t v ht=> ?_⟩
 ·simp[hN];omega
 ·obtain⟨_,h2⟩:=gL vs 0 t v ht
  have hlt:=(List.getElem?_eq_some_iff.1 h2).1
  rw[Array.getElem?_append_left (by simpa using hlt)]
  simpa using h2
section
variable{P:Program}{Q:Exit→Act→World→Prop}{N:Nat}{D:List Deferred}{ρ:Env}{b:cL}{X S:List bq}{ty t:TypeId}{x:Operand}{v:Value}{K:Value→List bq→List bq→Prop}
theorem zo(hx:ev ρ x=some (.iface t v))(h:HQ Q N D (.panic (Ge (.iface t v))) ρ b X S):XH P Q N D ρ b X S (.panic x) ty K:=fun w m a dst pos af g ha=>by
 unfold Oper.wp
 have:(execOp a.eval ⟨dst,.panic x,ty,pos,af,g⟩).run P w= .halt (.panic (.iface t v)) w:=by
  simp[execOp,ha.eval hx,Instr.panic,goPanic]
 rw[this]
 exact h w m a ha
theorem zU{fs:Array Field}{xT:TypeId}{w:World}(ht:P.underlying t=some (.struct fs)):(Instr.typeAssert (.iface t v) xT t true).run P w= .ok (.tuple #[v,.bool true]) w:=by
 simp[Instr.typeAssert,run_underlying ht]
theorem AW{fs:Array Field}{xT:TypeId}{w:World}{z:Value}{sz bytes:Nat}(ht:P.underlying t=some (.struct fs))(hT:TI P t z sz bytes):(Instr.typeAssert .nilIface xT t true).run P w= .ok (.tuple #[z,.bool false]) w:=by
 simp[Instr.typeAssert,run_underlying ht,pF hT]
end
section
variable{P:Program}{fn:Func}{R:Value→List bq→List bq→Prop}{N:Nat}{ρ:Env}{b:cL}{X X' Xz S S' :List bq}{w:World}
theorem rY{t:TypeId}{p:Addr}{v:Value}(ha:dz P t=some false)(hc:w.cell? p=some v):(loadVar t p).run P w= .ok v w:=by
 simp[loadVar,jM ha,hc]
theorem iv{t t' :Nat}{ty ty' :TypeId}{p p' :Addr}{v v' :Value}(hr:fn.results= #[.cell t ty,.cell t' ty'])(hv:get ρ t=some (.pointer (some p)))(hv' :get ρ t' =some (.pointer (some p')))(ha:dz P ty=some false)(ha' :dz P ty' =some false)
  (hc:∀{w},Mem b X S w→w.cell? p=some v) (hc' :∀{w},Mem b X S w→w.cell? p' =some v') (is:List Nat) (hX:b5 is X=some (X',Xz)) (js:List Nat) (hS:dV js S=some S') (hR:R (.tuple #[v,v']) X' S'):Eo P fn b R N [] ρ X S .returning:=fun w m tmps h=>
 ⟨.tuple #[v,v'],by have h1:=q8 h hv;have h2:=q8 h hv';simp at h1 h2;simp[results,hr,h1,h2,asAddr,rY ha (hc m),rY ha' (hc' m)],_,_,_,rfl,hR,m.out is hX js hS⟩
theorem zO{e:Exit}{t1 t2 t3 t4:Nat}{v1 v2 v3 v4:Value}(he:Leaves e)(hr:fn.results= #[.tmp t1,.tmp t2,.tmp t3,.tmp t4])(h1:get ρ t1=some v1)(h2:get ρ t2=some v2)(h3:get ρ t3=some v3)(h4:get ρ t4=some v4)(is:List Nat)(hX:b5 is X=some (X',Xz))(js:List Nat)(hS:dV js S=some S')(hR:R (.tuple #[v1,v2,v3,v4]) X' S'):HQ (bodyPost P fn (RB b R)) N [] e ρ b X S:=
 fun w m=>gM he (fun a hA=>by have g1:=hA.getD h1;have g2:=hA.getD h2;have g3:=hA.getD h3;have g4:=hA.getD h4;simp at g1 g2 g3 g4;simp[results,hr,g1,g2,g3,g4]) ⟨_,_,_,rfl,hR,m.out is hX js hS⟩
theorem qE{u:FrameMode}{D:List Deferred}(h:∀w,Mem b X S w→Mem b X' S' w)(k:Eo P fn b R N D ρ X' S' u):Eo P fn b R N D ρ X S u:=fun w m=>k w (h w m)
end
end Go.Eng
end
section
namespace Go.Eng
open Go.RowKit
section
variable{P:Program}{Q:Exit→Act→World→Prop}{N:Nat}{D:List Deferred}{c:Code}{ρ:Env}{b:cL}{X S:List bq}
theorem pr{α β:Type}(R:α→β→Env)(X1 S1:α→β→List bq)(I:α→β→Prop)(ρk:Env)(hk:fC ρk ρ)(is:List Nat){Xt Xr:List bq}(hX:b5 is X=some (Xt,Xr))
  (h:HC P (yk N D (fun i:α×β=>R i.1 i.2++ρk) fun i w=>Mem b (X1 i.1 i.2++Xr) (S1 i.1 i.2++S) w∧I i.1 i.2) N D c ρ b X S) (k:∀x y,I x y→HQ Q N D .normal (R x y++ρk) b (X1 x y++Xr) (S1 x y++S)):HC P Q N D c ρ b X S:=
 HS (fun i:α×β=>R i.1 i.2++ρk) (fun i=>X1 i.1 i.2++Xr) (fun i=>S1 i.1 i.2++S) (fun i=>I i.1 i.2) h fun i hi=>k (i.1) (i.2) hi
theorem dr{α β:Type}{R:α→β→Env}{X1 S1:α→β→List bq}{I:α→β→Prop}{ρ0:Env}{Xr Sr:List bq}(x:α)(y:β)(hs:fC (R x y++ρ0) ρ)(is:List Nat){Xz:List bq}(hX:b5 is X=some (X1 x y++Xr,Xz))(js:List Nat)(hS:dV js S=some (S1 x y++Sr))(hI:I x y):
  HQ (yk N D (fun i:α×β=>R i.1 i.2++ρ0) fun i w=>Mem b (X1 i.1 i.2++Xr) (S1 i.1 i.2++Sr) w∧I i.1 i.2) N D .normal ρ b X S:=
 Gj (i:=(x,y)) hs is hX js hS hI
end
end Go.Eng
end
section
namespace Go.Eng
open Go.RowKit
open Go.ChangeMaps (setBlock)
section
variable{b:cL}{X S Xp Xq:List bq}{w:World}{r:bq}
theorem Mem.mT(m:Mem b (fY Xp::X) S w)(h:Xp.Perm Xq):Mem b (fY Xq::X) S w:=((m.unpack).perm (h.append_right X)).pack
theorem Mem.tm(m:Mem b (fY Xp::X) S w)(i:Nat)(h:Xp[i]? =some r):Mem b (r::fY (Xp.eraseIdx i)::X) S w:=by
 obtain⟨hlt,rfl⟩:=List.getElem?_eq_some_iff.1 h
 have m1:=(m.mT (gI Xp i hlt).symm).unpack
 rw[List.cons_append]at m1
 have m2:Mem b (Xp.eraseIdx i++(Xp[i]::X)) S w:=m1.perm (List.perm_middle.symm)
 exact(m2.pack).perm (List.Perm.swap ..)
theorem Mem.sV(m:Mem b (r::fY Xp::X) S w):Mem b (fY (r::Xp)::X) S w:=by
 have m1:Mem b (fY Xp::r::X) S w:=m.perm (List.Perm.swap ..)
 have m2:=m1.unpack
 have m3:Mem b ((r::Xp)++X) S w:=m2.perm (List.perm_middle)
 exact m3.pack
theorem Mem.CQ(m:Mem b X S w):Mem b (fY []::X) S w:=Mem.pack (Xp:=[]) m
end
abbrev Bn(n:Nat):={l:List UInt8//l.length=n}
def KN{n:Nat}(d:Bn n):Value:=DV d.1
theorem Bq{P:Program}{kt e:TypeId}{n:Nat}(ht:P.underlying kt=some (.array n e))(he:P.underlying e=some (.int .u8))(hs:P.cellsOf kt=n)(hse:P.cellsOf e=1)(hk:P.keyTypeAt 2 kt=true):oX P kt (KN (n:=n))where
 inj a b h:=Subtype.ext (sb h)
 check w em d:=by
  have h1:(KN d).formed P kt=true:=by simp[Value.formed,KN,DV,ht,az,d.2,hs]
  have h2:=fF (P:=P) (D:=0) (l:=d.1) ht he hs hse d.2
  exact run_checkKey_deep em 9998 2 kt hk w 2 (KN d) _ h1 (by simpa[KN,DV,Value.cells]using h2)
 find w k es h:=by
  have hag:dz P kt=some true:=by simp[dz,ht]
  have heq:∀q:Bn n,(Op.equal kt (KN k) (KN q)).run P w= .ok (decide (k=q)) w:=fun q=>by
   have h2:=fF (P:=P) (D:=0) (l:=k.1) ht he hs hse k.2
   have h3:=fF (P:=P) (D:=0) (l:=q.1) ht he hs hse q.2
   exact mP (m:=2) (p:=k=q) (by decide) hk hag (by rw[az,hs];exact k.2) (by rw[az,hs];exact q.2) h2 h3 (by rw[jq];exact⟨fun e=>Subtype.ext e,fun e=>by rw[e]⟩)
  have hnow:∀(es:List MapEntry) (i:Nat),es≠ []→Instr.findNow (.array n e) (KN k) es i=none:=fun es i hne=>by
   cases es with
   |nil=>exact absurd rfl hne
   |cons x r=>rfl
  have hask:∀(es:List MapEntry) (i:Nat),(∀x∈es,∃q:Bn n,x.key=KN q)→(∃j x,es[j]? =some x∧x.key=KN k∧(Instr.findAsking kt (KN k) es i).run P w= .ok (some (i+j,x.val)) w)∨((∀x∈es,x.key≠KN k)∧(Instr.findAsking kt (KN k) es i).run P w= .ok none w):=by
   intro es
   induction es with
   |nil=>intro i _;exact .inr ⟨by simp,rfl⟩
   |cons x r ih=>
    intro i h
    obtain⟨q,hq⟩:=h x (by simp)
    have hx:=heq q
    rw[←hq]at hx
    by_cases hkq:k=q
    ·rw[decide_eq_true hkq]at hx
     exact .inl ⟨0,x,rfl,by rw[hq,hkq],by simp[Instr.findAsking,hx]⟩
    ·rw[decide_eq_false hkq]at hx
     rcases ih (i+1) (fun y hy=>h y (by simp[hy]))with⟨j,y,hj,hy,hf⟩|⟨hall,hf⟩
     ·refine .inl ⟨j+1,y,by simpa using hj,hy, ?_⟩
      simp[Instr.findAsking,hx,hf]
      omega
     ·refine .inr ⟨fun y hy=> ?_,by simp[Instr.findAsking,hx,hf]⟩
      rcases List.mem_cons.1 hy with rfl|hy
      ·rw[hq];exact fun e=>hkq (Subtype.ext (sb e)).symm
      ·exact hall y hy
  cases es with
  |nil=>exact .inr ⟨by simp,by simp[Instr.findKey,run_underlying ht,Instr.findNow]⟩
  |cons x r=>
   have h0:=hnow (x::r) 0 (by simp)
   rcases hask (x::r) 0 h with⟨j,y,hj,hy,hf⟩|⟨hall,hf⟩
   ·refine .inl ⟨j,y,hj,hy, ?_⟩
    simp[Instr.findKey,run_underlying ht,h0,hf]
   ·exact .inr ⟨hall,by simp[Instr.findKey,run_underlying ht,h0,hf]⟩
 stays w k:=by
  have:Instr.sameBits 10000 (KN k) (KN k)=true:=by
   show((aW k.1).toArray.size == (aW k.1).toArray.size && ((aW k.1).toArray.toList.zip (aW k.1).toArray.toList).all fun(x,y)=>Instr.sameBits 9999 x y)=true
   simp only[beq_self_eq_true,Bool.true_and]
   exact qf 9999 k.1
  simp[Instr.keyThatStays,this]
section
variable{κ:Type}[DecidableEq κ]{enc:κ→Value}
def xn(enc:κ→Value)(w:World)(b:Nat)(l:List (κ×Value))(k:κ)(st:Nat):Prop:=
 ∃es clock,w.heap[b]? =some (.map es clock)∧es.toList.map (fun e=>(e.key,e.val))=l.map (fun p=>(enc p.1,p.2))∧(cn l).Nodup∧(∀e∈es.toList,e.born<clock)∧(es.toList.map (·.born)).Nodup∧∃(i:Nat) (x:MapEntry) (u:Value),es.toList[i]? =some x∧x.born=st∧l[i]? =some (k,u)
def CG(enc:κ→Value)(b:Nat)(l:List (κ×Value))(k:κ)(st:Nat):bq where
 dD i:=i=b
 holds w:=xn enc w b l k st
 keep f h m:=by
  obtain⟨es,clock,hb,rest⟩:=m
  exact⟨es,clock,(f.block b (dw hb) (h b rfl)).trans hb,rest⟩
 low m hk:=by
  obtain⟨es,clock,hb,rest⟩:=m
  exact hk▸dw hb
theorem rz{l:List (κ×Value)}{k:κ}{u v:Value}:cQ (cQ l k u) k v=cQ l k v:=by
 induction l with
 |nil=>simp[cQ]
 |cons p r ih=>
  obtain⟨q,x⟩:=p
  by_cases h:q=k
  ·simp[cQ,h]
  ·simp[cQ,h,ih]
theorem vi{P:Program}{w:World}{t kt et:TypeId}{b:Nat}{l:List (κ×Value)}{z:Value}{sz bytes:Nat}(ht:P.underlying t=some (.map kt et))(hT:TI P et z sz bytes)(K:oX P kt enc)(h:gR enc w b l)(k:κ):
  ∃(st:Nat) (w' :World),(Instr.mapEntry t (.map (some b)) (enc k)).run P w= .ok (.tuple #[(ck l k).getD z,.int .i64 (st:Nat)]) w' ∧xn enc w' b (cQ l k ((ck l k).getD z)) k st∧Fr (fun i=>i=b) w w' :=by
 have hn:=h.keys
 obtain⟨es,clock,hb,hl,hborn,hnb,hf⟩:=h.found K k
 have hg:(getObj b).run P w= .ok (.map es clock) w:=by simp[getObj,Sem.run,hb]
 have hc:=K.check w false k
 rcases hf with⟨i,x,hi,hp,ha,hx,hf⟩|⟨ha,hf⟩
 ·have hst:=K.stays w k
  have hxi:es[i]? =some x:=by simpa using hi
  have hsame:es.modify i (fun e=>{e with key:=enc k})=es:=by
   apply Array.ext'
   apply List.ext_getElem?
   intro j
   rw[Array.toList_modify,List.getElem?_modify]
   by_cases hij:i=j
   ·subst hij
    rw[hi]
    show some (if i=i then({x with key:=enc k}:MapEntry)else x)=some x
    rw[if_pos rfl,←hx]
   ·simp[hij]
  refine⟨x.born,setBlock w b (.map es clock), ?_,⟨es,clock,eF hb, ?_,gA hn,hborn,hnb,i,x,x.val,hi,rfl, ?_⟩,eb⟩
  ·rw[ha]
   simp[Instr.mapEntry,run_underlying ht,hg,hc,hf,hxi,hx,hst,hsame,fb hb,goInt]
  ·rw[ha,pf hn hp,hl]
   congr 1
   apply List.ext_getElem?
   intro j
   rw[List.getElem?_set]
   by_cases hij:i=j
   ·subst hij
    rw[if_pos rfl,if_pos (List.getElem?_eq_some_iff.1 hp).1,hp]
    rfl
   ·rw[if_neg hij]
  ·rw[ha,pf hn hp,List.getElem?_set,if_pos rfl,if_pos (List.getElem?_eq_some_iff.1 hp).1]
   rfl
 ·have hlen:es.toList.length=l.length:=by have:=congrArg List.length hl;simpa using this
  refine⟨clock,setBlock w b (.map (es.push {key:=enc k,val:=z,born:=clock}) (clock+1)), ?_,⟨_,_,eF hb, ?_,gA hn, ?_, ?_,es.toList.length,{key:=enc k,val:=z,born:=clock},z,by simp,rfl, ?_⟩,eb⟩
  ·rw[ha]
   simp[Instr.mapEntry,run_underlying ht,hg,hc,hf,pF hT,fb hb,goInt]
  ·rw[ha,ni ha,Array.toList_push,List.map_append,hl]
   simp
  ·intro e he
   rw[Array.toList_push]at he
   rcases List.mem_append.1 he with he|he
   ·have:=hborn e he;omega
   ·rcases List.mem_singleton.1 he with rfl
    exact Nat.lt_succ_self _
  ·rw[Array.toList_push,List.map_append]
   refine mr hnb (fun hm=> ?_)
   obtain⟨e,he,hk⟩:=List.mem_map.1 hm
   have:=hborn e he
   simp only at hk
   omega
  ·rw[ha,ni ha,hlen]
   simp
theorem uz{P:Program}{w:World}{t:TypeId}{b:Nat}{l:List (κ×Value)}{k:κ}{st:Nat}(h:xn enc w b l k st)(v:Value):
  ∃w',(Instr.entryStore t (.map (some b)) (.int .i64 (st:Nat)) v).run P w= .ok () w' ∧gR enc w' b (cQ l k v)∧Fr (fun i=>i=b) w w' :=by
 obtain⟨es,clock,hb,hl,hn,hborn,hnb,i,x,u,hi,rfl,hp⟩:=h
 have hg:(getObj b).run P w= .ok (.map es clock) w:=by simp[getObj,Sem.run,hb]
 have hidx:es.findIdx? (fun e=>((e.born:Nat):Int) == ((x.born:Nat):Int))=some i:=by
  rw[WideElems.findIdx_arr]
  exact WideElems.findIdx_born hnb hi
 refine⟨setBlock w b (.map (es.modify i fun e=>{e with val:=v}) clock), ?_,⟨_,clock,eF hb, ?_,gA hn, ?_, ?_⟩,eb⟩
 ·simp[Instr.entryStore,hg,asInt,asIntOf,hidx,fb hb]
 ·rw[pf hn hp,Array.toList_modify]
  apply List.ext_getElem?
  intro j
  have hj:=congrArg (fun q:List (Value×Value)=>q[j]?) hl
  simp only[List.getElem?_map]at hj
  simp only[List.getElem?_map,List.getElem?_modify,List.getElem?_set]
  by_cases hij:i=j
  ·subst hij
   have hlt:=(List.getElem?_eq_some_iff.1 hp).1
   rw[hi,hp]at hj
   simp only[Option.map_some,Option.some.injEq,Prod.mk.injEq]at hj
   simp[hi,hlt,hj.1]
  ·simp only[hij,if_false]
   simpa using hj
 ·intro e he
  rw[Array.toList_modify]at he
  obtain⟨j,hj⟩:=List.mem_iff_getElem?.1 he
  rw[List.getElem?_modify]at hj
  cases hej:es.toList[j]? with
  |none=>rw[hej]at hj;simp at hj
  |some e0=>
   have:=hborn e0 (List.mem_of_getElem? hej)
   rw[hej]at hj
   simp only[Option.map_eq_map,Option.map_some,Option.some.injEq]at hj
   subst hj
   split <;> exact this
 ·have:(es.modify i fun e=>{e with val:=v}).toList.map (·.born)=es.toList.map (·.born):=by
   apply List.ext_getElem?
   intro j
   rw[Array.toList_modify]
   simp only[List.getElem?_map,List.getElem?_modify]
   cases es.toList[j]? with
   |none=>rfl
   |some e0=>simp only[Option.map_eq_map,Option.map_some];split <;> rfl
  rw[this]
  exact hnb
section
variable{P:Program}{Q:Exit→Act→World→Prop}{N:Nat}{D:List Deferred}{ρ:Env}{b:cL}{X S:List bq}{ty t kt et:TypeId}{x y q:Operand}{K:Value→List bq→List bq→Prop}{g:Nat}{l:List (κ×Value)}
theorem zR{k:κ}{z:Value}{sz bytes:Nat}(i:Nat)(hi:X[i]? =some (dg enc g l))(hx:ev ρ x=some (.map (some g)))(hy:ev ρ y=some (enc k))(ht:P.underlying t=some (.map kt et))(hT:TI P et z sz bytes)(hK:oX P kt enc)
  (kk:∀st:Nat,K (.tuple #[(ck l k).getD z,.int .i64 (st:Nat)]) (CG enc g (cQ l k ((ck l k).getD z)) k st::X.eraseIdx i) S):XH P Q N D ρ b X S (.mapEntry t x y) ty K:=fun w m=>by
 obtain⟨st,w',hrun,hE,hf⟩:=vi ht hT hK (m.pn i hi) k
 refine de (v' :=.tuple #[(ck l k).getD z,.int .i64 (st:Nat)]) (w' :=w') (fun a _ _ _ _ ha=>by simp[execOp,ha.eval hx,ha.eval hy,hrun]) ⟨_,_, ?_,kk st⟩
 have m' :=m.perm (au [i] X [dg enc g l] (X.eraseIdx i) (by simp[b5,hi]))
 exact m'.change (r' :=CG enc g (cQ l k ((ck l k).getD z)) k st) hf hE (fun k hk=>.inl hk)
theorem rP{k:κ}{st:Nat}{v:Value}(i:Nat)(hi:X[i]? =some (CG enc g l k st))(hx:ev ρ x=some (.map (some g)))(hy:ev ρ y=some (.int .i64 (st:Nat)))(hq:ev ρ q=some v)
  (kk:K undef (dg enc g (cQ l k v)::X.eraseIdx i) S):XH P Q N D ρ b X S (.entryStore t x y q) ty K:=fun w m=>by
 have hE:xn enc w g l k st:=m.hx _ (List.mem_of_getElem? hi)
 obtain⟨w',hrun,hM,hf⟩:=uz (P:=P) (t:=t) hE v
 refine kB (w' :=w') (fun a _ _ _ _ ha=>by simp[execOp,ha.eval hx,ha.eval hy,ha.eval hq,hrun]) ⟨_,_, ?_,kk⟩
 have m' :=m.perm (au [i] X [CG enc g l k st] (X.eraseIdx i) (by simp[b5,hi]))
 exact m'.change (r' :=dg enc g (cQ l k v)) hf hM (fun k hk=>.inl hk)
end
end
end Go.Eng
end
section
namespace Go.Eng
theorem lX{cur vs:List Value}{o m j:Nat}(hj:j+vs.length≤m)(hm:o+m≤cur.length):((bJ cur (o+j) vs).drop o).take m=bJ ((cur.drop o).take m) j vs:=by
 apply List.ext_getElem?
 intro i
 rw[pQ (by simp;omega)]
 by_cases hi:i<m
 ·rw[List.getElem?_take_of_lt hi,List.getElem?_drop,pQ (by omega)]
  by_cases h1:i<j
  ·rw[if_pos h1,if_pos (by omega),List.getElem?_take_of_lt hi,List.getElem?_drop]
  ·rw[if_neg h1,if_neg (by omega)]
   by_cases h2:i<j+vs.length
   ·rw[if_pos h2,if_pos (by omega)];congr 1;omega
   ·rw[if_neg h2,if_neg (by omega),List.getElem?_take_of_lt hi,List.getElem?_drop]
 ·rw[List.getElem?_take_eq_none (by omega),if_neg (by omega),if_neg (by omega),List.getElem?_take_eq_none (by omega)]
section
variable{P:Program}{Q:Exit→Act→World→Prop}{N:Nat}{D:List Deferred}{ρ:Env}{w:World}{x y:Operand}{ty t e:TypeId}{v:Value}{K:Value→World→Prop}
theorem Er{A:Option Addr}{n c base sz szt j:Nat}{xs vs:List Value}(hx:ev ρ x=some (.pointer (some ((A.getD d0).add j))))(hy:ev ρ y=some (.agg vs.toArray))(hs:fy P t=some szt)(hl:vs.length=szt)(h1:∀u∈vs,u.oneCell' =true)(h:Own w base e sz (.slice A n c) n xs)(hj:j+szt≤n*sz)(hn0:0<n)
  (k:∀w',Fr (jE (.slice A n c)) w w' →Own w' base e sz (.slice A n c) n (bJ xs j vs)→w'.heap.size=w.heap.size→K undef w'):XW P Q N D ρ w (.store t x y) ty K:=by
 rcases h with⟨hl',⟨h2,rfl⟩|⟨g,o,cap,cur,h2,hb,hg,hn,hm,hc,hxs⟩⟩
 ·omega
 ·injection h2 with h2 h3 h4
  subst h2;subst h4
  have hle:n*sz≤c*sz:=Nat.mul_le_mul_right _ hn
  refine AU (g:=g) (o:=o+j) (by rw[hx,Option.getD_some,e7]) hy hs hl h1 hg (by omega) fun w' hf hb' hsz=>k w' ?_ ⟨?_,.inr ⟨g,o,c,_,rfl,hb,hb',hn,hm,by rw[dT (by omega)];exact hc, ?_⟩⟩ hsz
  ·exact hf.mono fun i _ hi=>hi
  ·rw[dT (by omega)];exact hl'
  ·rw[lX (by omega) (by omega),hxs]
theorem Cy{A B:Option Addr}{n c base sz bytes m c' k:Nat}{z:Value}{xs:List Value}(hx:ev ρ x=some (.slice B m c'))(ht:P.underlying t=some (.slice e))(hT:TI P e z sz bytes)(hz:z.cells.size=sz)(h1:∀u∈z.cells.toList,u.oneCell' =true)(h:Own w base e sz (.slice A n c) n xs)(hB:0<m→B=some ((A.getD d0).add (k*sz)))(hk:k+m≤n)
  (kk:∀w' zs,Fr (jE (.slice A n c)) w w' →zs.length=m*sz→Own w' base e sz (.slice A n c) n (bJ xs (k*sz) zs)→w'.heap.size=w.heap.size→K (.tuple #[]) w'):XW P Q N D ρ w (.call ⟨.builtin .clear, #[x], #[t]⟩) ty K:=by
 obtain⟨i,hi,hzero,_,_⟩:=hT.get
 rcases Nat.eq_zero_or_pos m with rfl|hm
 ·refine de (v' :=.tuple #[]) (w' :=w) (fun a _ _ _ _ ha=> ?_) (kk w [] (Fr.refl _ _) (by simp) (by rw[ml];exact h) rfl)
  cases B <;> simp[execOp,resolve,invoke,builtin,Builtin.clear_,ha.eval hx,run_underlying ht]
 ·obtain rfl:=hB hm
  rcases h with⟨hl',⟨h2,rfl⟩|⟨g,o,cap,cur,h2,hb,hg,hn,hmx,hc,hxs⟩⟩
  ·omega
  ·injection h2 with h2 h3 h4
   subst h2;subst h4
   have hle:n*sz≤c*sz:=Nat.mul_le_mul_right _ hn
   have hkm:k*sz+m*sz≤n*sz:=by rw[←Nat.add_mul];exact Nat.mul_le_mul_right _ hk
   have hzl:(Builtin.zeroCells z.cells m).toList.length=m*sz:=by simp[Builtin.zeroCells,hz]
   have hz1:∀u∈(Builtin.zeroCells z.cells m).toList,u.oneCell' =true:=by
    intro u hu
    rw[Builtin.zeroCells,Array.toList_map,List.mem_map]at hu
    obtain⟨j,hj,rfl⟩:=hu
    have hj2:j<m*z.cells.size:=by simpa using hj
    have h0:0<z.cells.size:=by
     rcases Nat.eq_zero_or_pos z.cells.size with h|h
     ·rw[h,Nat.mul_zero]at hj2;omega
     ·exact h
    have hlt:j % z.cells.size<z.cells.size:=Nat.mod_lt _ h0
    rw[getElem!_pos z.cells _ hlt]
    exact h1 _ (Array.getElem_mem_toList hlt)
   obtain⟨w',hst,hb',hf,hsz⟩:=kl (P:=P) (Builtin.zeroCells z.cells m).toList (o+k*sz) 0 cur w hg (by omega) hz1
   refine de (v' :=.tuple #[]) (w' :=w') (fun a _ _ _ _ ha=> ?_) (kk w' _ (hf.mono fun i _ hi=>hi) hzl ⟨by rw[dT (by omega)];exact hl',.inr ⟨g,o,c,_,rfl,hb,(by simpa using hb'),hn,hmx,by rw[dT (by omega)];exact hc,by rw[lX (by omega) (by omega),hxs]⟩⟩ hsz)
   obtain⟨m',rfl⟩:∃m',m=m' +1:=⟨m-1,by omega⟩
   simp[execOp,resolve,invoke,builtin,Builtin.clear_,ha.eval hx,run_underlying ht,zeroValue,typeInfo,hi,hzero,e7,hst]
end
section
variable{P:Program}{Q:Exit→Act→World→Prop}{N:Nat}{D:List Deferred}{ρ:Env}{b:cL}{X S:List bq}{x y:Operand}{ty t t' e:TypeId}{K:Value→List bq→List bq→Prop}
theorem CH{A:Option Addr}{n c sz szt j:Nat}{xs vs:List Value}(i:Nat)(hi:X[i]? =some (aH e sz (.slice A n c) n xs))(hx:ev ρ x=some (.pointer (some ((A.getD d0).add j))))(hy:ev ρ y=some (.agg vs.toArray))(hs:fy P t=some szt)(hl:vs.length=szt)(h1:∀u∈vs,u.oneCell' =true)(hj:j+szt≤n*sz)(hn0:0<n)
  (k:K undef (aH e sz (.slice A n c) n (bJ xs j vs)::X.eraseIdx i) S):XH P Q N D ρ b X S (.store t x y) ty K:=fun w m=>Er hx hy hs hl h1 (m.own i hi) hj hn0 fun w' hf hb hsz=>⟨_,_,by
  have m' :=m.perm (au [i] X [aH e sz (.slice A n c) n xs] (X.eraseIdx i) (by simp[b5,hi]))
  exact m'.change (r' :=aH e sz (.slice A n c) n (bJ xs j vs)) hf hb (fun k hk=>.inl hk),k⟩
theorem yU{A B:Option Addr}{n c sz bytes m c' k:Nat}{z:Value}{xs:List Value}(i:Nat)(hi:X[i]? =some (aH e sz (.slice A n c) n xs))(hx:ev ρ x=some (.slice B m c'))(ht:P.underlying t=some (.slice e))(hT:TI P e z sz bytes)(hz:z.cells.size=sz)(h1:∀u∈z.cells.toList,u.oneCell' =true)(hB:0<m→B=some ((A.getD d0).add (k*sz)))(hk:k+m≤n)
  (kk:∀zs,zs.length=m*sz→K (.tuple #[]) (aH e sz (.slice A n c) n (bJ xs (k*sz) zs)::X.eraseIdx i) S):XH P Q N D ρ b X S (.call ⟨.builtin .clear, #[x], #[t]⟩) ty K:=fun w mm=>Cy hx ht hT hz h1 (mm.own i hi) hB hk fun w' zs hf hzl hb hsz=>⟨_,_,by
  have m' :=mm.perm (au [i] X [aH e sz (.slice A n c) n xs] (X.eraseIdx i) (by simp[b5,hi]))
  exact m'.change (r' :=aH e sz (.slice A n c) n (bJ xs (k*sz) zs)) hf hb (fun k hk=>.inl hk),kk zs hzl⟩
end
end Go.Eng
end
section
set_option maxRecDepth 20000
namespace Go.Proofs.YtmibdabdlgmafaaGreatDoor
open Go.Eng Go.Hx
theorem u4{w:World}{A:Option Addr}{n:Nat}{ds:List (List UInt8)}(h:Rd w 32 A n (dc ds))(hd:kJ ds):ds.length=n:=by
 have:=h.1
 rw[gp hd]at this
 omega
end Go.Proofs.YtmibdabdlgmafaaGreatDoor
end
section
set_option maxRecDepth 20000
namespace Go.Proofs.YtmibdabdlgmafaaGreatDoor
open Go.Eng Go.Hx
theorem yh(ds:List (List UInt8))(k:Nat)(h:k<ds.length):(ds.take (k+1)).foldl eL []=eL ((ds.take k).foldl eL []) (ds.getD k []):=by
 rw[List.take_succ_eq_append_getElem h,List.foldl_append,List.getD,List.getElem?_eq_getElem h]
 rfl
theorem yZ{ds:List (List UInt8)}(h:kJ ds)(k:Nat):kJ ((ds.take k).foldl eL [])∧((ds.take k).foldl eL []).length≤k:=by
 induction k with
 |zero=>exact⟨fun d hd=>by simp at hd,by simp⟩
 |succ k ih=>
  by_cases hk:k<ds.length
  ·rw[yh ds k hk]
   have:=oh ((ds.take k).foldl eL []) (ds.getD k [])
   exact⟨tz ih.1 (eT h hk),by omega⟩
  ·rw[List.take_of_length_le (by omega)]at ih ⊢
   exact⟨ih.1,by omega⟩
end Go.Proofs.YtmibdabdlgmafaaGreatDoor
end
section
set_option maxRecDepth 20000
namespace Go.Proofs.YtmibdabdlgmafaaGreatDoor
open Go.Eng Go.Hx
end Go.Proofs.YtmibdabdlgmafaaGreatDoor
end
section
set_option maxRecDepth 20000
namespace Go.Proofs.YtmibdabdlgmafaaGreatDoor
open Go.Eng Go.Hx
theorem number(n:Nat)(w:World)(hn:n<4294967296):
  Calls Tryz.prog 160 #[.int .i64 (n:Int)] w fun e w' =>∃v,e= .returned v∧Go.Eng.Own w' w.heap.size 5 1 v 4 (aW (gP n))∧Fr No w w' :=by
 refine enter (N:=21) Tryz.func160 rfl rfl (by simp) ?_
 refine aV<|bd<|nq (ab rfl)<|bc<|aF<|aV<|bd<|nq (aa rfl)<|nq (bX rfl Tryz.underlying3 Tryz.underlying166 ((wq (by omega) (by omega))))<|nq (ab rfl)<|bc<|bE (ae (t:=3) rfl<|ae (t:=2) rfl<|ae (t:=0) rfl<|aC)<|aF<|aV<|bd<|nq (aa rfl)<|nq (gN rfl rfl (by omega) (by omega))<|nq (bX rfl Tryz.underlying166 Tryz.underlying5 ((show IntKind.u8.wrap ((n:Int) % 256)=((UInt8.ofNat n).toNat:Int) by simp[IntKind.wrap,IntKind.signed,IntKind.bits])))<|nq (aa rfl)<|nq (jV rfl rfl (by omega) (by omega) (wq (by omega) (by omega)))<|nq (gN rfl rfl (by omega) (by omega))<|nq (bX rfl Tryz.underlying166 Tryz.underlying5 ((show IntKind.u8.wrap ((n:Int)/256 % 256)=((UInt8.ofNat (n/256)).toNat:Int) by simp[IntKind.wrap,IntKind.signed,IntKind.bits])))<|nq (aa rfl)<|nq (jV rfl rfl (by omega) (by omega) (wq (by omega) (by omega)))<|nq (gN rfl rfl (by omega) (by omega))<|nq (bX rfl Tryz.underlying166 Tryz.underlying5 ((show IntKind.u8.wrap ((n:Int)/65536 % 256)=((UInt8.ofNat (n/65536)).toNat:Int) by simp[IntKind.wrap,IntKind.signed,IntKind.bits])))<|nq (aa rfl)<|nq (jV rfl rfl (by omega) (by omega) (wq (by omega) (by omega)))<|nq (bX rfl Tryz.underlying166 Tryz.underlying5 ((show IntKind.u8.wrap ((n:Int)/16777216)=((UInt8.ofNat (n/16777216)).toNat:Int) by simp[IntKind.wrap,IntKind.signed,IntKind.bits])))<| ?_
 refine nx (mQ Tryz.underlying27 fk rfl rfl rfl (by simp[Value.cells,B8]) (by decide) (by decide) fun g w1 hg hf1 hb1=> ?_)
 refine nq (ab rfl)<|bc<|bE (ae (t:=2) rfl<|ae (t:=3) rfl<|ae (t:=0) rfl<|aC)<|aF<|dP<| ?_
 exact ff trivial rfl rfl ⟨_,rfl,Own.made hb1 hg (Nat.le_refl _) (by decide) rfl,hf1⟩
end Go.Proofs.YtmibdabdlgmafaaGreatDoor
end
section
set_option maxRecDepth 20000
namespace Go.Proofs.YtmibdabdlgmafaaGreatDoor
open Go.Eng Go.Hx
theorem D7{A:Option Addr}{n c:Nat}{l:List UInt8}{m:Nat}(hc:n≤c)(hn:n≤140737488351232):cf Tryz.prog 32 [.slice A n c,.int .i64 (m:Int)] [] [di 1 A n (aW l)] (fun v_ X_ S_=>∃v,v_=v∧X_=[aH 5 1 v (min n m) (aW (l.take m))]∧S_=[]):=by
 exact kS fun mm=>Calls.mono (Iv A n c l m _ (mm.rd 0 rfl) hc hn) (fun e w' ⟨v,h,ho,hf⟩=>⟨v,v,_,_,_,_,h,⟨v,rfl,rfl,rfl⟩,ho,hf⟩)
theorem sA{n m:Int}(h1:-9223372036854775808≤n)(h2:n≤9223372036854775807)(hm:0<m):cf Tryz.prog 16 [.int .i64 n,.int .i64 m] [] [] (fun v_ X_ S_=>v_=(.int .i64 (ef n m))∧X_=[]∧S_=[]):=by
 exact fU fun mm=>Calls.mono (zC n m _ h1 h2 hm) (fun e w' ⟨h,hw⟩=>⟨_,h,⟨rfl,rfl,rfl⟩,hw▸Fr.refl _ _⟩)
theorem zn{A:Option Addr}{n c:Nat}{l:List UInt8}(hn:n≤70368744177664):cf Tryz.prog 189 [.slice A n c] [] [di 1 A n (aW l)] (fun v_ X_ S_=>∃v,v_=v∧X_=[aH 5 1 v (n+4) (aW (Bv l))]∧S_=[]):=by
 exact kS fun m=>Calls.mono (Df A n c l _ (m.rd 0 rfl) hn) (fun e w' ⟨v,h,ho,hf⟩=>⟨v,v,_,_,_,_,h,⟨v,rfl,rfl,rfl⟩,ho,hf⟩)
theorem BX{n:Nat}(hn:n<4294967296):cf Tryz.prog 160 [.int .i64 (n:Int)] [] [] (fun v_ X_ S_=>∃v,v_=v∧X_=[aH 5 1 v 4 (aW (gP n))]∧S_=[]):=by
 exact kS fun m=>Calls.mono (number n _ hn) (fun e w' ⟨v,h,ho,hf⟩=>⟨v,v,_,_,_,_,h,⟨v,rfl,rfl,rfl⟩,ho,hf⟩)
theorem xD{a b:List UInt8}(ha:a.length=32)(hb:b.length=32):cf Tryz.prog 171 [.agg (aW a).toArray,.agg (aW b).toArray] [] [] (fun v_ X_ S_=>v_=(.int .i64 (cb a b))∧X_=[]∧S_=[]):=by
 exact fU fun m=>Calls.mono (zd a b _ ha hb) (fun e w' ⟨h,hf⟩=>⟨_,h,⟨rfl,rfl,rfl⟩,hf⟩)
end Go.Proofs.YtmibdabdlgmafaaGreatDoor
end
section
set_option maxRecDepth 20000
namespace Go.Proofs.YtmibdabdlgmafaaGreatDoor
open Go.Eng Go.Hx Go.Sort
structure o4 where
 b:List UInt8
 h:b.length=32
theorem o4.ext'{x y:o4}(e:x.b=y.b):x=y:=by
 cases x
 cases y
 cases e
 rfl
instance:Inhabited o4:=⟨⟨List.replicate 32 0,List.length_replicate⟩⟩
def mg(x:o4):List Value:=aW x.b
theorem ua(x:o4):(mg x).length=32:=by rw[mg,az,x.h]
theorem wC(l:List o4):kJ (l.map (·.b)):=fun d hd=>by
 obtain⟨x,_,rfl⟩:=List.mem_map.1 hd
 exact x.h
theorem Di{ds:List (List UInt8)}(h:kJ ds):∃l:List o4,l.map (·.b)=ds:=by
 induction ds with
 |nil=>exact⟨[],rfl⟩
 |cons d r ih=>
  obtain⟨l,hl⟩:=ih (fun x hx=>h x (List.mem_cons_of_mem _ hx))
  exact⟨⟨d,h d (List.mem_cons_self ..)⟩::l,by rw[List.map_cons,hl]⟩
theorem xd(l:List o4):flatK mg 32 l.toArray=(dc (l.map (·.b))).toArray:=by
 have hD:=wC l
 apply Array.ext
 ·simp[gp hD]
 ·intro t h1 h2
  have ht:t<l.length*32:=by simpa using h1
  have hq:t/32<l.length:=by omega
  have e1:(flatK mg 32 l.toArray)[t]! =(mg l.toArray[t/32]!)[t % 32]! :=get_flatK _ _ _ t (by simpa using ht)
  have e0:l.toArray[t/32]! =l[t/32]:=by simp[hq]
  have hl32:=ua l[t/32]
  have hm:t % 32<(mg l[t/32]).length:=by rw[hl32];omega
  have e2:(aW ((l.map (·.b)).getD (t/32) []))[t % 32]? =some ((mg l[t/32])[t % 32]):=by
   have:(l.map (·.b)).getD (t/32) []=l[t/32].b:=by simp[List.getD,hq]
   rw[this]
   exact List.getElem?_eq_getElem hm
  have e3:=zK hD (t/32) (by simpa using hq) (t % 32) _ e2
  have e4:t/32*32+t % 32=t:=by omega
  rw[e4]at e3
  have e5:=(List.getElem?_eq_some_iff.1 e3).2
  rw[←getElem!_pos (flatK mg 32 l.toArray) t h1,e1,e0,getElem!_pos (mg l[t/32]) (t % 32) hm,List.getElem_toArray]
  exact e5.symm
theorem A0(aZ off size:Nat)(w:World):CmpLays Tryz.prog 148 #[] mg 32 (fun x y:o4=>cb x.b y.b) aZ off size w:=fun m os dk _ x y=>by
 have:=z6 x.b y.b (sortWorldK mg 32 w aZ off m dk os) x.h y.h
 simpa[mg]using this
theorem G9(x y:o4):ltOf (fun x y:o4=>cb x.b y.b) x y=decide (cb x.b y.b<0):=rfl
theorem Hz:SWO (ltOf fun x y:o4=>cb x.b y.b)where
 irrefl x:=by rw[G9,mJ];rfl
 trans x y z h1 h2:=by
  rw[G9]at*
  simp only[decide_eq_true_eq]at*
  exact k7 h1 h2
 ntrans x y z h1 h2:=by
  rw[G9]at*
  simp only[decide_eq_false_iff_not]at*
  have a1:=gC x.b y.b
  have a2:=gC y.b z.b
  have a3:=gC x.b z.b
  have:=mZ z.b y.b x.b (by omega) (by omega)
  omega
theorem Ho(x y:o4)(h:ltOf (fun x y:o4=>cb x.b y.b) x y=false)(h2:ltOf (fun x y:o4=>cb x.b y.b) y x=false):x=y:=by
 rw[G9]at*
 simp only[decide_eq_false_iff_not]at*
 have:=gC x.b y.b
 exact o4.ext' (pA _ _ (by omega))
theorem CP(l:List o4):(l.mergeSort fun x y=> !(ltOf (fun x y:o4=>cb x.b y.b)) y x).map (·.b)=kn (l.map (·.b)):=List.map_mergeSort fun a _ b _=>rfl
theorem xM{w:World}{g n o:Nat}{os:Array Obj}{cur:Array Value}{e:TypeId}{fr:Nat×Nat}(d:Array Value)(hb:w.heap[g]? =some (.cells cur e fr)):
  (grow (putRow id (Go.Sort.ahead w n) g o d) os).heap[g]? =some (.cells (putCells id o d cur) e fr):=by
 have hg:g<w.heap.size:=(Array.getElem?_eq_some_iff.1 hb).1
 rw[heap_grow_old _ _ (by simpa using hg)]
 simp[putRow,mapBlock,Go.Sort.ahead,Array.getElem?_modify,hb,onCells]
theorem CV{w:World}{g n o:Nat}{os:Array Obj}(d:Array Value):Fr (fun k=>k=g) w (grow (putRow id (Go.Sort.ahead w n) g o d) os):=by
 refine⟨rfl,rfl,rfl,by simp,fun k hk hne=> ?_⟩
 rw[heap_grow_old _ _ (by simpa using hk)]
 have:g≠k:=fun e=>hne e.symm
 simp[putRow,mapBlock,Go.Sort.ahead,Array.getElem?_modify,this]
theorem yn(cur:List Value)(o:Nat)(vs:List Value)(h:o+vs.length≤cur.length):((putCells id o vs.toArray cur.toArray).toList.drop o).take vs.length=vs:=by
 apply List.ext_getElem?
 intro j
 by_cases hj:j<vs.length
 ·rw[List.getElem?_take_of_lt hj,List.getElem?_drop,Array.getElem?_toList]
  simp[putCells,hj,show o+j<cur.length by omega]
 ·rw[List.getElem?_take_eq_none (by omega),List.getElem?_eq_none (by omega)]
theorem CX{A:Option Addr}{n c base:Nat}{e:TypeId}{l:List o4}{w:World}(h:Go.Eng.Own w base e 32 (.slice A n c) n (dc (l.map (·.b))))(hn6:n≤1000000):
  Calls Tryz.prog 147 #[.slice A n c,.func (.func 148) #[] #[]] w fun r w' =>r= .returned (.tuple #[])∧Go.Eng.Own w' base e 32 (.slice A n c) n (dc (kn (l.map (·.b))))∧Fr (jE (.slice A n c)) w w' :=by
 obtain⟨h1,h2⟩:=h
 have hD:=wC l
 have hl:l.length=n:=by
  rw[gp hD,List.length_map]at h1
  omega
 rcases h2 with⟨hv,hn⟩|⟨g,o,cap,cur,hv,hb,⟨fr,hh,hf,hfl⟩,hnc,hcm,hfit,hcs⟩
 ·cases hv
  obtain rfl:l=[]:=List.eq_nil_of_length_eq_zero hl
  refine Calls.mono (AnyF.slices_SortFunc_none Tryz.DG none 0 _ w) (fun r w' ⟨hr,hw⟩=>⟨hr, ?_, ?_⟩)
  ·subst hw;exact⟨by simp[kn,dc],.inl ⟨rfl,rfl⟩⟩
  ·subst hw;exact Fr.refl _ _
 ·cases hv
  subst hl
  have hB:fi w g e cur:=⟨fr,hh,hf,hfl⟩
  have hdl:(dc (l.map (·.b))).length=l.length*32:=by rw[gp hD,List.length_map]
  have hH:HoldsK mg 32 w g o l.toArray:=by
   unfold HoldsK
   rw[xd]
   intro j hj
   have hj' :j<(dc (l.map (·.b))).length:=by simpa using hj
   have h3:((cur.drop o).take (l.length*32))[j]? =(dc (l.map (·.b)))[j]? :=by rw[hcs]
   rw[List.getElem?_take_of_lt (by omega),List.getElem?_drop,List.getElem?_eq_getElem hj']at h3
   refine⟨?_,hB.frozen (by omega)⟩
   rw[hB.cell h3]
   simp[hj']
  have hen:∀args w,(callFunc 148 args).run Tryz.prog w= .ok (.enter 148 args) w:=Tryz.call148
  refine Calls.mono (AnyQ.slices_SortFunc_total Tryz.DG 32 Tryz.isAgg53 Tryz.sizeOf53 mg ua (fun x v hv=>gU v hv) (fun x y=>cb x.b y.b) Hz 148 #[] g o c l.toArray w hen (A0 g o _ w) hH hB.lt (by simp;omega) Ho) ?_
  rintro r w' ⟨hr,k,os,rfl⟩
  have hsl:(dc (kn (l.map (·.b)))).length=l.length*32:=by
   rw[gp (fun d hd=>hD d ((jW _).mem_iff.1 hd)),tO,List.length_map]
  have hw' :sortWorldK mg 32 w g o k (l.toArray.toList.mergeSort fun x y=> !(ltOf (fun x y:o4=>cb x.b y.b)) y x).toArray os=grow (putRow id (Go.Sort.ahead w k) g o (dc (kn (l.map (·.b)))).toArray) os:=by
   unfold sortWorldK putRowK
   rw[xd,CP]
  rw[hw']
  refine⟨hr,⟨hsl,.inr ⟨g,o,c,(putCells id o (dc (kn (l.map (·.b)))).toArray cur.toArray).toList,rfl,hb, ?_,hnc,hcm,by simp[putCells];omega, ?_⟩⟩,CV _⟩
  ·have:=xM (n:=k) (o:=o) (os:=os) (dc (kn (l.map (·.b)))).toArray hh
   exact⟨fr,by simpa using this,fun i hi=>hf i (by simpa[putCells]using hi),by simpa[putCells]using hfl⟩
  ·have:=yn cur o (dc (kn (l.map (·.b)))) (by rw[hsl];omega)
   rw[hsl]at this
   exact this
theorem rq{A:Option Addr}{n c:Nat}{e:TypeId}{ds:List (List UInt8)}(hD:kJ ds)(hn:n≤1000000):cf Tryz.prog 147 [.slice A n c,.func (.func 148) #[] #[]] [aH e 32 (.slice A n c) n (dc ds)] [] (fun v_ X_ S_=>v_=(.tuple #[])∧X_=[aH e 32 (.slice A n c) n (dc (kn ds))]∧S_=[]):=by
 obtain⟨l,rfl⟩:=Di hD
 refine fun w m=>Calls.mono (CX (m.own 0 rfl) hn) ?_
 rintro r w' ⟨hr,ho,hf⟩
 exact⟨_,_,_,hr,⟨rfl,rfl,rfl⟩,m.change (r' :=aH e 32 (.slice A n c) n (dc (kn (l.map (fun x:o4=>x.b))))) hf ho (fun k hk=>.inl hk)⟩
end Go.Proofs.YtmibdabdlgmafaaGreatDoor
end
section
set_option maxRecDepth 20000
set_option maxHeartbeats 4000000
namespace Go.Proofs.YtmibdabdlgmafaaGreatDoor
open Go.Eng Go.Hx
theorem tP:∀(l:List (List UInt8)) (a b:List UInt8),lV (l++[a,b])=if a=b then lV (l++[a])else lV (l++[a])++[b]
 | [],a,b=>by
  by_cases h:a=b
  ·simp[lV,h]
  ·simp[lV,h]
 | [x],a,b=>by
  by_cases h:a=b
  ·by_cases h2:x=a <;> simp[lV,h,h2]
  ·by_cases h2:x=a <;> simp[lV,h,h2]
 |x::y::r,a,b=>by
  have ih:=tP (y::r) a b
  simp only[List.cons_append]at ih ⊢
  by_cases h2:x=y
  ·rw[lV,if_pos h2,ih,lV,if_pos h2]
  ·rw[lV,if_neg h2,ih,lV,if_neg h2]
   split <;> rfl
theorem nD{ds:List (List UInt8)}{m:Nat}(h0:0<m)(hm:m<ds.length):lV (ds.take (m+1))=if ds.getD m []=ds.getD (m-1) []then lV (ds.take m)else lV (ds.take m)++[ds.getD m []]:=by
 have e1:ds.take (m+1)=ds.take (m-1)++[ds.getD (m-1) [],ds.getD m []]:=by
  obtain⟨j,rfl⟩:∃j,m=j+1:=⟨m-1,by omega⟩
  rw[Nat.add_sub_cancel,List.take_succ_eq_append_getElem hm,List.take_succ_eq_append_getElem (by omega:j<ds.length),List.append_assoc]
  simp[List.getD,hm,(by omega:j<ds.length)]
 have e2:ds.take m=ds.take (m-1)++[ds.getD (m-1) []]:=by
  obtain⟨j,rfl⟩:∃j,m=j+1:=⟨m-1,by omega⟩
  rw[Nat.add_sub_cancel,List.take_succ_eq_append_getElem (by omega:j<ds.length)]
  simp[List.getD,(by omega:j<ds.length)]
 rw[e1,e2,tP]
 by_cases h:ds.getD (m-1) []=ds.getD m []
 ·rw[if_pos h,if_pos h.symm]
 ·rw[if_neg h,if_neg (fun e=>h e.symm)]
theorem wU(l:List (List UInt8)):(lV l).length≤l.length:=by
 match l with
 | []=>exact Nat.le_refl _
 | [a]=>exact Nat.le_refl _
 |a::b::r=>
  have ih:=wU (b::r)
  unfold lV
  split
  ·simp only[List.length_cons]at ih ⊢;omega
  ·simp only[List.length_cons]at ih ⊢;omega
theorem q7{l:List (List UInt8)}(h:l.length<2):lV l=l:=by
 match l,h with
 | [],_=>rfl
 | [a],_=>rfl
theorem Be{w:World}{base:Nat}{e:TypeId}{sz n c q:Nat}{A:Option Addr}{xs:List Value}(h:Go.Eng.Own w base e sz (.slice A n c) n xs)(hq:q≤n):Go.Eng.Own w base e sz (.slice A q c) q (xs.take (q*sz)):=by
 obtain⟨h1,h2⟩:=h
 have hle:q*sz≤n*sz:=Nat.mul_le_mul_right _ hq
 refine⟨by rw[List.length_take];omega, ?_⟩
 rcases h2 with⟨hv,rfl⟩|⟨g,o,cap,cur,hv,hb,hB,hnc,hcm,hfit,hcs⟩
 ·cases hv
  obtain rfl:q=0:=by omega
  exact .inl ⟨rfl,rfl⟩
 ·cases hv
  refine .inr ⟨g,o,c,cur,rfl,hb,hB,by omega,hcm,hfit, ?_⟩
  rw[←hcs,List.take_take,Nat.min_eq_left hle]
theorem View.Cj{e:TypeId}{sz n c q:Nat}{A:Option Addr}{xs:List Value}(hq:q≤n):View (aH e sz (.slice A n c) n xs) (aH e sz (.slice A q c) q (xs.take (q*sz))):=
 .of (fun w h=>Be h hq) (fun k h=>by cases A <;> exact h)
theorem r6{w:World}{a0:Addr}{k k2:Nat}{l:List Value}(h:∀(j:Nat) (u:Value),l[j]? =some u→w.cell? ((((some a0:Option Addr).getD d0).add ((k+k2)*32)).add j)=some u):
  ∀(j:Nat) (u:Value),l[j]? =some u→w.cell? ((((some (a0.add (k*32)):Option Addr).getD d0).add (k2*32)).add j)=some u:=fun j u hu=>by
 have:=h j u hu
 rw[Option.getD_some]at this ⊢
 rw[add_add]at this ⊢
 rw[add_add]
 have e:k*32+(k2*32+j)=(k+k2)*32+j:=by omega
 rw[e]
 exact this
theorem yf{ys:List (List UInt8)}{q:Nat}{d:List UInt8}(hD:kJ ys)(hd:d.length=32)(hq:q<ys.length):bJ (dc ys) (q*32) (aW d)=dc (ys.set q d):=by
 have e:ys=ys.take q++[ys[q]]++ys.drop (q+1):=by simp
 have e2:ys.set q d=ys.take q++[d]++ys.drop (q+1):=by
  rw[List.set_eq_take_append_cons_drop,if_pos hq];simp
 rw[e2]
 conv=>lhs;rw[e]
 rw[db,db,db,db,zz,zz]
 refine iJ ?_ ?_
 ·rw[gp (fun x hx=>hD x (List.mem_of_mem_take hx)),List.length_take];omega
 ·rw[az,az,hd,hD _ (List.getElem_mem hq)]
theorem pI{ys ds:List (List UInt8)}{q j:Nat}(h:ys.drop q=ds.drop q)(hj:q≤j):ys.getD j []=ds.getD j []:=by
 have h1:(ys.drop q)[j-q]? =(ds.drop q)[j-q]? :=by rw[h]
 rw[List.getElem?_drop,List.getElem?_drop,show q+(j-q)=j by omega]at h1
 rw[List.getD,List.getD,h1]
theorem Az{ys:List (List UInt8)}{q:Nat}{d:List UInt8}(hq:q<ys.length):(ys.set q d).take (q+1)=ys.take q++[d]:=by
 have hl:(ys.take q).length=q:=by rw[List.length_take];omega
 rw[List.set_eq_take_append_cons_drop,if_pos hq,List.take_append,List.take_of_length_le (by omega),hl,show q+1-q=1 by omega]
 rfl
theorem set_drop{ys ds:List (List UInt8)}{q:Nat}{d:List UInt8}(h:ys.drop q=ds.drop q):(ys.set q d).drop (q+1)=ds.drop (q+1):=by
 rw[List.drop_set,if_pos (Nat.lt_succ_self q),←List.drop_drop,←List.drop_drop,h]
theorem BA{ys:List (List UInt8)}{q:Nat}{d:List UInt8}(h:kJ ys)(hd:d.length=32):kJ (ys.set q d):=fun x hx=>by
 rcases List.mem_or_eq_of_mem_set hx with hx|rfl
 ·exact h x hx
 ·exact hd
theorem zX{A:Option Addr}{n c:Nat}{ds:List (List UInt8)}(hD:kJ ds)(hl:ds.length=n)(hnc:n≤c)(hn:n≤1000000):cf Tryz.prog 205 [.slice A n c] [aH 53 32 (.slice A n c) n (dc ds)] [] (fun v_ X_ S_=>∃k,v_=(.slice A k c)∧X_=[aH 53 32 (.slice A k c) k (dc (lV ds))]∧S_=[]∧(k=(lV ds).length)):=by
 refine aP (N:=61) Tryz.func205 rfl rfl (by simp) fun b=> ?_
 refine a6 (fun m=>(m.ord 0 rfl).2.1) fun hA_x=> ?_
 refine ah<|aj<|hy (fun _=>ab rfl)<|ai<|ag<|ah<|ah<|aj<|hy (fun _=>aa rfl)<|hy (fun _=>aT rfl Tryz.underlying33)<|hy (fun _=>bw rfl rfl)<|ai<|al (ρ' :=[(8,_),(2,_),(0,_)]) ⟨rfl,rfl,rfl,trivial⟩<|ag<| ?_
 refine cG rfl (fun h2=> ?_) (fun h2=> ?_)
 ·have e:=q7 (l:=ds) (by omega)
  rw[e]
  refine ah<|aj<|hy (fun _=>aa rfl)<|hy (fun _=>ab rfl)<|ai<|al (ρ' :=[(2,_),(8,_),(0,_)]) ⟨rfl,rfl,rfl,trivial⟩<|ag<|aX<|ay<| ?_
  exact bh trivial rfl rfl [0] rfl [] rfl ⟨n,rfl,rfl,rfl,hl.symm⟩
 ·refine aB<|ag<|ah<|ah<|aj<|hy (fun _=>ab rfl)<|ai<|ag<|aK<| ?_
  refine dH (fun k=>n-k) (fun k=>[(3,.int .i64 (k:Nat))]) (fun k=>[aH 53 32 (.slice A n c) n (dc ds)]) (fun k=>[]) (fun k=>1≤k∧k≤n∧lV (ds.take k)=ds.take k) 1 [(8,_),(0,_)] ⟨rfl,rfl,trivial⟩ [0] rfl [] rfl (⟨Nat.le_refl _,by omega,q7 (Nat.lt_of_le_of_lt (List.length_take_le _ _) (by decide))⟩) ⟨rfl,trivial⟩ (fun k ⟨hk1,hkn,hne⟩=> ?_)
  refine ah<|ah<|aj<|hy (fun _=>aa rfl)<|hy (fun _=>aa rfl)<|hy (fun _=>aT rfl Tryz.underlying33)<|hy (fun _=>bw rfl rfl)<|ai<|al (ρ' :=[(13,_),(3,_),(8,_),(0,_)]) ⟨rfl,rfl,rfl,rfl,trivial⟩<|ag<| ?_
  refine cG rfl (fun hlt=> ?_) (fun hlt=> ?_)
  ·have hk2:k<ds.length:=by omega
   have hk3:k-1<ds.length:=by omega
   have ha:=eT hD hk2
   have hb:=eT hD hk3
   have ha' :(aW (ds.getD k [])).length=32:=by rw[az,ha]
   have hb' :(aW (ds.getD (k-1) [])).length=32:=by rw[az,hb]
   refine aB<|ag<|ah<|aK<|ah<|cT [] [(0,some 0),(1,some 0),(2,some 0),(3,some 0),(4,some 0),(5,some 0),(6,some 0),(7,some 0),(8,some 0),(9,some 0)] (by kernel_rfl) (by kernel_rfl) rfl 99<|an (aa rfl)<|an (aa rfl)<|an (cD rfl rfl Tryz.underlying33 bg hA_x rfl (by omega))<|cq (fun m=>aU rfl b9 bg ha' ((m.ord 0 rfl).im hD hk2))<|an (aa rfl)<|an (aa rfl)<|an (cp rfl rfl (bF (by omega) (by omega)))<|an (cD rfl rfl Tryz.underlying33 bg hA_x (show((k-1:Nat):Int)=_ by omega) (by omega))<|cq (fun m=>aU rfl b9 bg hb' ((m.ord 0 rfl).im hD hk3))<|an (sY rfl rfl ha hb)<|bz<|al (ρ' :=[(25,_),(13,_),(3,_),(8,_),(0,_)]) ⟨rfl,rfl,rfl,rfl,rfl,trivial⟩<|ag<| ?_
   refine cG rfl (fun heq=> ?_) (fun heq=> ?_)
   ·obtain⟨a0,rfl⟩:∃a0,A=some a0:=Option.ne_none_iff_exists'.1 (hA_x (by omega))
    refine ah<|aj<|hy (fun _=>aa rfl)<|hy (fun _=>aa rfl)<|hy (fun _=>yV (dE rfl rfl Tryz.underlying33 bg rfl (by omega)) ((show Value.slice (if c=k then some a0 else Option.map (fun x=>x.add (k*32)) (some a0)) (n-k) (c-k)= .slice (some (a0.add (k*32))) (n-k) (c-k)from by rw[if_neg (by omega)];rfl)))<|hy (fun _=>ab rfl)<|ai<|al (ρ' :=[(4,_),(25,_),(13,_),(3,_),(8,_),(0,_)]) ⟨rfl,rfl,rfl,rfl,rfl,rfl,trivial⟩<|ag<|ah<|ah<|aj<|hy (fun _=>ab rfl)<|ai<|ag<|aK<| ?_
    refine fS (fun k2 q ys=>n-k2) (fun k2 q ys=>[(3,.int .i64 (q:Nat)),(5,.int .i64 (k2:Nat))]) (fun k2 q ys=>[aH 53 32 (.slice (some a0) n c) n (dc ys)]) (fun k2 q ys=>[]) (fun k2 q ys=>1≤k2∧k+k2≤n∧q+1≤k+k2∧kJ ys∧ys.length=n∧ys.take q=lV (ds.take (k+k2))∧ys.drop q=ds.drop q∧(lV (ds.take (k+k2))).length=q) 1 k ds [(4,_),(25,_),(13,_),(8,_),(0,_)] ⟨rfl,rfl,rfl,rfl,rfl,trivial⟩ [0] rfl [] rfl (⟨Nat.le_refl _,by omega,by omega,hD,hl,by rw[nD (by omega) hk2,if_pos heq,hne],rfl,by rw[nD (by omega) hk2,if_pos heq,hne,List.length_take];omega⟩) ⟨rfl,rfl,trivial⟩ (fun k2 q ys ⟨i1,i2,i3,iD,iL,iT,iE,iN⟩=> ?_)
    refine ah<|ah<|aj<|hy (fun _=>aa rfl)<|hy (fun _=>aa rfl)<|hy (fun _=>aT rfl Tryz.underlying33)<|hy (fun _=>bw rfl rfl)<|ai<|al (ρ' :=[(32,_),(3,_),(5,_),(4,_),(25,_),(13,_),(8,_),(0,_)]) ⟨rfl,rfl,rfl,rfl,rfl,rfl,rfl,rfl,trivial⟩<|ag<| ?_
    refine cG rfl (fun hlt2=> ?_) (fun hlt2=> ?_)
    ·have hm1:k+k2<ys.length:=by omega
     have hm2:k+(k2-1)<ys.length:=by omega
     have g1:=eT iD hm1
     have g2:=eT iD hm2
     have g1' :(aW (ys.getD (k+k2) [])).length=32:=by rw[az,g1]
     have g2' :(aW (ys.getD (k+(k2-1)) [])).length=32:=by rw[az,g2]
     have e1:=pI iE (show q≤k+k2 by omega)
     have e2:=pI iE (show q≤k+(k2-1) by omega)
     have hA2:∀{n:Nat} {a:Addr},0<n→(some a:Option Addr)≠none:=fun _ h=>by cases h
     have hA_x:= @hA2
     refine aB<|ag<|ah<|aK<|ah<|cT [] [(0,some 0),(1,some 0),(2,some 0),(3,some 0),(4,some 0),(5,some 0),(6,some 0),(7,some 0),(8,some 0),(9,some 0)] (by kernel_rfl) (by kernel_rfl) rfl 99<|an (aa rfl)<|an (aa rfl)<|an (cD rfl rfl Tryz.underlying33 bg hA_x rfl (by omega))<|cq (fun m=>aU rfl b9 bg g1' (r6 ((m.ord 0 rfl).im iD hm1)))<|an (aa rfl)<|an (aa rfl)<|an (cp rfl rfl (bF (by omega) (by omega)))<|an (cD rfl rfl Tryz.underlying33 bg hA_x (show((k2-1:Nat):Int)=_ by omega) (by omega))<|cq (fun m=>aU rfl b9 bg g2' (r6 ((m.ord 0 rfl).im iD hm2)))<|an (o1 rfl rfl g1 g2)<|bz<|al (ρ' :=[(44,_),(32,_),(3,_),(5,_),(4,_),(25,_),(13,_),(8,_),(0,_)]) ⟨rfl,rfl,rfl,rfl,rfl,rfl,rfl,rfl,rfl,trivial⟩<|ag<| ?_
     have hct:=nD (ds:=ds) (m:=k+k2) (by omega) (by omega)
     rw[show k+k2-1=k+(k2-1) by omega,←e1,←e2]at hct
     refine cG rfl (fun hne2=> ?_) (fun hne2=> ?_)
     ·rw[if_neg hne2]at hct
      refine ah<|aj<|hy (fun _=>aa rfl)<|hy (fun _=>aa rfl)<|hy (fun _=>aa rfl)<|hy (fun _=>aa rfl)<|hy (fun _=>cD rfl rfl Tryz.underlying33 bg hA_x rfl (by omega))<|hy (fun m=>aU rfl b9 bg g1' (r6 ((m.ord 0 rfl).im iD hm1)))<|hy (fun _=>cD rfl rfl Tryz.underlying33 bg hA_x rfl (by omega))<| ?_
      refine cH (CH 0 rfl rfl rfl bg g1' aY (by omega) (by omega) ?_)
      rw[yf iD g1 (by omega)]
      refine ai<|al (ρ' :=[(44,_),(32,_),(3,_),(5,_),(4,_),(25,_),(13,_),(8,_),(0,_)]) ⟨rfl,rfl,rfl,rfl,rfl,rfl,rfl,rfl,rfl,trivial⟩<|ak (X' :=[_]) (S' :=[]) (fun _ m=>m)<|ag<|aj<|hy (fun _=>aa rfl)<|hy (fun _=>aN rfl rfl (bF (by omega) (by omega)))<|hy (fun _=>ab rfl)<|ai<|al (ρ' :=[(3,_),(44,_),(32,_),(5,_),(4,_),(25,_),(13,_),(8,_),(0,_)]) ⟨rfl,rfl,rfl,rfl,rfl,rfl,rfl,rfl,rfl,trivial⟩<|aO<|ag<|aj<|hy (fun _=>aa rfl)<|hy (fun _=>aN rfl rfl (bF (by omega) (by omega)))<|hy (fun _=>ab rfl)<|ai<|al (ρ' :=[(5,_),(3,_),(44,_),(32,_),(4,_),(25,_),(13,_),(8,_),(0,_)]) ⟨rfl,rfl,rfl,rfl,rfl,rfl,rfl,rfl,rfl,trivial⟩<| ?_
      refine fG (k2+1) (q+1) (ys.set q (ys.getD (k+k2) [])) ⟨rfl,rfl,rfl,rfl,rfl,rfl,rfl,trivial⟩ [0] rfl [] rfl (⟨by omega,by omega,by omega,BA iD g1,by rw[List.length_set];exact iL,by rw[Az (by omega),iT,←Nat.add_assoc,hct],set_drop iE,by rw[←Nat.add_assoc,hct,List.length_append,iN];rfl⟩) (by omega)
     ·rw[if_pos (Decidable.not_not.1 hne2)]at hct
      refine aB<|aO<|ag<|aj<|hy (fun _=>aa rfl)<|hy (fun _=>aN rfl rfl (bF (by omega) (by omega)))<|hy (fun _=>ab rfl)<|ai<|al (ρ' :=[(5,_),(44,_),(32,_),(3,_),(4,_),(25,_),(13,_),(8,_),(0,_)]) ⟨rfl,rfl,rfl,rfl,rfl,rfl,rfl,rfl,rfl,trivial⟩<| ?_
      refine fG (k2+1) q ys ⟨rfl,rfl,rfl,rfl,rfl,rfl,rfl,trivial⟩ [0] rfl [] rfl (⟨by omega,by omega,by omega,iD,iL,by rw[iT,←Nat.add_assoc,hct],iE,by rw[←Nat.add_assoc,hct,iN]⟩) (by omega)
    ·have hkn2:k+k2=n:=by omega
     have hT:ds.take n=ds:=List.take_of_length_le (by omega)
     rw[hkn2,hT]at iT iN
     refine bL<|ao<|ao<|aD<|ag<|ah<|aj<|hy (fun _=>aa rfl)<|hy (fun _=>aa rfl)<|hy (fun _=>dE rfl rfl Tryz.underlying33 bg rfl (by omega))<| ?_
     refine cH (yU (k:=q) 0 rfl rfl Tryz.underlying33 cP rfl aY (fun h=>by rw[if_neg (by omega)];rfl) (by omega) (fun zs hzs=> ?_))
     refine ai<|al (ρ' :=[(32,_),(3,_),(5,_),(4,_),(25,_),(13,_),(8,_),(0,_)]) ⟨rfl,rfl,rfl,rfl,rfl,rfl,rfl,rfl,trivial⟩<|ak (X' :=[_]) (S' :=[]) (fun _ m=>m)<|ag<|ah<|aj<|hy (fun _=>aa rfl)<|hy (fun _=>aa rfl)<|hy (fun _=>kj rfl rfl Tryz.underlying33 bg rfl (by omega))<|hy (fun _=>ab rfl)<|ai<|al (ρ' :=[(2,_),(32,_),(3,_),(5,_),(4,_),(25,_),(13,_),(8,_),(0,_)]) ⟨rfl,rfl,rfl,rfl,rfl,rfl,rfl,rfl,rfl,trivial⟩<|ag<|aX<|bf<|ay<|ay<|bf<|ay<| ?_
     have e9:(bJ (dc ys) (q*32) zs).take (q*32)=dc (lV ds):=by
      rw[bJ,List.append_assoc,List.take_append_of_le_length (by rw[List.length_take,gp iD];omega),List.take_take,Nat.min_self,wH iD,iT]
     refine ak (X' :=aH 53 32 (.slice (some a0) q c) q ((bJ (dc ys) (q*32) zs).take (q*32))::_) (fun w m=>(m.perm (au [0] _ [_] _ rfl)).wJ (View.Cj (by omega))) ?_
     rw[e9]
     exact bh trivial rfl rfl [0] rfl [] rfl ⟨q,rfl,rfl,rfl,iN.symm⟩
   ·refine aB<|aO<|ag<|aj<|hy (fun _=>aa rfl)<|hy (fun _=>aN rfl rfl (bF (by omega) (by omega)))<|hy (fun _=>ab rfl)<|ai<|al (ρ' :=[(3,_),(25,_),(13,_),(8,_),(0,_)]) ⟨rfl,rfl,rfl,rfl,rfl,trivial⟩<| ?_
    refine cX (k+1) ⟨rfl,rfl,rfl,trivial⟩ [0] rfl [] rfl (⟨by omega,by omega,by rw[nD (by omega) (by omega),if_neg heq,hne,List.take_succ_eq_append_getElem hk2];simp[List.getD,hk2]⟩) (by omega)
  ·obtain rfl:k=n:=by omega
   refine bL<|ao<|ao<|aD<|ag<|ah<|aj<|hy (fun _=>aa rfl)<|hy (fun _=>ab rfl)<|ai<|al (ρ' :=[(2,_),(13,_),(3,_),(8,_),(0,_)]) ⟨rfl,rfl,rfl,rfl,rfl,trivial⟩<|ag<|aX<| ?_
   have e:lV ds=ds:=by rw[List.take_of_length_le (by omega)]at hne;exact hne
   rw[e]
   exact bh trivial rfl rfl [0] rfl [] rfl ⟨k,rfl,rfl,rfl,hl.symm⟩
end Go.Proofs.YtmibdabdlgmafaaGreatDoor
end
section
set_option maxRecDepth 20000
namespace Go.Proofs.YtmibdabdlgmafaaGreatDoor
open Go.Eng Go.Hx Go.Extern
theorem text(A:Option Addr)(n c:Nat)(l:List UInt8)(w:World)(hr:Rd w 1 A n (aW l))(hn:n≤70368744177664):
  Calls Tryz.prog 177 #[.slice A n c] w fun e w' =>e= .returned (.string (strOf (cd l)))∧Fr No w w' :=by
 have hl:l.length=n:=by have:=hr.1;rw[az]at this;omega
 refine enter (N:=28) Tryz.func177 rfl rfl (by simp) ?_
 refine aV<|bd<|nq (ab rfl)<|bc<|aF<|aV<|bd<|nq (ab rfl)<|bc<|aF<|aV<|aV<|bd<|nq (aa rfl)<|nq (aT rfl Tryz.underlying27)<|nq (aa rfl)<|bc<|bE (ae (t:=7) rfl<|ae (t:=6) rfl<|ae (t:=3) rfl<|ae (t:=2) rfl<|ae (t:=0) rfl<|aC)<|aF<|cZ<| ?_
 refine sZ (fun k _=>n-k) (fun k v=>[(0,.slice A n c),(3,v),(6,.int .i64 n),(7,.int .i64 (k:Nat))]) (fun k v w' =>k≤n∧Go.Eng.Own w' w.heap.size 5 1 v (2*k) (aW (cd (l.take k)))∧Fr No w w') 0 (.slice none 0 0) (⟨Nat.zero_le _,Own.nil w w.heap.size _ 1,Fr.refl _ _⟩) (ae (t:=0) rfl<|ae (t:=3) rfl<|ae (t:=6) rfl<|ae (t:=7) rfl<|aC) (fun k v w1 ⟨hk,ho,hf⟩=> ?_)
 refine aV<|bd<|nq (bw rfl rfl)<|bc<|aF<|aV<| ?_
 refine nI rfl (fun h=> ?_) (fun h=> ?_)
 ·have hkn:k<n:=by omega
  have hb:=(l.getD k 0).toNat_lt
  refine dN<|aF<|aV<|cZ<|aV<|bd<|nq (aa rfl)<|nq (ab rfl)<|bc<|bE (ae (t:=4) rfl<|ae (t:=8) rfl<|ae (t:=0) rfl<|ae (t:=3) rfl<|ae (t:=6) rfl<|ae (t:=7) rfl<|aC)<|aF<| ?_
  refine xF [(0,false),(1,false),(2,false),(3,false),(4,false),(5,false),(6,false),(7,false),(8,false),(9,false),(10,false),(11,false),(12,false),(13,true),(14,true),(15,false)] (by kernel_rfl) (by kernel_rfl) rfl (fun w' =>Fr No w w') (hf.cz (Fr.drew _)) (fun w2 hf2 hS2=> ?_)
  refine sq (fun w_ hS_=>aa rfl)<|sq (fun w_ hS_=>aa rfl)<|sq (fun w_ hS_=>aa rfl)<|sq (fun w_ hS_=>aS rfl rfl Tryz.underlying27 dZ hr.2.1 rfl (by omega))<|sq (fun w_ hS_=>aw rfl jc (((hr.nv hS_).cell (bM (by omega)))))<|sq (fun w_ hS_=>oB (p:=16) rfl rfl (by decide) (by decide) (by decide))<|sq (fun w_ hS_=>eW rfl rfl Tryz.underlying9 rfl ((Cc _)))<|sq (fun w_ hS_=>aa rfl)<|sq (fun w_ hS_=>aa rfl)<|sq (fun w_ hS_=>aS rfl rfl Tryz.underlying27 dZ hr.2.1 rfl (by omega))<|sq (fun w_ hS_=>aw rfl jc (((hr.nv hS_).cell (bM (by omega)))))<|sq (fun w_ hS_=>ib (by simp) rfl rfl ((F6 _)))<|sq (fun w_ hS_=>eW rfl rfl Tryz.underlying9 rfl ((BF _)))<| ?_
  refine sx (mQ Tryz.underlying27 fk rfl rfl rfl (by simp[Value.cells,B8]) (by decide) (by decide) fun g w3 hg hf3 hb3=> ?_)
  have hS3:Fr No w w3:=hS2.cz hf3
  refine⟨hS3, ?_⟩
  refine sx (kY rfl rfl Tryz.underlying27 Tryz.underlying27 (by exact .inl rfl) fk rfl (ho.nv (hf2.cz hf3)) (Src.bR (Own.rd (Own.made hb3 (Nat.le_refl _) (Nat.le_refl _) (by decide) (by rfl))).2.2) (by simp[Value.cells];exact⟨rfl,rfl⟩) (by unfold maxLen;omega) (by omega) hS3.size fun v4 w4 ho4 hf4 hv4=> ?_)
  have hS4:Fr No w w4:=hS3.new hf4 (fun i hi=>(ho.from hi).1)
  refine⟨hS4, ?_⟩
  refine sq (fun w_ hS_=>ab rfl)<|send<|bE (ae (t:=3) rfl<|ae (t:=4) rfl<|ae (t:=8) rfl<|ae (t:=0) rfl<|ae (t:=6) rfl<|ae (t:=7) rfl<|aC)<|fq<|aF<|bd<|nq (aN rfl rfl (bF (by omega) (by omega)))<|nq (aa rfl)<|bc<|bE (ae (t:=7) rfl<|ae (t:=3) rfl<|ae (t:=4) rfl<|ae (t:=8) rfl<|ae (t:=0) rfl<|ae (t:=6) rfl<|aC)<| ?_
  refine qc (k+1) v4 (ae (t:=0) rfl<|ae (t:=3) rfl<|ae (t:=6) rfl<|ae (t:=7) rfl<|aC) (⟨by omega, ?_,hS4⟩) (by omega)
  have e1:2*k+2=2*(k+1):=by omega
  have e2:cd (l.take (k+1))=cd (l.take k)++pH (l.getD k 0):=rD (by omega)
  rw[e1]at ho4
  rw[e2,bH]
  exact ho4
 ·obtain rfl:k=n:=by omega
  obtain⟨A',c',rfl,hc'⟩:=ho.slice
  have hro:=(Own.rd ho).2.2
  rw[List.take_of_length_le (by omega)]at hro
  refine jf<|bS<|bS<|cU<|aF<|aV<|bd<|nq (aa rfl)<|nq (kF rfl Tryz.underlying27 Tryz.underlying5 Tryz.underlying9 hro)<|nq (ab rfl)<|bc<|bE (ae (t:=2) rfl<|ae (t:=8) rfl<|ae (t:=0) rfl<|ae (t:=3) rfl<|ae (t:=6) rfl<|ae (t:=7) rfl<|aC)<|aF<|dP<| ?_
  exact ff trivial rfl rfl ⟨rfl,hf⟩
theorem xw(c:UInt8)(w:World):Calls Tryz.prog 226 #[.int .u8 (c.toNat:Int)] w fun e w' =>e= .returned (.int .i64 (im c))∧w=w' :=by
 have hc:=c.toNat_lt
 refine enter (N:=21) Tryz.func226 rfl rfl (by simp) ?_
 refine aV<|bd<|nq (ab rfl)<|bc<|aF<|aV<|aV<|bd<|nq (aa rfl)<|nq (iX rfl rfl)<|nq (aa rfl)<| ?_
 refine mw 5 rfl (fun h1=> ?_) (fun h1=> ?_)
 ·refine ng rfl rfl rfl (aa rfl)<|ng rfl rfl rfl (ot rfl rfl)<|nq (bT rfl rfl)<|bc<|bE (ae (t:=8) rfl<|ae (t:=2) rfl<|ae (t:=0) rfl<|aC)<|aF<| ?_
  refine nI rfl (fun h2=> ?_) (fun h2=> ?_)
  ·refine aV<|bd<|nq (aa rfl)<|nq (bX rfl Tryz.underlying5 Tryz.underlying3 ((bF (by omega) (by omega))))<|nq (cp rfl rfl (bF (by omega) (by omega)))<|nq (ab rfl)<|bc<|bE (ae (t:=2) rfl<|ae (t:=8) rfl<|ae (t:=0) rfl<|aC)<|aF<|dP<|bG<| ?_
   refine ff trivial rfl rfl ⟨?_,rfl⟩
   rw[im,if_pos (by omega)]
  ·refine dN<|aF<|aV<|aV<|bd<|nq (aa rfl)<|nq (iX rfl rfl)<|nq (aa rfl)<| ?_
   refine mw 14 rfl (fun h3=> ?_) (fun h3=> ?_)
   ·refine ng rfl rfl rfl (aa rfl)<|ng rfl rfl rfl (ot rfl rfl)<|nq (bT rfl rfl)<|bc<|bE (ae (t:=17) rfl<|ae (t:=8) rfl<|ae (t:=2) rfl<|ae (t:=0) rfl<|aC)<|aF<| ?_
    refine nI rfl (fun h4=> ?_) (fun h4=> ?_)
    ·refine aV<|bd<|nq (aa rfl)<|nq (bX rfl Tryz.underlying5 Tryz.underlying3 ((bF (by omega) (by omega))))<|nq (cp rfl rfl (bF (by omega) (by omega)))<|nq (ab rfl)<|bc<|bE (ae (t:=2) rfl<|ae (t:=17) rfl<|ae (t:=8) rfl<|ae (t:=0) rfl<|aC)<|aF<|dP<|bG<| ?_
     refine ff trivial rfl rfl ⟨?_,rfl⟩
     rw[im,if_neg (by omega),if_pos (by omega)]
    ·refine dN<|aF<|aV<|bd<|nq (ab rfl)<|bc<|aF<|dP<| ?_
     refine ff trivial rfl rfl ⟨?_,rfl⟩
     rw[im,if_neg (by omega),if_neg (by omega)]
   ·refine ji rfl rfl rfl (by decide)<|ji rfl rfl rfl (by decide)<|nq (bD rfl rfl)<|bc<|bE (ae (t:=17) rfl<|ae (t:=8) rfl<|ae (t:=2) rfl<|ae (t:=0) rfl<|aC)<|aF<| ?_
    refine qG rfl (rfl) ?_
    refine dN<|aF<|aV<|bd<|nq (ab rfl)<|bc<|aF<|dP<| ?_
    refine ff trivial rfl rfl ⟨?_,rfl⟩
    rw[im,if_neg (by omega),if_neg (by omega)]
 ·refine ji rfl rfl rfl (by decide)<|ji rfl rfl rfl (by decide)<|nq (bD rfl rfl)<|bc<|bE (ae (t:=8) rfl<|ae (t:=2) rfl<|ae (t:=0) rfl<|aC)<|aF<| ?_
  refine qG rfl (rfl) ?_
  refine dN<|aF<|aV<|aV<|bd<|nq (aa rfl)<|nq (iX rfl rfl)<|nq (aa rfl)<| ?_
  refine mw 14 rfl (fun h3=> ?_) (fun h3=> ?_)
  ·omega
  ·refine ji rfl rfl rfl (by decide)<|ji rfl rfl rfl (by decide)<|nq (bD rfl rfl)<|bc<|bE (ae (t:=17) rfl<|ae (t:=8) rfl<|ae (t:=2) rfl<|ae (t:=0) rfl<|aC)<|aF<| ?_
   refine qG rfl (rfl) ?_
   refine dN<|aF<|aV<|bd<|nq (ab rfl)<|bc<|aF<|dP<| ?_
   refine ff trivial rfl rfl ⟨?_,rfl⟩
   rw[im,if_neg (by omega),if_neg (by omega)]
theorem GA(A:Option Addr)(n c:Nat)(l:List UInt8)(w:World)(hr:Rd w 1 A n (aW l))(hn:n≤70368744177664):
  Calls Tryz.prog 182 #[.slice A n c] w fun e w' =>e= .returned (.string (strOf (cd l)))∧Fr No w w' :=by
 have hl:l.length=n:=by have:=hr.1;rw[az]at this;omega
 refine enter (N:=40) Tryz.func182 rfl rfl (by simp) ?_
 refine aV<|bd<|nq (ab rfl)<|bc<|aF<|aV<|bd<|nq (ab rfl)<|bc<|aF<|aV<|bd<|nq (ab rfl)<|bc<|aF<|aV<|aV<|bd<|nq (ab rfl)<|bc<|aF<|cZ<| ?_
 refine kZ (fun k=>n-k) (fun k=>[(0,.slice A n c),(3,.string ⟨#[48,49,50,51,52,53,54,55,56,57,97,98,99,100,101,102]⟩),(4,.string (strOf (cd (l.take k)))),(5,.int .i64 (k:Nat))]) (fun k w' =>k≤n∧Fr No w w') 0 (⟨Nat.zero_le _,Fr.refl _ _⟩) (ae (t:=0) rfl<|ae (t:=3) rfl<|ae (t:=4) rfl<|ae (t:=5) rfl<|aC) (fun k w1 ⟨hk,hf⟩=> ?_)
 refine aV<|aV<|bd<|nq (aa rfl)<|nq (aa rfl)<|nq (aT rfl Tryz.underlying27)<|nq (bw rfl rfl)<|bc<|bE (ae (t:=11) rfl<|ae (t:=0) rfl<|ae (t:=3) rfl<|ae (t:=4) rfl<|ae (t:=5) rfl<|aC)<|aF<| ?_
 refine nI rfl (fun h=> ?_) (fun h=> ?_)
 ·have hkn:k<n:=by omega
  have hb:=(l.getD k 0).toNat_lt
  have hr1:=hr.nv hf
  refine dN<|aF<|aV<|cZ<|aV<|bd<|nq (aa rfl)<|nq (aa rfl)<|nq (aS rfl rfl Tryz.underlying27 dZ hr.2.1 rfl (by omega))<|nq (aw rfl jc (hr1.cell (bM (by omega))))<|nq (bX rfl Tryz.underlying5 Tryz.underlying3 ((Bw _)))<|nq (jV rfl rfl (by omega) (by omega) (bF (by omega) (by omega)))<|nq (ab rfl)<|bc<|bE (ae (t:=6) rfl<|ae (t:=11) rfl<|ae (t:=0) rfl<|ae (t:=3) rfl<|ae (t:=4) rfl<|ae (t:=5) rfl<|aC)<|aF<|aV<|bd<|nq (aa rfl)<|nq (aa rfl)<|nq (aS rfl rfl Tryz.underlying27 dZ hr.2.1 rfl (by omega))<|nq (aw rfl jc (hr1.cell (bM (by omega))))<|nq (bX rfl Tryz.underlying5 Tryz.underlying3 ((Bw _)))<|nq (gN rfl rfl (by omega) (by omega))<|nq (ab rfl)<|bc<|bE (ae (t:=7) rfl<|ae (t:=6) rfl<|ae (t:=11) rfl<|ae (t:=0) rfl<|ae (t:=3) rfl<|ae (t:=4) rfl<|ae (t:=5) rfl<|aC)<|aF<| ?_
  have hll:=dS (l.take k)
  have htl:(l.take k).length≤k:=List.length_take_le _ _
  refine xF [(0,false),(1,false),(2,false),(3,false),(4,false),(5,false),(6,false),(7,false),(8,false),(9,false),(10,false),(11,false),(12,false),(13,false)] (by kernel_rfl) (by kernel_rfl) rfl (fun w' =>Fr No w w') (hf.cz (Fr.drew _)) (fun w2 hf2 hS2=> ?_)
  refine sq (fun w_ hS_=>aa rfl)<|sq (fun w_ hS_=>aa rfl)<|sq (fun w_ hS_=>aa rfl)<|sq (fun w_ hS_=>aa rfl)<|sq (fun w_ hS_=>aN rfl rfl (bF (by omega) (by omega)))<|sq (fun w_ hS_=>rN rfl rfl rfl Tryz.underlying9 (show(((l.getD k 0).toNat/16:Nat):Int)=_ by omega) (show(((l.getD k 0).toNat/16+1:Nat):Int)=_ by omega) ((by omega)) ((by show _≤16;omega)))<|sq (fun w_ hS_=>jG rfl rfl ((by simp[c7];omega)))<|sq (fun w_ hS_=>aa rfl)<|sq (fun w_ hS_=>aa rfl)<|sq (fun w_ hS_=>aa rfl)<|sq (fun w_ hS_=>aN rfl rfl (bF (by omega) (by omega)))<|sq (fun w_ hS_=>rN rfl rfl rfl Tryz.underlying9 (show(((l.getD k 0).toNat % 16:Nat):Int)=_ by omega) (show(((l.getD k 0).toNat % 16+1:Nat):Int)=_ by omega) ((by omega)) ((by show _≤16;omega)))<|sq (fun w_ hS_=>yV (jG rfl rfl ((by simp[c7,ByteArray.size_append];omega))) (congrArg Value.string (xC (by omega))))<|sq (fun w_ hS_=>ab rfl)<|send<|bE (ae (t:=4) rfl<|ae (t:=7) rfl<|ae (t:=6) rfl<|ae (t:=11) rfl<|ae (t:=0) rfl<|ae (t:=3) rfl<|ae (t:=5) rfl<|aC)<|fq<|aF<|bd<|nq (aa rfl)<|nq (aN rfl rfl (bF (by omega) (by omega)))<|nq (ab rfl)<|bc<|bE (ae (t:=5) rfl<|ae (t:=4) rfl<|ae (t:=7) rfl<|ae (t:=6) rfl<|ae (t:=11) rfl<|ae (t:=0) rfl<|ae (t:=3) rfl<|aC)<| ?_
  refine ll (k+1) (ae (t:=0) rfl<|ae (t:=3) rfl<|ae (t:=4) rfl<|ae (t:=5) rfl<|aC) (⟨by omega,hS2⟩) (by omega)
 ·obtain rfl:k=n:=by omega
  refine jf<|bS<|bS<|cU<|aF<|aV<|bd<|nq (aa rfl)<|nq (ab rfl)<|bc<|bE (ae (t:=2) rfl<|ae (t:=11) rfl<|ae (t:=0) rfl<|ae (t:=3) rfl<|ae (t:=4) rfl<|ae (t:=5) rfl<|aC)<|aF<|dP<| ?_
  refine ff trivial rfl rfl ⟨?_,hf⟩
  rw[List.take_of_length_le (by omega)]
def ia(w:World)(s:List UInt8)(v:Value)(w' :World):Prop:=
 match unhex s with
 |some x=>∃u,v= .tuple #[u,.int .i64 0]∧Go.Eng.Own w' w.heap.size 5 1 u x.length (aW x)
 |none=>v= .tuple #[.slice none 0 0,.int .i64 2]
theorem ES(s:List UInt8)(w:World)(hs:s.length≤140737488351232):
  Calls Tryz.prog 169 #[.string (strOf s)] w fun e w' =>(∃v,e= .returned v∧ia w s v w')∧Fr No w w' :=by
 have hsz:(strOf s).size=s.length:=c7 s
 refine enter (N:=43) Tryz.func169 rfl rfl (by simp) ?_
 refine aV<|bd<|nq (ab rfl)<|nq (ab rfl)<|bc<|aF<|aV<|aV<|bd<|nq (aa rfl)<|nq (cY rfl Tryz.underlying9)<|nq (gN rfl rfl (by omega) (by omega))<|nq (cM rfl rfl)<|bc<|bE (ae (t:=11) rfl<|ae (t:=3) rfl<|ae (t:=2) rfl<|ae (t:=0) rfl<|aC)<|aF<| ?_
 refine nI rfl (fun h=> ?_) (fun h=> ?_)
 ·refine aV<|bd<|nq (ab rfl)<|nq (ab rfl)<|bc<|aF<|dP<|bG<| ?_
  refine sU trivial rfl rfl rfl ⟨⟨_,rfl, ?_⟩,Fr.refl _ _⟩
  rw[ia,nP s (by omega)]
 ·refine dN<|aF<|aV<|bd<|nq (ab rfl)<|bc<|aF<|aV<|aV<|bd<|nq (ab rfl)<|bc<|aF<|cZ<| ?_
  refine AH (fun k _ _=>s.length-2*k) (fun k v _=>[(0,.string (strOf s)),(4,v),(5,.int .i64 (2*(k:Nat):Int))]) (fun k v x w' =>2*k≤s.length∧unhex (s.take (2*k))=some x∧Go.Eng.Own w' w.heap.size 5 1 v k (aW x)∧Fr No w w') 0 (.slice none 0 0) [] (⟨Nat.zero_le _,rfl,Own.nil w w.heap.size _ 1,Fr.refl _ _⟩) (ae (t:=0) rfl<|ae (t:=4) rfl<|ae (t:=5) rfl<|aC) (fun k v x w1 ⟨hk,hx,ho,hf⟩=> ?_)
  refine aV<|aV<|bd<|nq (aa rfl)<|nq (aN rfl rfl (bF (by omega) (by omega)))<|nq (aa rfl)<|nq (cY rfl Tryz.underlying9)<|nq (bw rfl rfl)<|bc<|bE (ae (t:=16) rfl<|ae (t:=0) rfl<|ae (t:=4) rfl<|ae (t:=5) rfl<|aC)<|aF<| ?_
  refine nI rfl (fun h2=> ?_) (fun h2=> ?_)
  ·have hk2:2*k+1<s.length:=by omega
   have hd1:=iG (s.getD (2*k) 0)
   have hd2:=iG (s.getD (2*k+1) 0)
   have hlen:(s.take (2*k)).length=2*k:=by simp;omega
   have hsn:=my (s.take (2*k)) k (s.getD (2*k) 0) (s.getD (2*k+1) 0) x hlen hx
   rw[←ud hk2]at hsn
   have hno:(im (s.getD (2*k) 0)<0∨im (s.getD (2*k+1) 0)<0)→unhex s=none:=fun hn=>by
    rw[if_pos hn]at hsn
    have:=fX _ (s.drop (2*(k+1))) (k+1) (by simp;omega) hsn
    rwa [List.take_append_drop]at this
   refine dN<|aF<|aV<|cZ<|aV<|bd<|nq (aa rfl)<|nq (aa rfl)<|nq (eW rfl rfl Tryz.underlying9 (show((2*k:Nat):Int)=_ by omega) (iM (by omega)))<| ?_
   refine nx (ep rfl Tryz.call226 (xw _ w1) ?_)
   rintro e_ w2 ⟨rfl,rfl⟩
   refine⟨_,rfl, ?_⟩
   refine nq (ab rfl)<|bc<|bE (ae (t:=6) rfl<|ae (t:=16) rfl<|ae (t:=0) rfl<|ae (t:=4) rfl<|ae (t:=5) rfl<|aC)<|aF<|aV<|bd<|nq (aa rfl)<|nq (aa rfl)<|nq (aN rfl rfl (bF (by omega) (by omega)))<|nq (eW rfl rfl Tryz.underlying9 (show((2*k+1:Nat):Int)=_ by omega) (iM (by omega)))<| ?_
   refine nx (ep rfl Tryz.call226 (xw _ w1) ?_)
   rintro e_ w2 ⟨rfl,rfl⟩
   refine⟨_,rfl, ?_⟩
   refine nq (ab rfl)<|bc<|bE (ae (t:=7) rfl<|ae (t:=6) rfl<|ae (t:=16) rfl<|ae (t:=0) rfl<|ae (t:=4) rfl<|ae (t:=5) rfl<|aC)<|aF<|aV<|aV<|bd<|nq (aa rfl)<|nq (bw rfl rfl)<|nq (aa rfl)<| ?_
   refine mw 30 rfl (fun h3=> ?_) (fun h3=> ?_)
   ·refine ji rfl rfl rfl (by decide)<|ji rfl rfl rfl (by decide)<|nq (bT rfl rfl)<|bc<|bE (ae (t:=33) rfl<|ae (t:=7) rfl<|ae (t:=6) rfl<|ae (t:=16) rfl<|ae (t:=0) rfl<|ae (t:=4) rfl<|ae (t:=5) rfl<|aC)<|aF<| ?_
    refine xN rfl (rfl) ?_
    refine aV<|bd<|nq (ab rfl)<|nq (ab rfl)<|bc<|aF<|dP<|bG<|cB<|bG<|bG<|cB<|bG<| ?_
    refine sU trivial rfl rfl rfl ⟨⟨_,rfl, ?_⟩,hf⟩
    rw[ia,hno (.inl h3)]
   ·refine ng rfl rfl rfl (aa rfl)<|ng rfl rfl rfl (bw rfl rfl)<|nq (bD rfl rfl)<|bc<|bE (ae (t:=33) rfl<|ae (t:=7) rfl<|ae (t:=6) rfl<|ae (t:=16) rfl<|ae (t:=0) rfl<|ae (t:=4) rfl<|ae (t:=5) rfl<|aC)<|aF<| ?_
    refine nI rfl (fun h4=> ?_) (fun h4=> ?_)
    ·refine aV<|bd<|nq (ab rfl)<|nq (ab rfl)<|bc<|aF<|dP<|bG<|cB<|bG<|bG<|cB<|bG<| ?_
     refine sU trivial rfl rfl rfl ⟨⟨_,rfl, ?_⟩,hf⟩
     rw[ia,hno (.inr h4)]
    ·refine dN<|aF<|bd<|nq (aa rfl)<|nq (aa rfl)<|nq (fN rfl rfl (bF (by omega) (by omega)))<|nq (aa rfl)<|nq (aN rfl rfl (bF (by omega) (by omega)))<|nq (bX rfl Tryz.underlying3 Tryz.underlying5 (ze (Ah _ _ (by omega) (by omega))))<| ?_
     refine nx (mQ Tryz.underlying27 fk rfl rfl rfl (by simp[Value.cells,B8]) (by decide) (by decide) fun g w3 hg hf3 hb3=> ?_)
     refine nx (kY rfl rfl Tryz.underlying27 Tryz.underlying27 (by exact .inl rfl) fk rfl (ho.nv hf3) (Src.gv hb3 rfl) (aY (l:=[_])) (by unfold maxLen;omega) (by omega) (Nat.le_trans hf.size hf3.size) fun v4 w4 ho4 hf4 hv4=> ?_)
     refine nq (ab rfl)<|bc<|bE (ae (t:=4) rfl<|ae (t:=33) rfl<|ae (t:=7) rfl<|ae (t:=6) rfl<|ae (t:=16) rfl<|ae (t:=0) rfl<|ae (t:=5) rfl<|aC)<|fq<|aF<|bd<|nq (aa rfl)<|nq (aN rfl rfl (bF (by omega) (by omega)))<|nq (ab rfl)<|bc<|bE (ae (t:=5) rfl<|ae (t:=4) rfl<|ae (t:=33) rfl<|ae (t:=7) rfl<|ae (t:=6) rfl<|ae (t:=16) rfl<|ae (t:=0) rfl<|aC)<| ?_
     rw[if_neg (by omega)]at hsn
     refine zD (k+1) v4 _ (ae (t:=0) rfl<|ae (t:=4) rfl<|ae (t:=5) ?_<|aC) ⟨by omega,hsn, ?_,(hf.cz hf3).new hf4 (fun i hi=>(ho.from hi).1)⟩ (by omega)
     ·show some (Value.int .i64 (2*(k:Int)+2))=some (Value.int .i64 (2*((k+1:Nat):Int)))
      rw[show(2*(k:Int)+2)=2*((k+1:Nat):Int) by omega]
     ·rw[bH];exact ho4
  ·refine jf<|bS<|bS<|cU<|aF<|aV<|bd<|nq (aa rfl)<|nq (ab rfl)<|nq (ab rfl)<|bc<|bE (ae (t:=3) rfl<|ae (t:=2) rfl<|ae (t:=16) rfl<|ae (t:=0) rfl<|ae (t:=4) rfl<|ae (t:=5) rfl<|aC)<|aF<|dP<| ?_
   refine sU trivial rfl rfl rfl ⟨⟨_,rfl, ?_⟩,hf⟩
   rw[List.take_of_length_le (by omega)]at hx
   have hxl:=fQ s x hx
   rw[ia,hx]
   have:x.length=k:=by omega
   exact⟨v,rfl,this▸ho⟩
theorem vj(s:ByteArray)(c:UInt8)(w:World):
  Calls Tryz.prog 267 #[.string s,.int .u8 c.toNat] w fun e w' =>e= .returned (.int .i64 (Lib.indexByte s.data.toList c))∧w=w' :=by
 refine enter (N:=8) Tryz.func267 rfl rfl (by simp) ?_
 refine aV<|bd<|nq (ab rfl)<|bc<|aF<|aV<|bd<|nq (aa rfl)<|nq (aa rfl)<| ?_
 refine nq (xq rfl Tryz.func295 (by kernel_rfl) (by kernel_rfl) (by kernel_rfl) (show _=some Extern.BytealgIndexByte.indexByte by kernel_rfl) (Lib.run_indexByteString _ _ _)) ?_
 refine nq (ab rfl)<|bc<|bE (ae (t:=4) rfl<|ae (t:=0) rfl<|ae (t:=1) rfl<|aC)<|aF<|dP<| ?_
 refine ff trivial rfl rfl ⟨?_,rfl⟩
 rw[show((c.toNat:Int)).toNat.toUInt8=c by simp]
theorem indexByte(s:ByteArray)(c:UInt8)(w:World):
  Calls Tryz.prog 224 #[.string s,.int .u8 c.toNat] w fun e w' =>e= .returned (.int .i64 (Lib.indexByte s.data.toList c))∧w=w' :=by
 refine enter (N:=8) Tryz.func224 rfl rfl (by simp) ?_
 refine aV<|bd<|nq (ab rfl)<|bc<|aF<|aV<|bd<|nq (aa rfl)<|nq (aa rfl)<| ?_
 refine nx (ep rfl Tryz.call267 (vj s c w) ?_)
 rintro e_ w' ⟨rfl,rfl⟩
 refine⟨_,rfl, ?_⟩
 refine nq (ab rfl)<|bc<|bE (ae (t:=4) rfl<|ae (t:=0) rfl<|ae (t:=1) rfl<|aC)<|aF<|dP<| ?_
 exact ff trivial rfl rfl ⟨rfl,rfl⟩
theorem uJ(c:UInt8)(w:World):
  Calls Tryz.prog 224 #[.string ⟨#[48,49,50,51,52,53,54,55,56,57,97,98,99,100,101,102]⟩,.int .u8 c.toNat] w fun e w' =>e= .returned (.int .i64 (im c))∧w=w' :=by
 rw[←qg]
 exact indexByte _ c w
theorem parse(s:List UInt8)(w:World)(hs:s.length≤140737488351232):
  Calls Tryz.prog 166 #[.string (strOf s)] w fun e w' =>(∃v,e= .returned v∧ia w s v w')∧Fr No w w' :=by
 have hsz:(strOf s).size=s.length:=c7 s
 refine enter (N:=45) Tryz.func166 rfl rfl (by simp) ?_
 refine aV<|bd<|nq (ab rfl)<|nq (ab rfl)<|bc<|aF<|aV<|aV<|bd<|nq (aa rfl)<|nq (cY rfl Tryz.underlying9)<|nq (gN rfl rfl (by omega) (by omega))<|nq (cW rfl rfl)<|bc<|bE (ae (t:=11) rfl<|ae (t:=3) rfl<|ae (t:=2) rfl<|ae (t:=0) rfl<|aC)<|aF<| ?_
 refine nI rfl (fun h=> ?_) (fun h=> ?_)
 ·refine aV<|bd<|nq (ab rfl)<|nq (ab rfl)<|bc<|aF<|dP<|bG<| ?_
  refine sU trivial rfl rfl rfl ⟨⟨_,rfl, ?_⟩,Fr.refl _ _⟩
  rw[ia,nP s (by simp at h;omega)]
 ·simp at h
  refine dN<|aF<|aV<|bd<|nq (ab rfl)<|bc<|aF<|aV<|aV<|bd<|nq (aa rfl)<|nq (cY rfl Tryz.underlying9)<|nq (jV rfl rfl (by omega) (by omega) (bF (by omega) (by omega)))<|nq (aa rfl)<|bc<|bE (ae (t:=15) rfl<|ae (t:=14) rfl<|ae (t:=4) rfl<|ae (t:=11) rfl<|ae (t:=3) rfl<|ae (t:=2) rfl<|ae (t:=0) rfl<|aC)<|aF<|cZ<| ?_
  refine AH (fun k _ _=>s.length-2*k) (fun k v _=>[(0,.string (strOf s)),(4,v),(14,.int .i64 ((s.length/2:Nat):Int)),(15,.int .i64 (k:Nat))]) (fun k v x w' =>2*k≤s.length∧unhex (s.take (2*k))=some x∧Go.Eng.Own w' w.heap.size 5 1 v k (aW x)∧Fr No w w') 0 (.slice none 0 0) [] (⟨Nat.zero_le _,rfl,Own.nil w w.heap.size _ 1,Fr.refl _ _⟩) (ae (t:=0) rfl<|ae (t:=4) rfl<|ae (t:=14) rfl<|ae (t:=15) rfl<|aC) (fun k v x w1 ⟨hk,hx,ho,hf⟩=> ?_)
  ·refine aV<|bd<|nq (bw rfl rfl)<|bc<|aF<|aV<| ?_
   refine nI rfl (fun h2=> ?_) (fun h2=> ?_)
   ·have hk2:2*k+1<s.length:=by omega
    have hd1:=iG (s.getD (2*k) 0)
    have hd2:=iG (s.getD (2*k+1) 0)
    have hlen:(s.take (2*k)).length=2*k:=by simp;omega
    have hsn:=my (s.take (2*k)) k (s.getD (2*k) 0) (s.getD (2*k+1) 0) x hlen hx
    rw[←ud hk2]at hsn
    have hno:(im (s.getD (2*k) 0)<0∨im (s.getD (2*k+1) 0)<0)→unhex s=none:=fun hn=>by
     rw[if_pos hn]at hsn
     have:=fX _ (s.drop (2*(k+1))) (k+1) (by simp;omega) hsn
     rwa [List.take_append_drop]at this
    refine dN<|aF<|aV<|cZ<|aV<|bd<|nq (aa rfl)<|nq (ab rfl)<|bc<|bE (ae (t:=5) rfl<|ae (t:=16) rfl<|ae (t:=0) rfl<|ae (t:=4) rfl<|ae (t:=14) rfl<|ae (t:=15) rfl<|aC)<|aF<|aV<| ?_
    refine xF [(0,false),(1,false),(2,false),(3,false),(5,false),(6,false),(7,false),(8,false),(9,false),(4,true),(10,true),(11,false),(12,false)] (by kernel_rfl) (by kernel_rfl) rfl (fun w' =>Fr No w w') (hf.cz (Fr.drew _)) (fun w2 hf2 hS2=> ?_)
    refine sq (fun w_ hS_=>aa rfl)<|sq (fun w_ hS_=>aa rfl)<|sq (fun w_ hS_=>fN rfl rfl (bF (by omega) (by omega)))<|sq (fun w_ hS_=>eW rfl rfl Tryz.underlying9 (show((2*k:Nat):Int)=_ by omega) (iM (by omega)))<|sq (fun w_ hS_=>aa rfl)<|sq (fun w_ hS_=>aa rfl)<|sq (fun w_ hS_=>fN rfl rfl (bF (by omega) (by omega)))<|sq (fun w_ hS_=>aN rfl rfl (bF (by omega) (by omega)))<|sq (fun w_ hS_=>eW rfl rfl Tryz.underlying9 (show((2*k+1:Nat):Int)=_ by omega) (iM (by omega)))<| ?_
    refine sx (ep rfl Tryz.call224 (uJ _ _) ?_)
    rintro e_ w3 ⟨rfl,rfl⟩
    refine⟨_,rfl, ?_⟩
    refine⟨hS2, ?_⟩
    refine sx (ep rfl Tryz.call224 (uJ _ _) ?_)
    rintro e_ w3 ⟨rfl,rfl⟩
    refine⟨_,rfl, ?_⟩
    refine⟨hS2, ?_⟩
    have hf:=hS2
    have ho:=ho.nv hf2
    refine sq (fun w_ hS_=>ab rfl)<|sq (fun w_ hS_=>ab rfl)<|send<|bE (ae (t:=7) rfl<|ae (t:=6) rfl<|ae (t:=5) rfl<|ae (t:=16) rfl<|ae (t:=0) rfl<|ae (t:=4) rfl<|ae (t:=14) rfl<|ae (t:=15) rfl<|aC)<|aF<|aV<|aV<|bd<|nq (aa rfl)<|nq (bw rfl rfl)<|nq (aa rfl)<| ?_
    refine mw 31 rfl (fun h3=> ?_) (fun h3=> ?_)
    ·refine ji rfl rfl rfl (by decide)<|ji rfl rfl rfl (by decide)<|nq (bT rfl rfl)<|bc<|bE (ae (t:=34) rfl<|ae (t:=7) rfl<|ae (t:=6) rfl<|ae (t:=5) rfl<|ae (t:=16) rfl<|ae (t:=0) rfl<|ae (t:=4) rfl<|ae (t:=14) rfl<|ae (t:=15) rfl<|aC)<|aF<| ?_
     refine xN rfl (rfl) ?_
     refine aV<|bd<|nq (ab rfl)<|nq (ab rfl)<|bc<|aF<|dP<|bG<|cB<|bG<|bG<|cB<|bG<| ?_
     refine sU trivial rfl rfl rfl ⟨⟨_,rfl, ?_⟩,hf⟩
     rw[ia,hno (.inl h3)]
    ·refine ng rfl rfl rfl (aa rfl)<|ng rfl rfl rfl (bw rfl rfl)<|nq (bD rfl rfl)<|bc<|bE (ae (t:=34) rfl<|ae (t:=7) rfl<|ae (t:=6) rfl<|ae (t:=5) rfl<|ae (t:=16) rfl<|ae (t:=0) rfl<|ae (t:=4) rfl<|ae (t:=14) rfl<|ae (t:=15) rfl<|aC)<|aF<| ?_
     refine nI rfl (fun h4=> ?_) (fun h4=> ?_)
     ·refine aV<|bd<|nq (ab rfl)<|nq (ab rfl)<|bc<|aF<|dP<|bG<|cB<|bG<|bG<|cB<|bG<| ?_
      refine sU trivial rfl rfl rfl ⟨⟨_,rfl, ?_⟩,hf⟩
      rw[ia,hno (.inr h4)]
     ·refine dN<|aF<|bd<|nq (aa rfl)<|nq (aa rfl)<|nq (tG (p:=16) rfl rfl (by decide) (by decide) (by decide) (bF (by omega) (by omega)))<|nq (aa rfl)<|nq (ib (by simp) rfl rfl (FF _ _ (by omega) (by omega) (by omega) (by omega)))<|nq (bX rfl Tryz.underlying3 Tryz.underlying5 (ze (Ah _ _ (by omega) (by omega))))<| ?_
      refine nx (mQ Tryz.underlying27 fk rfl rfl rfl (by simp[Value.cells,B8]) (by decide) (by decide) fun g w3 hg hf3 hb3=> ?_)
      refine nx (kY rfl rfl Tryz.underlying27 Tryz.underlying27 (by exact .inl rfl) fk rfl (ho.nv hf3) (Src.gv hb3 rfl) (aY (l:=[_])) (by unfold maxLen;omega) (by omega) (Nat.le_trans hf.size hf3.size) fun v4 w4 ho4 hf4 hv4=> ?_)
      refine nq (ab rfl)<|bc<|bE (ae (t:=4) rfl<|ae (t:=34) rfl<|ae (t:=7) rfl<|ae (t:=6) rfl<|ae (t:=5) rfl<|ae (t:=16) rfl<|ae (t:=0) rfl<|ae (t:=14) rfl<|ae (t:=15) rfl<|aC)<|fq<|aF<|bd<|nq (aN rfl rfl (bF (by omega) (by omega)))<|nq (aa rfl)<|bc<|bE (ae (t:=15) rfl<|ae (t:=4) rfl<|ae (t:=34) rfl<|ae (t:=7) rfl<|ae (t:=6) rfl<|ae (t:=5) rfl<|ae (t:=16) rfl<|ae (t:=0) rfl<|ae (t:=14) rfl<|aC)<| ?_
      rw[if_neg (by omega)]at hsn
      refine zD (k+1) v4 _ (ae (t:=0) rfl<|ae (t:=4) rfl<|ae (t:=14) rfl<|ae (t:=15) rfl<|aC) (⟨by omega,hsn,by rw[bH];exact ho4,(hf.cz hf3).new hf4 (fun i hi=>(ho.from hi).1)⟩) (by omega)
   ·refine jf<|bS<|bS<|cU<|aF<|aV<|bd<|nq (aa rfl)<|nq (ab rfl)<|nq (ab rfl)<|bc<|bE (ae (t:=3) rfl<|ae (t:=2) rfl<|ae (t:=16) rfl<|ae (t:=0) rfl<|ae (t:=4) rfl<|ae (t:=14) rfl<|ae (t:=15) rfl<|aC)<|aF<|dP<| ?_
    refine sU trivial rfl rfl rfl ⟨⟨_,rfl, ?_⟩,hf⟩
    rw[List.take_of_length_le (by omega)]at hx
    have hxl:=fQ s x hx
    rw[ia,hx]
    have:x.length=k:=by omega
    exact⟨v,rfl,this▸ho⟩
theorem name(a:List UInt8)(w:World)(ha:a.length=32):
  Calls Tryz.prog 104 #[.agg (aW a).toArray] w fun e w' =>e= .returned (.string (strOf (cd a)))∧Fr No w w' :=by
 refine enter (N:=5) Tryz.func104 rfl rfl (by simp) ?_
 refine aV<|bd<| ?_
 refine nx (pZ rfl fun g1 w1 hg1 hf1 hb1=> ?_)
 rw[bu]at hb1
 refine nq (ab rfl)<|bc<|aF<|aV<|bd<|nq (sl rfl Tryz.underlying53 dZ)<| ?_
 refine nx (ep rfl Tryz.call177 (text _ _ _ a _ (Rd.gv hb1 (by rw[az];omega)) (by omega)) ?_)
 rintro e_ w2 ⟨rfl,hf2⟩
 refine⟨_,rfl, ?_⟩
 refine nq (ab rfl)<|bc<|bE (ae (t:=2) rfl<|ae (t:=1) rfl<|ae (t:=0) rfl<|aC)<|aF<|dP<| ?_
 exact ff trivial rfl rfl ⟨rfl,hf1.cz hf2⟩
theorem zY(v:Value)(w:World):(Extern.ReflectliteType.typeOf #[.iface 47 v]).run Tryz.prog w= .ok (.iface 312 (.agg #[.pointer (some ⟨2,47,none⟩)])) w:=by kernel_rfl
theorem sI (w : World) : ((Extern.ReflectliteType.method fun t => do Rtype.noPackHeld "Comparable" t; pure (.bool (← typeInfo t).comparable)) #[.agg #[.pointer (some ⟨2, 47, none⟩)]]).run Tryz.prog w = .ok (.bool true) w := by kernel_rfl
theorem mf (v : Value) (w : World) : (Go.method (Tryz.prog.types.size + Made.depth) 312 v "Comparable").run Tryz.prog w = .ok (341, v) w := by kernel_rfl
theorem Hf(v:Value)(xT:TypeId)(w:World):(Instr.typeAssert (.iface 47 v) xT 314 true).run Tryz.prog w= .ok (.tuple #[.nilIface,.bool false]) w:=run_typeAssert_lacksB Tryz.underlying314 (by kernel_rfl) (by kernel_rfl) v xT w
theorem AM(v:Value)(xT:TypeId)(w:World):(Instr.typeAssert (.iface 47 v) xT 317 true).run Tryz.prog w= .ok (.tuple #[.nilIface,.bool false]) w:=run_typeAssert_lacksB Tryz.underlying317 (by kernel_rfl) (by kernel_rfl) v xT w
theorem yD(v:Value)(xT:TypeId)(w:World):(Instr.typeAssert (.iface 47 v) xT 319 true).run Tryz.prog w= .ok (.tuple #[.nilIface,.bool false]) w:=run_typeAssert_lacksB Tryz.underlying319 (by kernel_rfl) (by kernel_rfl) v xT w
theorem GX(k m:Int)(w:World):
  Calls Tryz.prog 176 #[.iface 47 (.int .i64 k),.iface 47 (.int .i64 m),.bool true] w fun e w' =>e= .returned (.bool (decide (k=m)))∧w=w' :=by
 refine enter (N:=54) Tryz.func176 rfl rfl (by simp) ?_
 refine aV<|bd<|nq (ab rfl)<|bc<|aF<|cZ<| ?_
 refine kZ (fun _=>0) (fun _=>[(0,.iface 47 (.int .i64 k)),(1,.iface 47 (.int .i64 m)),(2,.bool true)]) (fun _ w' =>w=w') 0 (rfl) (ae (t:=0) rfl<|ae (t:=1) rfl<|ae (t:=2) rfl<|aC) (fun i w1 hw=> ?_)
 obtain rfl:=hw
 refine cZ<|aV<|aV<|bd<|nq (aa rfl)<|nq (aa rfl)<|ng rfl rfl rfl (aa rfl)<|ng rfl rfl rfl (aa rfl)<|ng rfl rfl rfl (((Ei rfl rfl Tryz.underlying247 (by kernel_rfl) Tryz.underlying47)))<|nq (bT rfl rfl)<|bc<|bE (ae (t:=19) rfl<|ae (t:=0) rfl<|ae (t:=1) rfl<|ae (t:=2) rfl<|aC)<|aF<| ?_
 refine nI rfl (fun h=> ?_) (fun h=> ?_)
 ·refine aV<|bd<|nq (ab rfl)<|bc<|aF<|dP<|bG<|cB<|bG<|cB<| ?_
  refine ff trivial rfl rfl ⟨?_,rfl⟩
  rw[decide_eq_true h]
 ·refine dN<|aF<|aV<|aV<|bd<|nq (aa rfl)<|nq (m7 rfl ((Hf _ _ _)))<|nq (aa rfl)<|nq (ar rfl rfl)<|nq (ar rfl rfl)<|nq (ab rfl)<|nq (ab rfl)<|bc<|bE (ae (t:=8) rfl<|ae (t:=7) rfl<|ae (t:=19) rfl<|ae (t:=0) rfl<|ae (t:=1) rfl<|ae (t:=2) rfl<|aC)<|aF<|aV<|bd<|nq (aa rfl)<|nq (aa rfl)<|ji rfl rfl rfl (by decide)<|ji rfl rfl rfl (by decide)<|ji rfl rfl rfl (by decide)<|nq (bD rfl rfl)<|bc<|bE (ae (t:=30) rfl<|ae (t:=8) rfl<|ae (t:=7) rfl<|ae (t:=19) rfl<|ae (t:=0) rfl<|ae (t:=1) rfl<|ae (t:=2) rfl<|aC)<|aF<| ?_
  refine qG rfl (rfl) ?_
  refine dN<|aF<|aV<|bd<|nq (aa rfl)<|bc<|aF<|cZ<|aV<|bd<|nq (m7 rfl ((AM _ _ _)))<|nq (ar rfl rfl)<|nq (ar rfl rfl)<|bc<|bE (ae (t:=34) rfl<|ae (t:=33) rfl<|ae (t:=31) rfl<|ae (t:=30) rfl<|ae (t:=8) rfl<|ae (t:=7) rfl<|ae (t:=19) rfl<|ae (t:=0) rfl<|ae (t:=1) rfl<|ae (t:=2) rfl<|aC)<|aF<| ?_
  refine qG rfl (rfl) ?_
  refine aV<|bd<|nq (m7 rfl ((yD _ _ _)))<|nq (ar rfl rfl)<|nq (ar rfl rfl)<|bc<|bE (ae (t:=41) rfl<|ae (t:=40) rfl<|ae (t:=34) rfl<|ae (t:=33) rfl<|ae (t:=31) rfl<|ae (t:=30) rfl<|ae (t:=8) rfl<|ae (t:=7) rfl<|ae (t:=19) rfl<|ae (t:=0) rfl<|ae (t:=1) rfl<|ae (t:=2) rfl<|aC)<|aF<| ?_
  refine qG rfl (rfl) ?_
  refine aV<|bd<|nq (ab rfl)<|bc<|bE (ae (t:=41) rfl<|ae (t:=40) rfl<|ae (t:=34) rfl<|ae (t:=33) rfl<|ae (t:=31) rfl<|ae (t:=30) rfl<|ae (t:=8) rfl<|ae (t:=7) rfl<|ae (t:=19) rfl<|ae (t:=0) rfl<|ae (t:=1) rfl<|ae (t:=2) rfl<|aC)<|aF<|aV<|bd<|nq (ab rfl)<|bc<|aF<|dP<|cB<|cB<|bG<|cB<| ?_
  refine ff trivial rfl rfl ⟨?_,rfl⟩
  rw[decide_eq_false h]
theorem qH(k m:Int)(w:World):
    Calls Tryz.prog 103 #[.iface 47 (.int .i64 k),.iface 47 (.int .i64 m)] w fun e w' =>e= .returned (.bool (decide (k=m)))∧w=w' :=by
  refine enter (N:=22) Tryz.func103 rfl rfl (by simp) ?_
  refine aV<|bd<|nq (ab rfl)<|bc<|aF<|aV<|aV<|bd<|nq (aa rfl)<|nq (((Aa rfl rfl (by kernel_rfl))))<|nq (aa rfl)<|ng rfl rfl rfl (aa rfl)<|ng rfl rfl rfl (((Aa rfl rfl (by kernel_rfl))))<|nq (bD rfl rfl)<|bc<|bE (ae (t:=11) rfl<|ae (t:=4) rfl<|ae (t:=0) rfl<|ae (t:=1) rfl<|aC)<|aF<| ?_
  refine qG rfl (rfl) ?_
  refine dN<|aF<|aV<|bd<|nq (aa rfl)<| ?_
  refine nq (xq rfl Tryz.func175 (by kernel_rfl) (by kernel_rfl) (by kernel_rfl) (show _=some Extern.ReflectliteType.typeOf by kernel_rfl) (zY _ _)) ?_
  refine nq (Ej rfl rfl (mf _ _) Tryz.func341 (by kernel_rfl) (by kernel_rfl) (by kernel_rfl) (g := Extern.ReflectliteType.method fun t => do Rtype.noPackHeld "Comparable" t; pure (.bool (← typeInfo t).comparable)) (by kernel_rfl) (sI _)) ?_
  refine nq (ab rfl)<|bc<|bE (ae (t:=5) rfl<|ae (t:=11) rfl<|ae (t:=4) rfl<|ae (t:=0) rfl<|ae (t:=1) rfl<|aC)<|aF<|aV<|bd<|nq (aa rfl)<|nq (aa rfl)<|nq (aa rfl)<| ?_
  refine nx (ep rfl Tryz.call176 (GX k m w) ?_)
  rintro e_ w1 ⟨rfl,rfl⟩
  refine⟨_,rfl, ?_⟩
  refine nq (ab rfl)<|bc<|bE (ae (t:=4) rfl<|ae (t:=5) rfl<|ae (t:=11) rfl<|ae (t:=0) rfl<|ae (t:=1) rfl<|aC)<|aF<|dP<| ?_
  exact ff trivial rfl rfl ⟨rfl,rfl⟩
def b8(s:List UInt8):List UInt8×Int:=match unhex s with
 |none=>(List.replicate 32 0,2)
 |some x=>if x.length=32 then(x,0)else(List.replicate 32 0,3)
theorem gZ(s:List UInt8):(b8 s).1.length=32:=by
 unfold b8
 split
 ·simp
 ·split
  ·assumption
  ·simp
theorem BZ(s:List UInt8)(w:World)(hs:s.length≤140737488351232):
  Calls Tryz.prog 95 #[.string (strOf s)] w fun e w' =>e= .returned (.tuple #[.agg (aW (b8 s).1).toArray,.int .i64 (b8 s).2])∧Fr No w w' :=by
 refine enter (N:=21) Tryz.func95 rfl rfl (by simp) ?_
 refine aV<|bd<| ?_
 refine nx (nc cP fun g1 w1 hg1 hf1 hb1=> ?_)
 rw[pX]at hb1
 refine nq (ab rfl)<|bc<|aF<|aV<|bd<|nq (aa rfl)<| ?_
 refine nx (ep rfl Tryz.call169 (ES s w1 hs) ?_)
 rintro e_ w2 ⟨⟨v,rfl,hv⟩,hf2⟩
 refine⟨_,rfl, ?_⟩
 have h12:=hb1.nv hf2
 have z32:(aW (List.replicate 32 (0:UInt8))).length=32:=by rw[az];simp
 unfold ia at hv
 split at hv
 ·rename_i x hx
  obtain⟨u,rfl,hu⟩:=hv
  obtain⟨Au,cu,rfl,hcu⟩:=hu.slice
  have ru:=(Own.rd hu).2.2
  have hxl:=fQ s x hx
  refine nq (aa rfl)<|nq (ar rfl rfl)<|nq (ar rfl rfl)<|nq (ab rfl)<|nq (ab rfl)<|bc<|bE (ae (t:=5) rfl<|ae (t:=4) rfl<|ae (t:=3) rfl<|ae (t:=2) rfl<|ae (t:=0) rfl<|aC)<|aF<|aV<|aV<|bd<|nq (aa rfl)<|nq (cW rfl rfl)<|bc<|bE (ae (t:=12) rfl<|ae (t:=5) rfl<|ae (t:=4) rfl<|ae (t:=3) rfl<|ae (t:=2) rfl<|ae (t:=0) rfl<|aC)<|aF<| ?_
  refine qG rfl ((decide_eq_false (fun h=>h rfl):decide (¬(0:Int)=0)=false)) ?_
  refine dN<|aF<|aV<|aV<|bd<|nq (aa rfl)<|nq (aT rfl Tryz.underlying27)<|nq (cW rfl rfl)<|bc<|bE (ae (t:=17) rfl<|ae (t:=12) rfl<|ae (t:=5) rfl<|ae (t:=4) rfl<|ae (t:=3) rfl<|ae (t:=2) rfl<|ae (t:=0) rfl<|aC)<|aF<| ?_
  refine nI rfl (fun h=> ?_) (fun h=> ?_)
  ·refine aV<|bd<|nq (eA cP rfl (by kernel_rfl))<| ?_
   refine Bz (pB rfl rfl bg (List.length_replicate ..) h12 z32 fun w3 hf3 h13 hs3=> ?_)
   refine nq (ab rfl)<|bc<|bE (ae (t:=3) rfl<|ae (t:=17) rfl<|ae (t:=12) rfl<|ae (t:=5) rfl<|ae (t:=4) rfl<|ae (t:=2) rfl<|ae (t:=0) rfl<|aC)<|aF<|dP<|bG<| ?_
   refine qJ trivial rfl rfl rfl b9 bg z32 h13.ax ⟨?_,(hf1.cz hf2).new hf3 (fun i hi=>by omega)⟩
   rw[b8,hx]
   simp only
   rw[if_neg (fun e=>h (by rw[e];rfl))]
  ·have h32:x.length=32:=by omega
   rw[h32]at ru ⊢
   refine dN<|aF<|aV<|bd<|nq (aa rfl)<| ?_
   refine nx (ep rfl Tryz.call170 (of Au cu x _ ru) ?_)
   rintro e_ w3 ⟨rfl,hf3⟩
   refine⟨_,rfl, ?_⟩
   refine Bz (pB rfl rfl bg h32 (h12.nv hf3) z32 fun w4 hf4 h14 hs4=> ?_)
   refine nq (ab rfl)<|bc<|bE (ae (t:=3) rfl<|ae (t:=17) rfl<|ae (t:=12) rfl<|ae (t:=5) rfl<|ae (t:=4) rfl<|ae (t:=2) rfl<|ae (t:=0) rfl<|aC)<|aF<|dP<| ?_
   refine qJ trivial rfl rfl rfl b9 bg (by rw[az];exact h32) h14.ax ⟨?_,((hf1.cz hf2).cz hf3).new hf4 (fun i hi=>by omega)⟩
   rw[b8,hx]
   simp only
   rw[if_pos h32]
 ·rename_i hx
  subst hv
  refine nq (aa rfl)<|nq (ar rfl rfl)<|nq (ar rfl rfl)<|nq (ab rfl)<|nq (ab rfl)<|bc<|bE (ae (t:=5) rfl<|ae (t:=4) rfl<|ae (t:=3) rfl<|ae (t:=2) rfl<|ae (t:=0) rfl<|aC)<|aF<|aV<|aV<|bd<|nq (aa rfl)<|nq (cW rfl rfl)<|bc<|bE (ae (t:=12) rfl<|ae (t:=5) rfl<|ae (t:=4) rfl<|ae (t:=3) rfl<|ae (t:=2) rfl<|ae (t:=0) rfl<|aC)<|aF<| ?_
  refine xN rfl ((decide_eq_true (by decide):decide (¬(2:Int)=0)=true)) ?_
  refine aV<|bd<|nq (eA cP rfl (by kernel_rfl))<|nq (aa rfl)<| ?_
  refine Bz (pB rfl rfl bg (List.length_replicate ..) h12 z32 fun w3 hf3 h13 hs3=> ?_)
  refine nq (ab rfl)<|bc<|bE (ae (t:=3) rfl<|ae (t:=12) rfl<|ae (t:=5) rfl<|ae (t:=4) rfl<|ae (t:=2) rfl<|ae (t:=0) rfl<|aC)<|aF<|dP<|bG<| ?_
  refine qJ trivial rfl rfl rfl b9 bg z32 h13.ax ⟨?_,(hf1.cz hf2).new hf3 (fun i hi=>by omega)⟩
  rw[b8,hx]
  rfl
theorem Dl(s:List UInt8)(w:World)(hs:s.length≤140737488351232):
  Calls Tryz.prog 92 #[.string (strOf s)] w fun e w' =>e= .returned (.tuple #[.agg (aW (b8 s).1).toArray,.int .i64 (b8 s).2])∧Fr No w w' :=by
 refine enter (N:=26) Tryz.func92 rfl rfl (by simp) ?_
 refine aV<|bd<| ?_
 refine nx (nc cP fun g1 w1 hg1 hf1 hb1=> ?_)
 rw[pX]at hb1
 refine nq (ab rfl)<|bc<|aF<|aV<|bd<|nq (aa rfl)<| ?_
 refine nx (ep rfl Tryz.call166 (parse s w1 hs) ?_)
 rintro e_ w2 ⟨⟨v,rfl,hv⟩,hf2⟩
 refine⟨_,rfl, ?_⟩
 have h12:=hb1.nv hf2
 have z32:(aW (List.replicate 32 (0:UInt8))).length=32:=by rw[az];simp
 unfold ia at hv
 split at hv
 ·rename_i x hx
  obtain⟨u,rfl,hu⟩:=hv
  obtain⟨Au,cu,rfl,hcu⟩:=hu.slice
  have ru:=(Own.rd hu).2.2
  have hxl:=fQ s x hx
  refine nq (aa rfl)<|nq (ar rfl rfl)<|nq (ar rfl rfl)<|nq (ab rfl)<|nq (ab rfl)<|bc<|bE (ae (t:=5) rfl<|ae (t:=4) rfl<|ae (t:=3) rfl<|ae (t:=2) rfl<|ae (t:=0) rfl<|aC)<|aF<|aV<|cZ<|aV<|bd<|nq (aa rfl)<|nq (kK rfl Tryz.underlying47 (fun _ h=>by cases h))<|nq (kK rfl Tryz.underlying47 (fun _ h=>by cases h))<| ?_
  refine nx (ep rfl Tryz.call103 (qH 0 2 _) ?_)
  rintro e_ w3 ⟨rfl,rfl⟩
  refine⟨_,rfl, ?_⟩
  refine nq (ab rfl)<|bc<|bE (ae (t:=11) rfl<|ae (t:=5) rfl<|ae (t:=4) rfl<|ae (t:=3) rfl<|ae (t:=2) rfl<|ae (t:=0) rfl<|aC)<|aF<| ?_
  refine qG rfl ((decide_eq_false (by decide):decide ((0:Int)=2)=false)) ?_
  refine aV<|bd<|nq (aa rfl)<|nq (aT rfl Tryz.underlying27)<|nq (cW rfl rfl)<|nq (ab rfl)<|bc<|bE (ae (t:=18) rfl<|ae (t:=11) rfl<|ae (t:=5) rfl<|ae (t:=4) rfl<|ae (t:=3) rfl<|ae (t:=2) rfl<|ae (t:=0) rfl<|aC)<|aF<| ?_
  refine nI rfl (fun h=> ?_) (fun h=> ?_)
  ·refine aV<|bd<|nq (eA cP rfl (by kernel_rfl))<| ?_
   refine Bz (pB rfl rfl bg (List.length_replicate ..) h12 z32 fun w3 hf3 h13 hs3=> ?_)
   refine nq (ab rfl)<|bc<|bE (ae (t:=3) rfl<|ae (t:=18) rfl<|ae (t:=11) rfl<|ae (t:=5) rfl<|ae (t:=4) rfl<|ae (t:=2) rfl<|ae (t:=0) rfl<|aC)<|aF<|dP<|cB<|bG<| ?_
   refine qJ trivial rfl rfl rfl b9 bg z32 h13.ax ⟨?_,(hf1.cz hf2).new hf3 (fun i hi=>by omega)⟩
   rw[b8,hx]
   simp only
   rw[if_neg (fun e=>h (by rw[e];rfl))]
  ·have h32:x.length=32:=by omega
   rw[h32]at ru ⊢
   obtain⟨ad,rfl⟩:∃ad,Au=some ad:=⟨_,ru.some (by omega)⟩
   refine dN<|fq<|aF<|aV<|bd<|nq (aa rfl)<|nq (pc rfl Tryz.underlying53 (by omega))<|nq (aU rfl b9 bg ((by rw[az];exact h32)) ru.2.2)<| ?_
   refine Bz (pB rfl rfl bg h32 h12 z32 fun w4 hf4 h14 hs4=> ?_)
   refine nq (ab rfl)<|bc<|bE (ae (t:=3) rfl<|ae (t:=18) rfl<|ae (t:=11) rfl<|ae (t:=5) rfl<|ae (t:=4) rfl<|ae (t:=2) rfl<|ae (t:=0) rfl<|aC)<|aF<|dP<| ?_
   refine qJ trivial rfl rfl rfl b9 bg (by rw[az];exact h32) h14.ax ⟨?_,(hf1.cz hf2).new hf4 (fun i hi=>by omega)⟩
   rw[b8,hx]
   simp only
   rw[if_pos h32]
 ·rename_i hx
  subst hv
  refine nq (aa rfl)<|nq (ar rfl rfl)<|nq (ar rfl rfl)<|nq (ab rfl)<|nq (ab rfl)<|bc<|bE (ae (t:=5) rfl<|ae (t:=4) rfl<|ae (t:=3) rfl<|ae (t:=2) rfl<|ae (t:=0) rfl<|aC)<|aF<|aV<|cZ<|aV<|bd<|nq (aa rfl)<|nq (kK rfl Tryz.underlying47 (fun _ h=>by cases h))<|nq (kK rfl Tryz.underlying47 (fun _ h=>by cases h))<| ?_
  refine nx (ep rfl Tryz.call103 (qH 2 2 _) ?_)
  rintro e_ w3 ⟨rfl,rfl⟩
  refine⟨_,rfl, ?_⟩
  refine nq (ab rfl)<|bc<|bE (ae (t:=11) rfl<|ae (t:=5) rfl<|ae (t:=4) rfl<|ae (t:=3) rfl<|ae (t:=2) rfl<|ae (t:=0) rfl<|aC)<|aF<| ?_
  refine xN rfl ((decide_eq_true rfl:decide ((2:Int)=2)=true)) ?_
  refine aV<|bd<|nq (eA cP rfl (by kernel_rfl))<|nq (aa rfl)<| ?_
  refine Bz (pB rfl rfl bg (List.length_replicate ..) h12 z32 fun w3 hf3 h13 hs3=> ?_)
  refine nq (ab rfl)<|bc<|bE (ae (t:=3) rfl<|ae (t:=11) rfl<|ae (t:=5) rfl<|ae (t:=4) rfl<|ae (t:=2) rfl<|ae (t:=0) rfl<|aC)<|aF<|dP<|cB<|bG<| ?_
  refine qJ trivial rfl rfl rfl b9 bg z32 h13.ax ⟨?_,(hf1.cz hf2).new hf3 (fun i hi=>by omega)⟩
  rw[b8,hx]
  rfl
def fill(l:List UInt8)(n:Nat):List UInt8:=(List.range n).map fun i=>l.getD (i % l.length) 0
theorem rL(l:List UInt8)(n:Nat):fill l (n+1)=fill l n++[l.getD (n % l.length) 0]:=by simp[fill,List.range_succ]
theorem Es(A:Option Addr)(n c:Nat)(l:List UInt8)(m:Nat)(w:World)(hr:Rd w 1 A n (aW l))(hn:n≤140737488351232)(hm:m≤1000000):
  Calls Tryz.prog 101 #[.slice A n c,.int .i64 (m:Int)] w fun e w' =>∃v,e= .returned v∧Go.Eng.Own w' w.heap.size 5 1 v m (aW (fill l m))∧Fr No w w' :=by
 have hl:l.length=n:=by have:=hr.1;rw[az]at this;omega
 refine enter (N:=29) Tryz.func101 rfl rfl (by simp) ?_
 refine aV<|bd<|nq (ab rfl)<|bc<|aF<|aV<|bd<|nq (ab rfl)<|bc<|aF<|aV<|aV<|bd<|nq (ab rfl)<|bc<|aF<|cZ<| ?_
 refine sZ (fun k _=>m-k) (fun k v=>[(0,.slice A n c),(1,.int .i64 (m:Int)),(5,v),(6,.int .i64 (k:Nat))]) (fun k v w' =>k≤m∧Go.Eng.Own w' w.heap.size 5 1 v k (aW (fill l k))∧Fr No w w') 0 (.slice none 0 0) (⟨Nat.zero_le _,Own.nil w w.heap.size _ 1,Fr.refl _ _⟩) (ae (t:=0) rfl<|ae (t:=1) rfl<|ae (t:=5) rfl<|ae (t:=6) rfl<|aC) (fun k v w2 ⟨hk,ho,hf⟩=> ?_)
 refine aV<|aV<|bd<|nq (aa rfl)<|nq (aa rfl)<|nq (bw rfl rfl)<|bc<|bE (ae (t:=9) rfl<|ae (t:=0) rfl<|ae (t:=1) rfl<|ae (t:=5) rfl<|ae (t:=6) rfl<|aC)<|aF<| ?_
 refine nI rfl (fun h=> ?_) (fun h=> ?_)
 ·refine dN<|aF<|aV<|cZ<|aV<|bd<|nq (aa rfl)<|nq (aT rfl Tryz.underlying27)<|nq (dh rfl rfl)<|bc<|bE (ae (t:=14) rfl<|ae (t:=9) rfl<|ae (t:=0) rfl<|ae (t:=1) rfl<|ae (t:=5) rfl<|ae (t:=6) rfl<|aC)<|aF<| ?_
  refine nI rfl (fun h2=> ?_) (fun h2=> ?_)
  ·have hkn:k % n<n:=Nat.mod_lt _ (by omega)
   have ga:=bM (l:=l) (i:=k % n) (by omega)
   have r2:=hr.nv hf
   refine bd<|nq (aa rfl)<|nq (aa rfl)<|nq (aa rfl)<|nq (aa rfl)<|nq (aT rfl Tryz.underlying27)<|nq (gN rfl rfl (by omega) (by omega))<|nq (aS rfl rfl Tryz.underlying27 dZ r2.2.1 (show((k % n:Nat):Int)=_ by omega) (by omega))<|nq (aw rfl jc (r2.cell ga))<| ?_
   refine nx (mQ Tryz.underlying27 fk rfl rfl rfl (by simp[Value.cells,B8]) (by decide) (by decide) fun g w3 hg hf3 hb3=> ?_)
   refine nx (kY rfl rfl Tryz.underlying27 Tryz.underlying27 (by exact .inl rfl) fk rfl (ho.nv hf3) (Src.gv hb3 rfl) (aY (l:=[_])) (by unfold maxLen;omega) (by omega) (hf.cz hf3).size fun v4 w4 ho4 hf4 hv4=> ?_)
   refine nq (ab rfl)<|bc<|bE (ae (t:=5) rfl<|ae (t:=14) rfl<|ae (t:=9) rfl<|ae (t:=0) rfl<|ae (t:=1) rfl<|ae (t:=6) rfl<|aC)<|fq<|aF<|bd<|nq (aa rfl)<|nq (aN rfl rfl (bF (by omega) (by omega)))<|nq (ab rfl)<|bc<|bE (ae (t:=6) rfl<|ae (t:=5) rfl<|ae (t:=14) rfl<|ae (t:=9) rfl<|ae (t:=0) rfl<|ae (t:=1) rfl<|aC)<| ?_
   refine qc (k+1) v4 (ae (t:=0) rfl<|ae (t:=1) rfl<|ae (t:=5) rfl<|ae (t:=6) rfl<|aC) (⟨by omega,by rw[rL,bH,hl];exact ho4,(hf.cz hf3).new hf4 (fun i hi=>(ho.from hi).1)⟩) (by omega)
  ·have h0:l=[]:=List.eq_nil_of_length_eq_zero (by omega)
   refine bd<|nq (aa rfl)<| ?_
   refine nx (mQ Tryz.underlying27 fk rfl rfl rfl (by simp[Value.cells,B8]) (by decide) (by decide) fun g w3 hg hf3 hb3=> ?_)
   refine nx (kY rfl rfl Tryz.underlying27 Tryz.underlying27 (by exact .inl rfl) fk rfl (ho.nv hf3) (Src.gv hb3 rfl) (aY (l:=[0])) (by unfold maxLen;omega) (by omega) (hf.cz hf3).size fun v4 w4 ho4 hf4 hv4=> ?_)
   refine nq (ab rfl)<|bc<|bE (ae (t:=5) rfl<|ae (t:=14) rfl<|ae (t:=9) rfl<|ae (t:=0) rfl<|ae (t:=1) rfl<|ae (t:=6) rfl<|aC)<|fq<|aF<|bd<|nq (aa rfl)<|nq (aN rfl rfl (bF (by omega) (by omega)))<|nq (ab rfl)<|bc<|bE (ae (t:=6) rfl<|ae (t:=5) rfl<|ae (t:=14) rfl<|ae (t:=9) rfl<|ae (t:=0) rfl<|ae (t:=1) rfl<|aC)<| ?_
   refine qc (k+1) v4 (ae (t:=0) rfl<|ae (t:=1) rfl<|ae (t:=5) rfl<|ae (t:=6) rfl<|aC) (⟨by omega,by rw[rL,bH,h0];rw[h0]at ho4;exact ho4,(hf.cz hf3).new hf4 (fun i hi=>(ho.from hi).1)⟩) (by omega)
 ·obtain rfl:k=m:=by omega
  refine jf<|bS<|bS<|cU<|aF<|aV<|bd<|nq (aa rfl)<|nq (ab rfl)<|bc<|bE (ae (t:=4) rfl<|ae (t:=9) rfl<|ae (t:=0) rfl<|ae (t:=1) rfl<|ae (t:=5) rfl<|ae (t:=6) rfl<|aC)<|aF<|dP<| ?_
  exact ff trivial rfl rfl ⟨v,rfl,ho,hf⟩
theorem FQ(a:List UInt8)(w:World)(ha:a.length=32):
  Calls Tryz.prog 111 #[.agg (aW a).toArray] w fun e w' =>e= .returned (.string (strOf (cd a)))∧Fr No w w' :=by
 refine enter (N:=6) Tryz.func111 rfl rfl (by simp) ?_
 refine aV<|bd<| ?_
 refine nx (pZ rfl fun g1 w1 hg1 hf1 hb1=> ?_)
 rw[bu]at hb1
 refine nq (ab rfl)<|bc<|aF<|aV<|bd<|nq (aU rfl b9 bg ((by rw[az];exact ha)) hb1.ax)<| ?_
 refine nx (ep rfl Tryz.call183 (bytes a _ ha) ?_)
 rintro e_ w2 ⟨v,rfl,hv,hf2⟩
 refine⟨_,rfl, ?_⟩
 obtain⟨Av,cv,rfl,hcv⟩:=hv.slice
 refine nx (ep rfl Tryz.call182 (GA Av _ cv a _ ((Own.rd hv).2.2) (by omega)) ?_)
 rintro e_ w3 ⟨rfl,hf3⟩
 refine⟨_,rfl, ?_⟩
 refine nq (ab rfl)<|bc<|bE (ae (t:=2) rfl<|ae (t:=1) rfl<|ae (t:=0) rfl<|aC)<|aF<|dP<| ?_
 exact ff trivial rfl rfl ⟨rfl,(hf1.cz hf2).cz hf3⟩
theorem qR(d:List UInt8)(h:d.length=32):b8 (cd d)=(d,0):=by
 rw[b8,j9]
 simp only
 rw[if_pos h]
end Go.Proofs.YtmibdabdlgmafaaGreatDoor
end
section
set_option maxRecDepth 20000
namespace Go.Proofs.YtmibdabdlgmafaaGreatDoor
open Go.Eng Go.Hx
theorem Bj{a:List UInt8}(ha:a.length=32):cf Tryz.prog 104 [.agg (aW a).toArray] [] [] (fun v_ X_ S_=>v_=(.string (strOf (cd a)))∧X_=[]∧S_=[]):=by
 exact fU fun m=>Calls.mono (name a _ ha) (fun e w' ⟨h,hf⟩=>⟨_,h,⟨rfl,rfl,rfl⟩,hf⟩)
theorem wF{a:List UInt8}(ha:a.length=32):cf Tryz.prog 111 [.agg (aW a).toArray] [] [] (fun v_ X_ S_=>v_=(.string (strOf (cd a)))∧X_=[]∧S_=[]):=by
 exact fU fun m=>Calls.mono (FQ a _ ha) (fun e w' ⟨h,hf⟩=>⟨_,h,⟨rfl,rfl,rfl⟩,hf⟩)
theorem y9{s:List UInt8}(hs:s.length≤1000000):cf Tryz.prog 92 [.string (strOf s)] [] [] (fun v_ X_ S_=>v_=(.tuple #[.agg (aW (b8 s).1).toArray,.int .i64 (b8 s).2])∧X_=[]∧S_=[]):=by
 exact fU fun m=>Calls.mono (Dl s _ (by omega)) (fun e w' ⟨h,hf⟩=>⟨_,h,⟨rfl,rfl,rfl⟩,hf⟩)
theorem xI{s:List UInt8}(hs:s.length≤1000000):cf Tryz.prog 95 [.string (strOf s)] [] [] (fun v_ X_ S_=>v_=(.tuple #[.agg (aW (b8 s).1).toArray,.int .i64 (b8 s).2])∧X_=[]∧S_=[]):=by
 exact fU fun m=>Calls.mono (BZ s _ (by omega)) (fun e w' ⟨h,hf⟩=>⟨_,h,⟨rfl,rfl,rfl⟩,hf⟩)
theorem D9{k q:Int}:cf Tryz.prog 103 [.iface 47 (.int .i64 k),.iface 47 (.int .i64 q)] [] [] (fun v_ X_ S_=>v_=(.bool (decide (k=q)))∧X_=[]∧S_=[]):=by
 exact fU fun m=>Calls.mono (qH k q _) (fun e w' ⟨h,hw⟩=>⟨_,h,⟨rfl,rfl,rfl⟩,hw▸Fr.refl _ _⟩)
theorem FM{A:Option Addr}{n c:Nat}{l:List UInt8}{k:Nat}(hn:n≤140737488351232)(hk:k≤1000000):cf Tryz.prog 101 [.slice A n c,.int .i64 (k:Nat)] [] [di 1 A n (aW l)] (fun v_ X_ S_=>∃v,v_=v∧X_=[aH 5 1 v k (aW (fill l k))]∧S_=[]):=by
 exact kS fun m=>Calls.mono (Es A n c l k _ (m.rd 0 rfl) hn hk) (fun e w' ⟨v,h,ho,hf⟩=>⟨v,v,_,_,_,_,h,⟨v,rfl,rfl,rfl⟩,ho,hf⟩)
end Go.Proofs.YtmibdabdlgmafaaGreatDoor
end
section
set_option maxRecDepth 20000
namespace Go.Proofs.YtmibdabdlgmafaaGreatDoor
open Go.Eng Go.Hx
theorem uy{l:List UInt8}{c:UInt8}:cf Tryz.prog 267 [.string (strOf l),B8 c] [] [] (fun v_ X_ S_=>v_=(.int .i64 (Lib.indexByte l c))∧X_=[]∧S_=[]):=by
 refine aP (N:=8) Tryz.func267 rfl rfl (by simp) fun b=> ?_
 refine ah<|aj<|hy (fun _=>ab rfl)<|ai<|ag<|ah<|aj<|hy (fun _=>aa rfl)<|hy (fun _=>aa rfl)<| ?_
 refine hx (mX (fun m=>xq rfl Tryz.func295 (by kernel_rfl) (by kernel_rfl) (by kernel_rfl) (show _=some Extern.BytealgIndexByte.indexByte by kernel_rfl) (Lib.run_indexByteString _ _ _)) ?_)
 refine hy (fun _=>ab rfl)<|ai<|al (ρ' :=[(4,_),(0,_),(1,_)]) ⟨rfl,rfl,rfl,trivial⟩<|ag<|aX<| ?_
 exact bh trivial rfl rfl [] rfl [] rfl ⟨(by congr 2;simp),rfl,rfl⟩
theorem yG{l:List UInt8}{c:UInt8}:cf Tryz.prog 274 [.string (strOf l),.string (strOf [c])] [] [] (fun v_ X_ S_=>v_=(.int .i64 (Lib.indexByte l c))∧X_=[]∧S_=[]):=by
 refine aP (N:=143) Tryz.func274 rfl rfl (by simp) fun b=> ?_
 refine ah<|aj<|hy (fun _=>ab rfl)<|ai<|ag<|ah<|aj<|hy (fun _=>aa rfl)<|hy (fun _=>yV (cY rfl Tryz.underlying9) ((rfl:_=Value.int .i64 1)))<|hy (fun _=>ab rfl)<|ai<|al (ρ' :=[(5,_),(4,_),(0,_),(1,_)]) ⟨rfl,rfl,rfl,rfl,trivial⟩<|ag<|ah<|aK<|ah<|aj<|hy (fun _=>aa rfl)<|hy (fun _=>cM rfl rfl)<|hy (fun _=>aa rfl)<| ?_
 refine dW (o:=_) rfl rfl rfl (fun _=>aa rfl)<|dW (o:=_) rfl rfl rfl (fun _=>aa rfl)<|dW (o:=_) rfl rfl rfl (fun _=>rC rfl rfl)<|hy (fun _=>bD rfl rfl)<|hy (fun _=>ab rfl)<|ai<|al (ρ' :=[(16,_),(5,_),(4,_),(0,_),(1,_)]) ⟨rfl,rfl,rfl,rfl,rfl,trivial⟩<|ag<| ?_
 refine cG rfl (fun h=> ?_) (fun h=> ?_)
 ·obtain rfl:=cN.1 h
  refine ah<|aj<|hy (fun _=>ab rfl)<|ai<|ag<|aX<|bf<|ay<| ?_
  exact bh trivial rfl rfl [] rfl [] rfl ⟨(by simp[Lib.indexByte]),rfl,rfl⟩
 ·refine ah<|aj<|hy (fun _=>aa rfl)<|hy (fun _=>cM rfl rfl)<|hy (fun _=>ab rfl)<|ai<|al (ρ' :=[(24,_),(16,_),(5,_),(4,_),(0,_),(1,_)]) ⟨rfl,rfl,rfl,rfl,rfl,rfl,trivial⟩<|ag<| ?_
  refine gY rfl (rfl) ?_
  refine ah<|aj<|hy (fun _=>aa rfl)<|hy (fun _=>aa rfl)<|hy (fun _=>yV (eW rfl rfl Tryz.underlying9 rfl (iM (by simp))) ((rfl:_=B8 c)))<| ?_
  refine hx (aq rfl Tryz.call267 (uy) [] rfl [] rfl ?_)
  rintro _ _ _ ⟨rfl,rfl,rfl⟩
  refine hy (fun _=>ab rfl)<|ai<|al (ρ' :=[(4,_),(24,_),(16,_),(5,_),(0,_),(1,_)]) ⟨rfl,rfl,rfl,rfl,rfl,rfl,trivial⟩<|ak (X' :=[]) (S' :=[]) (fun _ m=>m)<|ag<|aX<|bf<|ay<| ?_
  exact bh trivial rfl rfl [] rfl [] rfl ⟨rfl,rfl,rfl⟩
theorem pG{l:List UInt8}{c:UInt8}:cf Tryz.prog 233 [.string (strOf l),.string (strOf [c])] [] [] (fun v_ X_ S_=>v_=(.int .i64 (Lib.indexByte l c))∧X_=[]∧S_=[]):=by
 refine aP (N:=8) Tryz.func233 rfl rfl (by simp) fun b=> ?_
 refine ah<|aj<|hy (fun _=>ab rfl)<|ai<|ag<|ah<|aj<|hy (fun _=>aa rfl)<|hy (fun _=>aa rfl)<| ?_
 refine hx (aq rfl Tryz.call274 (yG) [] rfl [] rfl ?_)
 rintro _ _ _ ⟨rfl,rfl,rfl⟩
 refine hy (fun _=>ab rfl)<|ai<|al (ρ' :=[(4,_),(0,_),(1,_)]) ⟨rfl,rfl,rfl,trivial⟩<|ak (X' :=[]) (S' :=[]) (fun _ m=>m)<|ag<|aX<| ?_
 exact bh trivial rfl rfl [] rfl [] rfl ⟨rfl,rfl,rfl⟩
theorem vk{l:List UInt8}{c:UInt8}:cf Tryz.prog 184 [.string (strOf l),.string (strOf [c])] [] [] (fun v_ X_ S_=>v_=(.bool (decide (c∈l)))∧X_=[]∧S_=[]):=by
 refine aP (N:=9) Tryz.func184 rfl rfl (by simp) fun b=> ?_
 refine ah<|aj<|hy (fun _=>ab rfl)<|ai<|ag<|ah<|aj<|hy (fun _=>aa rfl)<|hy (fun _=>aa rfl)<| ?_
 refine hx (aq rfl Tryz.call233 (pG) [] rfl [] rfl ?_)
 rintro _ _ _ ⟨rfl,rfl,rfl⟩
 refine hy (fun _=>iX rfl rfl)<|hy (fun _=>ab rfl)<|ai<|al (ρ' :=[(4,_),(0,_),(1,_)]) ⟨rfl,rfl,rfl,trivial⟩<|ak (X' :=[]) (S' :=[]) (fun _ m=>m)<|ag<|aX<| ?_
 exact bh trivial rfl rfl [] rfl [] rfl ⟨(by congr 1;rw[←Lib.contains_iff_indexByte];simp),rfl,rfl⟩
def gh(p:List UInt8):Prop:=p≠ []∧p.length≤96∧¬(0:UInt8)∈p
instance(p:List UInt8):Decidable (gh p):=by unfold gh;infer_instance
theorem w8(p:List UInt8):strOf p≠⟨#[]⟩↔p≠ []:=by
 rw[show(⟨#[]⟩:ByteArray)=strOf []from rfl]
 simp only[ne_eq,cN]
theorem zu{p:List UInt8}:cf Tryz.prog 115 [.string (strOf p)] [] [] (fun v_ X_ S_=>v_=(.bool (decide (gh p)))∧X_=[]∧S_=[]):=by
 have hsz:=c7 p
 refine aP (N:=15) Tryz.func115 rfl rfl (by simp) fun b=> ?_
 refine ah<|aj<|hy (fun _=>ab rfl)<|ai<|ag<|ah<|aj<|hy (fun _=>aa rfl)<|hy (fun _=>oC rfl rfl)<|hy (fun _=>aa rfl)<| ?_
 refine eY 5 rfl (fun h1=> ?_) (fun h1=> ?_)
 ·have h1' :=(w8 p).1 h1
  refine dW (o:=_) rfl rfl rfl (fun _=>aa rfl)<|dW (o:=_) rfl rfl rfl (fun _=>cY rfl Tryz.underlying9)<|dW (o:=_) rfl rfl rfl (fun _=>ot rfl rfl)<|hy (fun _=>bT rfl rfl)<|hy (fun _=>aa rfl)<| ?_
  refine eY 10 rfl (fun h2=> ?_) (fun h2=> ?_)
  ·have h2' :p.length≤96:=by omega
   refine dW (o:=_) rfl rfl rfl (fun _=>aa rfl)<| ?_
   refine Gw (o:=_) rfl rfl rfl (aq rfl Tryz.call184 (vk) [] rfl [] rfl ?_)
   rintro _ _ _ ⟨rfl,rfl,rfl⟩
   refine dW (o:=_) rfl rfl rfl (fun _=>jK rfl)<|hy (fun _=>bT rfl rfl)<|hy (fun _=>ab rfl)<|ai<|al (ρ' :=[(2,_),(0,_)]) ⟨rfl,rfl,trivial⟩<|ak (X' :=[]) (S' :=[]) (fun _ m=>m)<|ag<|aX<| ?_
   exact bh trivial rfl rfl [] rfl [] rfl ⟨(by congr 1;simp only[gh];simp[h1',h2']),rfl,rfl⟩
  ·have h2' :¬p.length≤96:=by omega
   refine bI rfl rfl rfl (by decide)<|bI rfl rfl rfl (by decide)<|bI rfl rfl rfl (by decide)<|hy (fun _=>bD rfl rfl)<|hy (fun _=>ab rfl)<|ai<|al (ρ' :=[(2,_),(0,_)]) ⟨rfl,rfl,trivial⟩<|ag<|aX<| ?_
   exact bh trivial rfl rfl [] rfl [] rfl ⟨(by congr 1;simp only[gh];simp[h2']),rfl,rfl⟩
 ·have h1' :¬p≠ []:=fun h=>h1 ((w8 p).2 h)
  refine bI rfl rfl rfl (by decide)<|bI rfl rfl rfl (by decide)<|bI rfl rfl rfl (by decide)<|hy (fun _=>bD rfl rfl)<|hy (fun _=>aa rfl)<| ?_
  refine bI rfl rfl rfl (by decide)<|bI rfl rfl rfl (by decide)<|bI rfl rfl rfl (by decide)<|hy (fun _=>bD rfl rfl)<|hy (fun _=>ab rfl)<|ai<|al (ρ' :=[(2,_),(0,_)]) ⟨rfl,rfl,trivial⟩<|ag<|aX<| ?_
  exact bh trivial rfl rfl [] rfl [] rfl ⟨(by congr 1;simp only[gh];simp[h1']),rfl,rfl⟩
end Go.Proofs.YtmibdabdlgmafaaGreatDoor
end
