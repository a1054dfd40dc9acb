/- Part. -/
import Derived.Test.YtmibdabdlgmafaaGreatDoorPLM1
import Derived.Test.YtmibdabdlgmafaaGreatDoorProg
import Derived.KernelRfl
import Derived.Lib.Bytealg
import Derived.Test.YtmibdabdlgmafaaGreatDoorRows
import Derived.ProofKit
import Derived.LaidMore
import Derived.OpenShut
import Derived.MakeChecks
import Derived.LaidHandle
import Derived.LaidLaws
import Derived.Lib.BytesEntry
import Derived.Lib.IndexAny
import Derived.ShutString
import Derived.ChangeOld
import Derived.SizedLaws
import Derived.ChangeSame
import Derived.Conc.MuLib
import Derived.Laws.LoneSync
import Derived.Tactics
import Derived.Tactics2
import Derived.Defers
import Derived.Laws.Pointers
import Derived.RegionTactic
import Derived.RegionCalls
set_option linter.all false
section
namespace Go.Hx
open Go.Eng
def gX(n:Nat)(x:UInt32):UInt32:=.ofNat (x.toNat/2 ^ n+x.toNat % 2 ^ n*2 ^ (32-n))
theorem l5{n:Nat}(hn:n≤32)(x:UInt32):(gX n x).toNat=x.toNat/2 ^ n+x.toNat % 2 ^ n*2 ^ (32-n):=by
 rw[gX,UInt32.toNat_ofNat',Nat.mod_eq_of_lt]
 have h1:=x.toNat_lt
 have h2:2 ^ n*2 ^ (32-n)=2 ^ 32:=by rw[←Nat.pow_add];congr 1;omega
 have h3:x.toNat % 2 ^ n<2 ^ n:=Nat.mod_lt _ (Nat.two_pow_pos n)
 have h4:x.toNat/2 ^ n<2 ^ (32-n):=Nat.div_lt_of_lt_mul (by omega)
 have h5:x.toNat % 2 ^ n*2 ^ (32-n)≤(2 ^ n-1)*2 ^ (32-n):=Nat.mul_le_mul_right _ (by omega)
 have h6:(2 ^ n-1)*2 ^ (32-n)+2 ^ (32-n)=2 ^ 32:=by
  rw[←h2,Nat.sub_mul,Nat.one_mul]
  have:=Nat.le_mul_of_pos_left (2 ^ (32-n)) (Nat.two_pow_pos n)
  omega
 omega
def s5(x:UInt32):UInt32:=x/2+x % 2*2147483648
theorem wP(x:UInt32):(s5 x).toNat=x.toNat/2+x.toNat % 2*2147483648:=by
 have h1:=x.toNat_lt
 rw[s5,UInt32.toNat_add,UInt32.toNat_mul,UInt32.toNat_div,UInt32.toNat_mod]
 show(x.toNat/2+x.toNat % 2*2147483648 % 4294967296) % 4294967296=_
 have:x.toNat % 2<2:=Nat.mod_lt _ (by decide)
 omega
theorem xu(x:UInt32):gX 0 x=x:=by
 apply UInt32.toNat_inj.1
 rw[l5 (by decide)]
 simp[Nat.mod_one]
theorem xw{n:Nat}(hn:n<32)(x:UInt32):gX (n+1) x=s5 (gX n x):=by
 apply UInt32.toNat_inj.1
 rw[wP,l5 (by omega),l5 (by omega)]
 obtain⟨k,hk⟩:∃k,32-n=k+1:=⟨31-n,by omega⟩
 have hk2:32-(n+1)=k:=by omega
 rw[hk,hk2,Nat.pow_succ 2 k,Nat.pow_succ 2 n]
 have hq:x.toNat/(2 ^ n*2)=x.toNat/2 ^ n/2:=(Nat.div_div_eq_div_mul ..).symm
 have hm:x.toNat % (2 ^ n*2)=x.toNat % 2 ^ n+2 ^ n*(x.toNat/2 ^ n % 2):=Nat.mod_mul ..
 rw[hq,hm]
 generalize x.toNat/2 ^ n=q
 generalize x.toNat % 2 ^ n=m
 have h31:2 ^ n*2 ^ k=2147483648:=by rw[←Nat.pow_add,show n+k=31 by omega]
 have e1:(q+m*(2 ^ k*2))/2=q/2+m*2 ^ k:=by
  rw[show m*(2 ^ k*2)=(m*2 ^ k)*2 by rw[Nat.mul_assoc]];omega
 have e2:(q+m*(2 ^ k*2)) % 2=q % 2:=by
  rw[show m*(2 ^ k*2)=(m*2 ^ k)*2 by rw[Nat.mul_assoc]];omega
 rw[e1,e2,Nat.add_mul,Nat.mul_right_comm (2 ^ n),h31]
 omega
theorem qP{n:Nat}(h0:0<n)(hn:n<32)(x:UInt32):UInt32.ofNat (x.toNat*2 ^ (32-n)) ||| UInt32.ofNat (x.toNat/2 ^ n)=gX n x:=by
 apply UInt32.toNat_inj.1
 have h1:=x.toNat_lt
 rw[l5 (by omega),UInt32.toNat_or,UInt32.toNat_ofNat',UInt32.toNat_ofNat']
 have h2:2 ^ n*2 ^ (32-n)=2 ^ 32:=by rw[←Nat.pow_add];congr 1;omega
 have h4:x.toNat/2 ^ n<2 ^ (32-n):=Nat.div_lt_of_lt_mul (by omega)
 have h5:x.toNat/2 ^ n≤x.toNat:=Nat.div_le_self ..
 rw[Nat.mod_eq_of_lt (a:=x.toNat/2 ^ n) (by omega)]
 have h6:x.toNat*2 ^ (32-n) % 2 ^ 32=2 ^ (32-n)*(x.toNat % 2 ^ n):=by
  rw[←h2,Nat.mul_mod_mul_right,Nat.mul_comm]
 rw[h6,←Nat.two_pow_add_eq_or_of_lt h4,Nat.mul_comm,Nat.add_comm]
def ff:List UInt32:=[1116352408,1899447441,3049323471,3921009573,961987163,1508970993,2453635748,2870763221,3624381080,310598401,607225278,1426881987,1925078388,2162078206,2614888103,3248222580,3835390401,4022224774,264347078,604807628,770255983,1249150122,1555081692,1996064986,2554220882,2821834349,2952996808,3210313671,3336571891,3584528711,113926993,338241895,666307205,773529912,1294757372,1396182291,1695183700,1986661051,2177026350,2456956037,2730485921,2820302411,3259730800,3345764771,3516065817,3600352804,4094571909,275423344,430227734,506948616,659060556,883997877,958139571,1322822218,1537002063,1747873779,1955562222,2024104815,2227730452,2361852424,2428436474,2756734187,3204031479,3329325298]
def lq:List UInt32:=[1779033703,3144134277,1013904242,2773480762,1359893119,2600822924,528734635,1541459225]
def turns(a b c:Nat)(x:UInt32):UInt32:=gX a x ^^^ gX b x ^^^ gX c x
def at8(b:List UInt8)(i:Nat):Nat:=(b.getD i 0).toNat
def j2(b:List UInt8)(i:Nat):UInt32:=.ofNat (at8 b i*16777216+at8 b (i+1)*65536+at8 b (i+2)*256+at8 b (i+3))
def wp(b:List UInt8)(i:Nat):Nat→Nat
 |0=>0
 |j+1=>wp b i j*256+at8 b (i+j)
theorem mE(b:List UInt8)(i:Nat):at8 b i<256:=(b.getD i 0).toNat_lt
theorem CH(b:List UInt8)(i:Nat):∀j,wp b i j<256 ^ j
 |0=>Nat.one_pos
 |j+1=>by
  have h1:=CH b i j
  have h2:=mE b (i+j)
  rw[wp,Nat.pow_succ]
  omega
theorem AT{b:List UInt8}{i j:Nat}(hj:j<4):(UInt32.ofNat (wp b i j)*256) ||| (b.getD (i+j) 0).toUInt32=UInt32.ofNat (wp b i (j+1)):=by
 apply UInt32.toNat_inj.1
 have h1:=CH b i j
 have h0:256 ^ j≤256 ^ 3:=Nat.pow_le_pow_right (by decide) (by omega)
 have h2:=mE b (i+j)
 have h3:wp b i j<16777216:=Nat.lt_of_lt_of_le h1 h0
 rw[UInt32.toNat_or,UInt32.toNat_mul,UInt32.toNat_ofNat',UInt8.toNat_toUInt32,UInt32.toNat_ofNat',wp]
 show(wp b i j % 4294967296*256 % 4294967296 ||| at8 b (i+j))=_
 rw[Nat.mod_eq_of_lt (a:=wp b i j) (by omega),Nat.mod_eq_of_lt (a:=wp b i j*256) (by omega),Nat.mod_eq_of_lt (a:=wp b i j*256+_) (by omega),show wp b i j*256=2 ^ 8*wp b i j by omega,Nat.two_pow_add_eq_or_of_lt (i:=8) h2]
theorem Eo(b:List UInt8)(i:Nat):wp b i 4=at8 b i*16777216+at8 b (i+1)*65536+at8 b (i+2)*256+at8 b (i+3):=by
 have e1:wp b i 1=wp b i 0*256+at8 b (i+0):=rfl
 have e2:wp b i 2=wp b i 1*256+at8 b (i+1):=rfl
 have e3:wp b i 3=wp b i 2*256+at8 b (i+2):=rfl
 have e4:wp b i 4=wp b i 3*256+at8 b (i+3):=rfl
 have e0:wp b i 0=0:=rfl
 rw[Nat.add_zero]at e1
 rw[e4,e3,e2,e1,e0]
 generalize at8 b i=p
 generalize at8 b (i+1)=q
 generalize at8 b (i+2)=r
 generalize at8 b (i+3)=s
 omega
theorem Bz(b:List UInt8)(i:Nat):UInt32.ofNat (wp b i 4)=j2 b i:=congrArg UInt32.ofNat (Eo b i)
theorem wV(b:List UInt8)(i:Nat):(b.getD i 0).toUInt32*16777216+(b.getD (i+1) 0).toUInt32*65536+(b.getD (i+2) 0).toUInt32*256+(b.getD (i+3) 0).toUInt32=j2 b i:=by
 apply UInt32.toNat_inj.1
 have h0:(b.getD i 0).toNat<256:=mE b i
 have h1:(b.getD (i+1) 0).toNat<256:=mE b (i+1)
 have h2:(b.getD (i+2) 0).toNat<256:=mE b (i+2)
 have h3:(b.getD (i+3) 0).toNat<256:=mE b (i+3)
 have k1:(16777216:UInt32).toNat=16777216:=rfl
 have k2:(65536:UInt32).toNat=65536:=rfl
 have k3:(256:UInt32).toNat=256:=rfl
 simp only[j2,at8,UInt32.toNat_add,UInt32.toNat_mul,UInt8.toNat_toUInt32,UInt32.toNat_ofNat',k1,k2,k3]
 generalize(b.getD i 0).toNat=p at*
 generalize(b.getD (i+1) 0).toNat=q at*
 generalize(b.getD (i+2) 0).toNat=r at*
 generalize(b.getD (i+3) 0).toNat=s at*
 omega
def Hy(x:UInt32):UInt32:=gX 7 x ^^^ gX 18 x ^^^ (x/8)
def Fv(x:UInt32):UInt32:=gX 17 x ^^^ gX 19 x ^^^ (x/1024)
def lF(w:List UInt32)(i:Nat):UInt32:=w.getD (i-16) 0+Hy (w.getD (i-15) 0)+w.getD (i-7) 0+Fv (w.getD (i-2) 0)
def wl(b:List UInt8):Nat→List UInt32
 |0=>[]
 |i+1=>wl b i++[if i<16 then j2 b (4*i)else lF (wl b i) i]
theorem eX(b:List UInt8):∀i,(wl b i).length=i
 |0=>rfl
 |i+1=>by rw[wl,List.length_append,eX b i];rfl
def v_(v:List UInt32)(i:Nat):UInt32:=v.getD i 0
def rt(v:List UInt32)(k w:UInt32):UInt32:=v_ v 7+turns 6 11 25 (v_ v 4)+((v_ v 4 &&& v_ v 5) ^^^ (~~~(v_ v 4) &&& v_ v 6))+k+w
def ru(v:List UInt32):UInt32:=turns 2 13 22 (v_ v 0)+((v_ v 0 &&& v_ v 1) ^^^ (v_ v 0 &&& v_ v 2) ^^^ (v_ v 1 &&& v_ v 2))
def G5(v:List UInt32)(k w:UInt32):List UInt32:=[rt v k w+ru v,v_ v 0,v_ v 1,v_ v 2,v_ v 3+rt v k w,v_ v 4,v_ v 5,v_ v 6]
def jJ(w v:List UInt32):Nat→List UInt32
 |0=>v
 |i+1=>G5 (jJ w v i) (ff.getD i 0) (w.getD i 0)
theorem jL{w v:List UInt32}(h:v.length=8):∀i,(jJ w v i).length=8
 |0=>h
 |i+1=>rfl
def fl(v h:List UInt32)(i:Nat):List UInt32:=(List.range v.length).map fun j=>if j<i then v_ v j+v_ h j else v_ v j
def dT(h:List UInt32)(b:List UInt8):List UInt32:=fl (jJ (wl b 64) h 64) h 8
theorem iC{h:List UInt32}(hl:h.length=8)(b:List UInt8):(dT h b).length=8:=by simp[dT,fl,jL hl]
theorem qs{v h:List UInt32}:fl v h 0=v:=by
 apply List.ext_getElem?
 intro i
 simp only[fl,Nat.not_lt_zero,if_false,List.getElem?_map]
 by_cases hi:i<v.length
 ·simp[hi,v_,List.getD]
 ·rw[List.getElem?_eq_none (by simpa using hi),List.getElem?_eq_none (by omega)];rfl
theorem pU{v h:List UInt32}{i:Nat}(hi:i<v.length):fl v h (i+1)=(fl v h i).set i (v_ (fl v h i) i+v_ h i):=by
 apply List.ext_getElem?
 intro j
 have e:v_ (fl v h i) i=v_ v i:=by simp[fl,v_,List.getD,hi]
 rw[e]
 by_cases hj:j<v.length
 ·by_cases hij:i=j
  ·subst hij
   simp[fl,hi]
  ·rw[List.getElem?_set_ne hij]
   simp only[fl,List.getElem?_map,List.getElem?_range hj,Option.map_some]
   congr 1
   by_cases h1:j<i
   ·rw[if_pos h1,if_pos (by omega)]
   ·rw[if_neg h1,if_neg (by omega)]
 ·rw[List.getElem?_eq_none (by simp[fl];omega),List.getElem?_eq_none (by simp[fl];omega)]
def nH:Nat→List UInt32→List UInt8→List UInt32
 |0,h,_=>h
 |n+1,h,l=>nH n (dT h (l.take 64)) (l.drop 64)
def eV(h:List UInt32)(l:List UInt8):List UInt32:=nH (l.length/64) h l
theorem pk:∀(n:Nat) (h:List UInt32) (l b:List UInt8),l.length=64*n→b.length=64→nH (n+1) h (l++b)=dT (nH n h l) b
 |0,h,l,b,hl,hb=>by
  obtain rfl:=List.eq_nil_of_length_eq_zero hl
  simp only[nH,List.nil_append]
  rw[List.take_of_length_le (by omega)]
 |n+1,h,l,b,hl,hb=>by
  have h1:(l++b).take 64=l.take 64:=by rw[List.take_append_of_le_length (by omega)]
  have h2:(l++b).drop 64=l.drop 64++b:=by rw[List.drop_append_of_le_length (by omega)]
  rw[nH,h1,h2,pk n _ (l.drop 64) b (by rw[List.length_drop];omega) hb]
  rfl
theorem pb{h:List UInt32}{l b:List UInt8}(hl:l.length % 64=0)(hb:b.length=64):eV h (l++b)=dT (eV h l) b:=by
 unfold eV
 rw[List.length_append,hb,show(l.length+64)/64=l.length/64+1 by omega]
 exact pk _ h l b (by omega) hb
theorem mi:∀(n:Nat) (h:List UInt32) (l:List UInt8),h.length=8→(nH n h l).length=8
 |0,h,l,hl=>hl
 |n+1,h,l,hl=>mi n _ _ (iC hl _)
theorem lA{h:List UInt32}(l:List UInt8)(hl:h.length=8):(eV h l).length=8:=mi _ _ _ hl
def Az(x:UInt32):List UInt8:=[.ofNat (x/16777216).toNat,.ofNat (x/65536).toNat,.ofNat (x/256).toNat,.ofNat x.toNat]
def en(h:List UInt32):List UInt8:=h.flatMap Az
def sa(n:Nat):List UInt8:=(List.range 8).map fun i=>.ofNat (n/256 ^ (7-i))
def gY(n:Nat):Nat:=(119-n % 64) % 64
def iG(b:List UInt8):List UInt8:=b++(128::List.replicate (gY b.length) 0)++sa (8*b.length)
theorem nu(b:List UInt8):(iG b).length % 64=0:=by
 simp only[iG,List.length_append,List.length_cons,List.length_replicate,sa,List.length_map,List.length_range,gY]
 omega
def bw(b:List UInt8):List UInt8:=en (eV lq (iG b))
theorem lU{h:List UInt32}(hl:h.length=8):(en h).length=32:=by
 match h,hl with
 | [a,b,c,d,e,f,g,i],_=>rfl
theorem bx(b:List UInt8):(bw b).length=32:=lU (lA _ rfl)
end Go.Hx
end
section
namespace Go.Proofs.YtmibdabdlgmafaaGreatDoor
open Go.Eng
theorem dr:cJ Tryz.prog 3=some false:=by kernel_rfl
theorem tR:eZ Tryz.prog 3=some 1:=by kernel_rfl
theorem EY:TI Tryz.prog 3 (.int .i64 0) 1 8:=by unfold TI;kernel_rfl
theorem iL:cJ Tryz.prog 5=some false:=by kernel_rfl
theorem dF:eZ Tryz.prog 5=some 1:=by kernel_rfl
theorem eT:TI Tryz.prog 5 (.int .u8 0) 1 1:=by unfold TI;kernel_rfl
theorem lS:cJ Tryz.prog 9=some false:=by kernel_rfl
theorem HY:eZ Tryz.prog 9=some 1:=by kernel_rfl
theorem H2:TI Tryz.prog 9 (.string ⟨#[]⟩) 1 16:=by unfold TI;kernel_rfl
theorem c7:cJ Tryz.prog 27=some false:=by kernel_rfl
theorem iQ:eZ Tryz.prog 27=some 1:=by kernel_rfl
theorem jT:TI Tryz.prog 27 (.slice none 0 0) 1 24:=by unfold TI;kernel_rfl
theorem Fk:cJ Tryz.prog 33=some false:=by kernel_rfl
theorem G0:eZ Tryz.prog 33=some 1:=by kernel_rfl
theorem G7:TI Tryz.prog 33 (.slice none 0 0) 1 24:=by unfold TI;kernel_rfl
theorem rb:cJ Tryz.prog 35=some false:=by kernel_rfl
theorem sN:cJ Tryz.prog 36=some false:=by kernel_rfl
theorem Fw:eZ Tryz.prog 36=some 1:=by kernel_rfl
theorem GR:cJ Tryz.prog 37=some false:=by kernel_rfl
theorem Ga:eZ Tryz.prog 37=some 1:=by kernel_rfl
theorem cC:cJ Tryz.prog 39=some true:=by kernel_rfl
theorem bV:eZ Tryz.prog 39=some 5:=by kernel_rfl
theorem sG:TI Tryz.prog 39 (.agg (([.int .i64 0])++([.slice none 0 0])++([.slice none 0 0])++([.slice none 0 0])++([.int .i64 0]):List Value).toArray) 5 88:=by unfold TI;kernel_rfl
theorem zT:eC Tryz.prog 39 0=some (0,1,3):=by kernel_rfl
theorem jA:eC Tryz.prog 39 1=some (1,1,36):=by kernel_rfl
theorem Ey:eC Tryz.prog 39 2=some (2,1,36):=by kernel_rfl
theorem u0:eC Tryz.prog 39 3=some (3,1,37):=by kernel_rfl
theorem jt:eC Tryz.prog 39 4=some (4,1,3):=by kernel_rfl
theorem Ee:TI Tryz.prog 44 (.slice none 0 0) 1 24:=by unfold TI;kernel_rfl
theorem kD:cJ Tryz.prog 47=some false:=by kernel_rfl
theorem wW:eZ Tryz.prog 47=some 1:=by kernel_rfl
theorem Hp:TI Tryz.prog 47 (.int .i64 0) 1 8:=by unfold TI;kernel_rfl
theorem cf:cJ Tryz.prog 53=some true:=by kernel_rfl
theorem bL:eZ Tryz.prog 53=some 32:=by kernel_rfl
theorem fC:TI Tryz.prog 53 (.agg (aP (List.replicate 32 0):List Value).toArray) 32 32:=by unfold TI;kernel_rfl
theorem tB{l:List UInt8}(h:l.length=32):Tryz.prog.keyLits 2 53 (aP l)=some (l.map fun b=>Lit.int .u8 (b.toNat:Int)):=eR (D:=0) Tryz.underlying53 Tryz.underlying5 (by kernel_rfl) (by kernel_rfl) h
theorem qN{N:Nat}{D:List Deferred}{ρ:Env}{w:World}{ty t' :TypeId}{x y:Operand}{l m:List UInt8}(hx:ev ρ x=some (.agg (aP l).toArray))(hy:ev ρ y=some (.agg (aP m).toArray))(hl:l.length=32)(hm:m.length=32):Yl Tryz.prog N D ρ w (.binOp .eql 53 x y t') ty (.bool (decide (l=m))):=
 C3 (m:=5) hx hy (by decide) (by kernel_rfl) (by kernel_rfl) cf (by rw[az,hl];kernel_rfl) (by rw[az,hm];kernel_rfl) (tB hl) (tB hm) iq
theorem rC{N:Nat}{D:List Deferred}{ρ:Env}{w:World}{ty t' :TypeId}{x y:Operand}{l m:List UInt8}(hx:ev ρ x=some (.agg (aP l).toArray))(hy:ev ρ y=some (.agg (aP m).toArray))(hl:l.length=32)(hm:m.length=32):Yl Tryz.prog N D ρ w (.binOp .neq 53 x y t') ty (.bool (decide (¬l=m))):=
 CN (m:=5) hx hy (by decide) (by kernel_rfl) (by kernel_rfl) cf (by rw[az,hl];kernel_rfl) (by rw[az,hm];kernel_rfl) (tB hl) (tB hm) iq
theorem gC:cJ Tryz.prog 75=some true:=by kernel_rfl
theorem fX:eZ Tryz.prog 75=some 3:=by kernel_rfl
theorem yy:TI Tryz.prog 75 (.agg (([.int .i64 0])++([.int .i64 0])++([.int .i64 0]):List Value).toArray) 3 24:=by unfold TI;kernel_rfl
theorem gZ:eC Tryz.prog 75 0=some (0,1,3):=by kernel_rfl
theorem jZ:eC Tryz.prog 75 1=some (1,1,3):=by kernel_rfl
theorem jl:eC Tryz.prog 75 2=some (2,1,3):=by kernel_rfl
theorem uk:cJ Tryz.prog 80=some false:=by kernel_rfl
theorem Hc:eZ Tryz.prog 80=some 1:=by kernel_rfl
theorem GQ:TI Tryz.prog 80 (.slice none 0 0) 1 24:=by unfold TI;kernel_rfl
theorem E2:cJ Tryz.prog 82=some true:=by kernel_rfl
theorem EW:eZ Tryz.prog 82=some 36:=by kernel_rfl
theorem FM:TI Tryz.prog 82 (.agg ((([.int .i64 0])++([.int .i64 0])++([.int .i64 0]))++(aP (List.replicate 32 0))++([.slice none 0 0]):List Value).toArray) 36 80:=by unfold TI;kernel_rfl
theorem x4:eC Tryz.prog 82 0=some (0,3,75):=by kernel_rfl
theorem D5:kB Tryz.prog 82 0=some (0,3):=by kernel_rfl
theorem ED:eC Tryz.prog 82 1=some (3,32,53):=by kernel_rfl
theorem Dn:kB Tryz.prog 82 1=some (3,32):=by kernel_rfl
theorem rK:eC Tryz.prog 82 2=some (35,1,80):=by kernel_rfl
theorem ET:kB Tryz.prog 82 2=some (35,1):=by kernel_rfl
theorem DF:cJ Tryz.prog 83=some false:=by kernel_rfl
theorem x5:cJ Tryz.prog 84=some false:=by kernel_rfl
theorem Fe:eZ Tryz.prog 84=some 1:=by kernel_rfl
theorem G6:TI Tryz.prog 86 (.agg (([.pointer none])++(([.int .i64 0])++([.slice none 0 0])++([.slice none 0 0])++([.slice none 0 0])++([.int .i64 0]))++((([.int .i64 0])++([.int .i64 0])++([.int .i64 0]))++(aP (List.replicate 32 0))++([.slice none 0 0]))++([.pointer none])++([.slice none 0 0])++([.slice none 0 0]):List Value).toArray) 45 232:=by unfold TI;kernel_rfl
theorem uh:eC Tryz.prog 86 0=some (0,1,35):=by kernel_rfl
theorem EB:kB Tryz.prog 86 0=some (0,1):=by kernel_rfl
theorem tU:eC Tryz.prog 86 1=some (1,5,39):=by kernel_rfl
theorem DE:kB Tryz.prog 86 1=some (1,5):=by kernel_rfl
theorem oY:eC Tryz.prog 86 2=some (6,36,82):=by kernel_rfl
theorem Ek:kB Tryz.prog 86 2=some (6,36):=by kernel_rfl
theorem zH:eC Tryz.prog 86 3=some (42,1,83):=by kernel_rfl
theorem ES:kB Tryz.prog 86 3=some (42,1):=by kernel_rfl
theorem rF:eC Tryz.prog 86 4=some (43,1,84):=by kernel_rfl
theorem DW:kB Tryz.prog 86 5=some (44,1):=by kernel_rfl
theorem Ht:cJ Tryz.prog 88=some true:=by kernel_rfl
theorem Gt:eZ Tryz.prog 88=some 36:=by kernel_rfl
theorem Et:TI Tryz.prog 88 (.agg ((([.int .i64 0])++([.int .i64 0])++([.int .i64 0]))++(aP (List.replicate 32 0))++([.slice none 0 0]):List Value).toArray) 36 80:=by unfold TI;kernel_rfl
theorem zP:kB Tryz.prog 88 0=some (0,3):=by kernel_rfl
theorem Eu:kB Tryz.prog 88 1=some (3,32):=by kernel_rfl
theorem Dw:eC Tryz.prog 88 2=some (35,1,80):=by kernel_rfl
theorem zI:kB Tryz.prog 88 2=some (35,1):=by kernel_rfl
theorem FA:cJ Tryz.prog 96=some true:=by kernel_rfl
theorem xP:eZ Tryz.prog 96=some 33:=by kernel_rfl
theorem nZ:TI Tryz.prog 96 (.agg ((aP (List.replicate 32 0))++([.int .i64 0]):List Value).toArray) 33 40:=by unfold TI;kernel_rfl
theorem Db:eC Tryz.prog 96 0=some (0,32,53):=by kernel_rfl
theorem rP:kB Tryz.prog 96 0=some (0,32):=by kernel_rfl
theorem yR:eC Tryz.prog 96 1=some (32,1,3):=by kernel_rfl
theorem qS:kB Tryz.prog 96 1=some (32,1):=by kernel_rfl
theorem vg:cJ Tryz.prog 100=some true:=by kernel_rfl
theorem iV:eZ Tryz.prog 100=some 33:=by kernel_rfl
theorem kR:TI Tryz.prog 100 (.agg ((aP (List.replicate 32 0))++([.int .i64 0]):List Value).toArray) 33 40:=by unfold TI;kernel_rfl
theorem fN:eC Tryz.prog 100 0=some (0,32,53):=by kernel_rfl
theorem rD:kB Tryz.prog 100 0=some (0,32):=by kernel_rfl
theorem mj:eC Tryz.prog 100 1=some (32,1,3):=by kernel_rfl
theorem qM:kB Tryz.prog 100 1=some (32,1):=by kernel_rfl
theorem sB:cJ Tryz.prog 101=some true:=by kernel_rfl
theorem kS:eZ Tryz.prog 101=some 33:=by kernel_rfl
theorem sM:TI Tryz.prog 101 (.agg ((aP (List.replicate 32 0))++([.int .i64 0]):List Value).toArray) 33 40:=by unfold TI;kernel_rfl
theorem BX:eC Tryz.prog 101 0=some (0,32,53):=by kernel_rfl
theorem Cn:kB Tryz.prog 101 0=some (0,32):=by kernel_rfl
theorem vP:eC Tryz.prog 101 1=some (32,1,3):=by kernel_rfl
theorem Bc:kB Tryz.prog 101 1=some (32,1):=by kernel_rfl
theorem qD:cJ Tryz.prog 156=some true:=by kernel_rfl
theorem eJ:eZ Tryz.prog 156=some 2:=by kernel_rfl
theorem ij:TI Tryz.prog 156 (.agg (([.string ⟨#[]⟩])++([.string ⟨#[]⟩]):List Value).toArray) 2 32:=by unfold TI;kernel_rfl
theorem eN:eC Tryz.prog 156 0=some (0,1,9):=by kernel_rfl
theorem oh:eC Tryz.prog 156 1=some (1,1,9):=by kernel_rfl
theorem bC:cJ Tryz.prog 166=some false:=by kernel_rfl
theorem br:eZ Tryz.prog 166=some 1:=by kernel_rfl
theorem kM:TI Tryz.prog 166 (.int .u32 0) 1 4:=by unfold TI;kernel_rfl
theorem oF:cJ Tryz.prog 174=some false:=by kernel_rfl
theorem FZ:eZ Tryz.prog 174=some 1:=by kernel_rfl
theorem Cw:cJ Tryz.prog 175=some false:=by kernel_rfl
theorem ym:eZ Tryz.prog 175=some 1:=by kernel_rfl
theorem Gn:TI Tryz.prog 177 (.agg (([.int .i64 0])++([.map none])++([.map none])++([.slice none 0 0])++([.int .i64 0]):List Value).toArray) 5 56:=by unfold TI;kernel_rfl
theorem BU:eC Tryz.prog 177 0=some (0,1,3):=by kernel_rfl
theorem jo:eC Tryz.prog 177 1=some (1,1,174):=by kernel_rfl
theorem Bl:eC Tryz.prog 177 2=some (2,1,174):=by kernel_rfl
theorem l7:eC Tryz.prog 177 3=some (3,1,175):=by kernel_rfl
theorem oa:eC Tryz.prog 177 4=some (4,1,3):=by kernel_rfl
theorem CA:cJ Tryz.prog 186=some true:=by kernel_rfl
theorem CT:eZ Tryz.prog 186=some 4:=by kernel_rfl
theorem qd:TI Tryz.prog 186 (.agg (([.int .i64 0])++([.string ⟨#[]⟩])++([.string ⟨#[]⟩])++([.string ⟨#[]⟩]):List Value).toArray) 4 56:=by unfold TI;kernel_rfl
theorem u5:eC Tryz.prog 186 0=some (0,1,3):=by kernel_rfl
theorem ob:eC Tryz.prog 186 1=some (1,1,9):=by kernel_rfl
theorem Cq:eC Tryz.prog 186 2=some (2,1,9):=by kernel_rfl
theorem A7:eC Tryz.prog 186 3=some (3,1,9):=by kernel_rfl
theorem F5:TI Tryz.prog 189 (.agg (([.string ⟨#[]⟩])++([.slice none 0 0]):List Value).toArray) 2 40:=by unfold TI;kernel_rfl
theorem BN:eC Tryz.prog 189 0=some (0,1,9):=by kernel_rfl
theorem BH:eC Tryz.prog 189 1=some (1,1,27):=by kernel_rfl
theorem CV:cJ Tryz.prog 212=some true:=by kernel_rfl
theorem tD:eZ Tryz.prog 212=some 3:=by kernel_rfl
theorem vF:TI Tryz.prog 212 (.agg (([.int .i64 0])++([.int .i64 0])++([.int .i64 0]):List Value).toArray) 3 24:=by unfold TI;kernel_rfl
theorem vm:eC Tryz.prog 212 0=some (0,1,3):=by kernel_rfl
theorem vn:TI Tryz.prog 232 (.nilIface) 1 16:=by unfold TI;kernel_rfl
theorem Gb:TI Tryz.prog 257 (.agg (([.string ⟨#[]⟩])++([.string ⟨#[]⟩]):List Value).toArray) 2 32:=by unfold TI;kernel_rfl
theorem qW:eC Tryz.prog 257 0=some (0,1,9):=by kernel_rfl
theorem A0:eC Tryz.prog 257 1=some (1,1,9):=by kernel_rfl
theorem vG:cJ Tryz.prog 265=some false:=by kernel_rfl
theorem FH:TI Tryz.prog 267 (.agg ((([.int .i64 0])++([.int .i64 0])++([.int .i64 0]))++([.slice none 0 0])++([.map none]):List Value).toArray) 5 56:=by unfold TI;kernel_rfl
theorem AV:eC Tryz.prog 267 0=some (0,3,75):=by kernel_rfl
theorem rp:eC Tryz.prog 267 1=some (3,1,84):=by kernel_rfl
theorem ox:eC Tryz.prog 267 2=some (4,1,265):=by kernel_rfl
theorem xN:cJ Tryz.prog 271=some true:=by kernel_rfl
theorem sk:eZ Tryz.prog 271=some 3:=by kernel_rfl
theorem ma:TI Tryz.prog 271 (.agg (([.int .i64 0])++([.int .i64 0])++([.int .i64 0]):List Value).toArray) 3 24:=by unfold TI;kernel_rfl
theorem CP:eZ Tryz.prog 288=some 1:=by kernel_rfl
theorem vf:TI Tryz.prog 288 (.agg (([.int .i64 0]):List Value).toArray) 1 8:=by unfold TI;kernel_rfl
theorem Ch:eC Tryz.prog 288 0=some (0,1,47):=by kernel_rfl
theorem qA:cJ Tryz.prog 295=some true:=by kernel_rfl
theorem iX:eZ Tryz.prog 295=some 3:=by kernel_rfl
theorem nO:TI Tryz.prog 295 (.agg (([.slice none 0 0])++([.int .i64 0])++([.int .i64 0]):List Value).toArray) 3 40:=by unfold TI;kernel_rfl
theorem Bq:eC Tryz.prog 295 0=some (0,1,27):=by kernel_rfl
theorem BF:eC Tryz.prog 295 2=some (2,1,47):=by kernel_rfl
theorem we:cJ Tryz.prog 298=some true:=by kernel_rfl
theorem kL:eZ Tryz.prog 298=some 2:=by kernel_rfl
theorem p9:TI Tryz.prog 298 (.agg (([.int .i64 0])++([.int .i64 0]):List Value).toArray) 2 16:=by unfold TI;kernel_rfl
theorem kv:eC Tryz.prog 298 0=some (0,1,3):=by kernel_rfl
theorem wh:eC Tryz.prog 298 1=some (1,1,3):=by kernel_rfl
theorem qf:cJ Tryz.prog 306=some true:=by kernel_rfl
theorem kG:eZ Tryz.prog 306=some 8:=by kernel_rfl
theorem vA:TI Tryz.prog 306 (.agg ((List.replicate 8 ([.int .u32 0])).flatten:List Value).toArray) 8 32:=by unfold TI;kernel_rfl
theorem CO:TI Tryz.prog 308 (.agg (((List.replicate 8 ([.int .u32 0])).flatten)++([.int .i64 0])++([.slice none 0 0]):List Value).toArray) 10 64:=by unfold TI;kernel_rfl
theorem oq:eC Tryz.prog 308 0=some (0,8,306):=by kernel_rfl
theorem mg:eC Tryz.prog 308 1=some (8,1,3):=by kernel_rfl
theorem jk:eC Tryz.prog 308 2=some (9,1,27):=by kernel_rfl
theorem nM:cJ Tryz.prog 322=some false:=by kernel_rfl
theorem CX:cJ Tryz.prog 354=some true:=by kernel_rfl
theorem va:eZ Tryz.prog 354=some 64:=by kernel_rfl
theorem y7:TI Tryz.prog 354 (.agg ((List.replicate 64 ([.int .u32 0])).flatten:List Value).toArray) 64 256:=by unfold TI;kernel_rfl
theorem xX:cJ Tryz.prog 357=some false:=by kernel_rfl
theorem Fm:TI Tryz.prog 359 (.agg (([.slice none 0 0])++([.map none])++([.int .i64 0]):List Value).toArray) 3 40:=by unfold TI;kernel_rfl
theorem jC:eC Tryz.prog 359 0=some (0,1,27):=by kernel_rfl
theorem rS:eC Tryz.prog 359 1=some (1,1,357):=by kernel_rfl
theorem gF:eC Tryz.prog 359 2=some (2,1,3):=by kernel_rfl
theorem vZ:cJ Tryz.prog 364=some true:=by kernel_rfl
theorem sA:eZ Tryz.prog 364=some 4:=by kernel_rfl
theorem GH:TI Tryz.prog 364 (.agg (aP (List.replicate 4 0):List Value).toArray) 4 4:=by unfold TI;kernel_rfl
theorem CR:cJ Tryz.prog 386=some false:=by kernel_rfl
theorem FG:TI Tryz.prog 389 (.agg ((([.int .i64 0])++([.int .i64 0])++([.int .i64 0]))++([.int .u32 0])++([.pointer none])++([.slice none 0 0]):List Value).toArray) 6 64:=by unfold TI;kernel_rfl
theorem lI:eC Tryz.prog 389 0=some (0,3,75):=by kernel_rfl
theorem AS:eC Tryz.prog 389 1=some (3,1,166):=by kernel_rfl
theorem vK:eC Tryz.prog 389 2=some (4,1,386):=by kernel_rfl
theorem lQ:eC Tryz.prog 389 3=some (5,1,27):=by kernel_rfl
end Go.Proofs.YtmibdabdlgmafaaGreatDoor
end
section
namespace Go.Hx
open Go.Eng
def lE(x:Nat):Nat:=if x % 2=1 then(x/2) ^^^ 2197175160 else x/2
theorem yE{x:Nat}(h:x<4294967296):lE x<4294967296:=by
 unfold lE
 split
 ·exact Nat.xor_lt_two_pow (n:=32) (by omega) (by decide)
 ·omega
def fE:Nat→Nat→Nat
 |0,x=>x
 |n+1,x=>lE (fE n x)
theorem kr{x:Nat}(h:x<4294967296):∀n,fE n x<4294967296
 |0=>h
 |n+1=>yE (kr h n)
def jF(n:Nat)(l:List UInt8):Nat:=l.foldl (fun n b=>fE 8 (n ^^^ b.toNat)) n
theorem me{n:Nat}(h:n<4294967296):∀l:List UInt8,jF n l<4294967296:=by
 intro l
 induction l generalizing n with
 |nil=>exact h
 |cons a r ih=>exact ih (kr (Nat.xor_lt_two_pow (n:=32) h (by have:=a.toNat_lt;omega)) 8)
theorem o5(n:Nat)(l:List UInt8)(b:UInt8):jF n (l++[b])=fE 8 (jF n l ^^^ b.toNat):=by simp[jF]
theorem sR{m:Nat}(h:m<4294967296):4294967295 ^^^ m=4294967295-m:=by
 have h1:(BitVec.allOnes 32 ^^^ BitVec.ofNat 32 m)= ~~~ BitVec.ofNat 32 m:=BitVec.allOnes_xor
 have h2:=congrArg BitVec.toNat h1
 rw[BitVec.toNat_xor,BitVec.toNat_not,BitVec.toNat_allOnes,BitVec.toNat_ofNat,Nat.mod_eq_of_lt h]at h2
 exact h2
def c6(l:List UInt8):Nat:=4294967295-jF 4294967295 l
theorem iS(l:List UInt8):c6 l<4294967296:=by unfold c6;omega
def jb(n:Nat):List UInt8:=[UInt8.ofNat n,UInt8.ofNat (n/256),UInt8.ofNat (n/65536),UInt8.ofNat (n/16777216)]
def ri:Nat→Nat→Nat
 |0,n=>n
 |k+1,n=>ri k n/256
def EK(k n:Nat):List UInt8:=(List.range k).map fun i=>UInt8.ofNat (ri i n)
theorem yi(k n:Nat):EK (k+1) n=EK k n++[UInt8.ofNat (ri k n)]:=by simp[EK,List.range_succ]
theorem Au(n:Nat):EK 4 n=jb n:=by
 simp only[EK,List.range_succ,List.range_zero,List.nil_append,List.cons_append,List.map_cons,List.map_nil,ri,jb,Nat.div_div_eq_div_mul]
theorem vR{n b:Nat}(h:n<b):∀k,ri k n<b
 |0=>h
 |k+1=>by have:=vR h k;simp only[ri];omega
theorem gR(n:Nat):(jb n).length=4:=rfl
def yO(l:List UInt8):List UInt8:=l++jb (c6 l)
theorem w8(x:Nat)(h:x<4294967296):(x/2) ^^^ (2197175160*(x % 2))=lE x:=by
 unfold lE
 split
 ·rename_i h1;rw[h1]
 ·rename_i h1
  have:x % 2=0:=by omega
  rw[this];simp
theorem ir(n:Nat):IntKind.u8.wrap (n:Int)=((UInt8.ofNat n).toNat:Int):=by
 simp[IntKind.wrap,IntKind.signed,IntKind.bits]
theorem G9(x:Nat)(h:x<4294967296):bits .and .u32 (x:Int) 1=((x % 2:Nat):Int):=by
 have:=u32_and_nat x 1 h (by decide)
 rw[Nat.and_one_is_mod]at this
 exact this
theorem yS(x:Nat)(h:x<4294967296):bits .xor .u32 ((x:Int)/2) (2197175160*((x % 2:Nat):Int))=((lE x:Nat):Int):=by
 have h2:x % 2=0∨x % 2=1:=by omega
 have h3:2197175160*(x % 2)<4294967296:=by rcases h2 with h2|h2 <;> rw[h2] <;> decide
 have:=u32_xor_nat (x/2) (2197175160*(x % 2)) (by omega) h3
 rw[w8 x h]at this
 rw[←this]
 congr 1
theorem sD(x:Nat)(h:x<4294967296)(b:UInt8):bits .xor .u32 (x:Int) (b.toNat:Int)=((x ^^^ b.toNat:Nat):Int):=u32_xor_nat x b.toNat h (by have:=b.toNat_lt;omega)
theorem yw(x:Nat)(h:x<4294967296):bits .xor .u32 ((x:Int)/2) 2197175160=(((x/2) ^^^ 2197175160:Nat):Int):=u32_xor_nat (x/2) 2197175160 (by omega) (by decide)
theorem nN{x:Nat}(h:x<4294967296)(b:UInt8):x ^^^ b.toNat<4294967296:=Nat.xor_lt_two_pow (n:=32) h (by have:=b.toNat_lt;omega)
end Go.Hx
end
section
namespace Go.Hx
open Go.Eng
def pG:List UInt8:=[48,49,50,51,52,53,54,55,56,57,97,98,99,100,101,102]
def uu(b:UInt8):List UInt8:=[pG.getD (b.toNat/16) 0,pG.getD (b.toNat % 16) 0]
def cx(l:List UInt8):List UInt8:=l.flatMap uu
theorem dN(l:List UInt8):(cx l).length=2*l.length:=by
 induction l with
 |nil=>rfl
 |cons a r ih=>simp only[cx,List.flatMap_cons,List.length_append,List.length_cons]at ih ⊢;rw[ih];simp[uu];omega
theorem sJ(l m:List UInt8):cx (l++m)=cx l++cx m:=by simp[cx]
theorem eA{l:List UInt8}{k:Nat}(h:k<l.length):l.take (k+1)=l.take k++[l.getD k 0]:=by
 rw[List.take_succ_eq_append_getElem h];simp[List.getD,List.getElem?_eq_getElem h]
theorem qn{l:List UInt8}{k:Nat}(h:k<l.length):cx (l.take (k+1))=cx (l.take k)++uu (l.getD k 0):=by
 rw[eA h,sJ];simp[cx]
theorem te(j:Nat)(h:j<16):((bytesOf ⟨#[48,49,50,51,52,53,54,55,56,57,97,98,99,100,101,102]⟩).take (j+1)).drop j=[pG.getD j 0]:=by
 revert j;decide
theorem xe{l:List UInt8}{k:Nat}(h:k<l.length):strOf (cx (l.take k))++strOf (((bytesOf ⟨#[48,49,50,51,52,53,54,55,56,57,97,98,99,100,101,102]⟩).take ((l.getD k 0).toNat/16+1)).drop ((l.getD k 0).toNat/16))++
  strOf (((bytesOf ⟨#[48,49,50,51,52,53,54,55,56,57,97,98,99,100,101,102]⟩).take ((l.getD k 0).toNat % 16+1)).drop ((l.getD k 0).toNat % 16))=strOf (cx (l.take (k+1))):=by
 have hb:=(l.getD k 0).toNat_lt
 rw[te _ (by omega),te _ (by omega),cV,cV,qn h]
 simp[uu]
theorem vV(i:Int)(h0:0≤i)(h:i<16):(#[48,49,50,51,52,53,54,55,56,57,97,98,99,100,101,102]:Array UInt8)[i.toNat]? =some (pG.getD i.toNat 0):=by
 have:i.toNat<16:=by omega
 generalize i.toNat=j at this
 revert j
 decide
theorem AG(x:UInt8):(#[48,49,50,51,52,53,54,55,56,57,97,98,99,100,101,102]:Array UInt8)[((x.toNat:Int)/16).toNat]? =some (pG.getD (x.toNat/16) 0):=by
 have h:=x.toNat_lt
 rw[vV _ (by omega) (by omega)]
 rfl
theorem AQ(x:UInt8):(#[48,49,50,51,52,53,54,55,56,57,97,98,99,100,101,102]:Array UInt8)[((x.toNat % 16:Nat):Int).toNat]? =some (pG.getD (x.toNat % 16) 0):=by
 rw[vV _ (by omega) (by omega)]
 rfl
theorem FO(x:UInt8):bits .and .u8 (x.toNat:Int) 15=((x.toNat % 16:Nat):Int):=by
 have:=u8_and_nat x.toNat 15 (by have:=x.toNat_lt;omega) (by decide)
 rw[show((15:Nat):Int)=15 from rfl]at this
 rw[this]
 congr 1
 exact Nat.and_two_pow_sub_one_eq_mod x.toNat 4
end Go.Hx
end
section
namespace Go.Hx
open Go.Eng
def BY(c:UInt8):Int:=if 48≤c.toNat∧c.toNat≤57 then(c.toNat:Int)-48 else if 97≤c.toNat∧c.toNat≤102 then(c.toNat:Int)-87 else-1
def unhex:List UInt8→Option (List UInt8)
 | []=>some []
 | [_]=>none
 |a::b::r=>if BY a<0∨BY b<0 then none else(unhex r).map (UInt8.ofNat (16*(BY a).toNat+(BY b).toNat)::·)
theorem tL(k:Nat)(h:k<16):BY (pG.getD k 0)=k:=by
 revert k;decide
theorem kT:∀(l:List UInt8),unhex (cx l)=some l
 | []=>rfl
 |a::r=>by
  have ih:=kT r
  have ha:=a.toNat_lt
  have h1:=tL (a.toNat/16) (by omega)
  have h2:=tL (a.toNat % 16) (by omega)
  have e:cx (a::r)=pG.getD (a.toNat/16) 0::pG.getD (a.toNat % 16) 0::cx r:=by simp[cx,uu]
  rw[e,unhex,h1,h2,if_neg (by omega),ih]
  simp only[Option.map_some,Int.toNat_natCast]
  congr 2
  have e2:16*(a.toNat/16)+a.toNat % 16=a.toNat:=by omega
  rw[e2]
  simp
theorem yW{l m:List UInt8}(h:cx l=cx m):l=m:=by
 have:=kT l
 rw[h,kT m]at this
 simpa using this.symm
end Go.Hx
end
section
set_option maxRecDepth 20000
namespace Go.Proofs.YtmibdabdlgmafaaGreatDoor
open Go.Eng Go.Hx
theorem BL(g:Nat)(bt:TypeId)(x:Nat)(hx:x<4294967296)(w:World)(hb:eQ w g bt [.int .u32 (x:Int)]):
  Calls Tryz.prog 298 #[.pointer (some ⟨g,0,none⟩)] w fun e w' =>e= .returned (.tuple #[])∧Fr (fun i=>i=g) w w' ∧eQ w' g bt [.int .u32 (lE x:Nat)]:=by
 have hc:w.cell? ⟨g,0,none⟩=some (.int .u32 (x:Int)):=hb.cell rfl
 have h3:(0:Int)≤2197175160*((x % 2:Nat):Int)∧2197175160*((x % 2:Nat):Int)<4294967296:=by omega
 refine enter (N:=9) Tryz.func298 rfl rfl (by simp) ?_
 refine bB<|bP<|nq (aq rfl bC hc)<|nq (gh (by simp) rfl rfl (G9 x hx))<|nq (ab rfl)<|bQ<|cu (ag (t:=1) rfl<|ag (t:=0) rfl<|aV)<|bd<|bP<|nq (aq rfl bC hc)<|nq (lr (p:=2) rfl rfl (by decide) (by decide) (by decide))<|nq (aa rfl)<|nq (fU rfl rfl (wo h3.1 h3.2))<|nq (gh (by simp) rfl rfl (yS x hx))<| ?_
 refine HN (yb rfl rfl br rfl hb (by simp) fun w1 hf1 hb1 hs1=> ?_)
 refine bQ<|cu (ag (t:=1) rfl<|ag (t:=0) rfl<|aV)<| ?_
 exact Gi trivial rfl ⟨rfl,hf1,hb1⟩
theorem zO(x n:Nat)(hx:x<4294967296)(hn:n≤1000000)(w:World):
  Calls Tryz.prog 273 #[.int .u32 (x:Int),.int .i64 (n:Int)] w fun e w' =>e= .returned (.int .u32 (fE n x:Nat))∧Fr No w w' :=by
 refine enter (N:=14) Tryz.func273 rfl rfl (by simp) ?_
 refine bB<|bP<| ?_
 refine nx (sQ rfl fun g w1 hg hf1 hb1=> ?_)
 refine nq (ab rfl)<|bQ<|bd<|bB<|bP<|nq (e8 rfl rfl)<|nq (ab rfl)<|bQ<|cu (ag (t:=5) rfl<|ag (t:=4) rfl<|ag (t:=2) rfl<|ag (t:=0) rfl<|ag (t:=1) rfl<|aV)<|bd<|bB<|bB<|bP<|nq (aa rfl)<|nq (aa rfl)<|bQ<|bd<|dM<| ?_
 refine my (fun k=>n-k) (fun k=>[(2,.pointer (some ⟨g,0,none⟩)),(5,.func (.func 298) #[] #[.pointer (some ⟨g,0,none⟩)]),(7,.int .i64 (n:Int)),(8,.int .i64 (k:Nat))]) (fun k w' =>k≤n∧Fr No w w' ∧eQ w' g 166 [.int .u32 (fE k x:Nat)]) 0 (⟨Nat.zero_le _,hf1,hb1⟩) (ag (t:=2) rfl<|ag (t:=5) rfl<|ag (t:=7) rfl<|ag (t:=8) rfl<|aV) (fun k w2 ⟨hk,hf2,hb2⟩=> ?_)
 refine bB<|bP<|nq (bu rfl rfl)<|bQ<|bd<|bB<| ?_
 refine xD rfl (fun h=> ?_) (fun h=> ?_)
 ·refine iv<|bd<|bB<|dM<|bP<|nq (aa rfl)<| ?_
  refine nx (vd rfl rfl Tryz.call298 (first:=[]) (cap:=[_]) (BL g _ _ (kr hx k) _ hb2) ?_)
  rintro e_ w3 ⟨rfl,hf3,hb3⟩
  refine⟨_,rfl, ?_⟩
  refine bQ<|cu (ag (t:=9) rfl<|ag (t:=2) rfl<|ag (t:=5) rfl<|ag (t:=7) rfl<|ag (t:=8) rfl<|aV)<|ju<|bd<|bP<|nq (aK rfl rfl (bs (by omega) (by omega)))<|nq (aa rfl)<|bQ<|cu (ag (t:=8) rfl<|ag (t:=9) rfl<|ag (t:=2) rfl<|ag (t:=5) rfl<|ag (t:=7) rfl<|aV)<| ?_
  refine na (k+1) (ag (t:=2) rfl<|ag (t:=5) rfl<|ag (t:=7) rfl<|ag (t:=8) rfl<|aV) (⟨by omega,hf2.new hf3 (fun i hi=>by omega),hb3⟩) (by omega)
 ·obtain rfl:k=n:=by omega
  refine lZ<|cz<|cz<|dH<|bd<|bB<|bP<|nq (aq rfl bC ((hb2.cell rfl)))<|nq (ab rfl)<|bQ<|cu (ag (t:=4) rfl<|ag (t:=9) rfl<|ag (t:=2) rfl<|ag (t:=5) rfl<|ag (t:=7) rfl<|ag (t:=8) rfl<|aV)<|bd<|ix<| ?_
  exact iD trivial rfl rfl ⟨rfl,hf2⟩
theorem AP(A:Option Addr)(n c:Nat)(l:List UInt8)(s:Nat)(hs:s<4294967296)(w:World)(hr:Rd w 1 A n (aP l))(hn:n≤140737488351232):
  Calls Tryz.prog 232 #[.int .u32 (s:Int),.slice A n c] w fun e w' =>e= .returned (.int .u32 (4294967295-jF (4294967295-s) l:Nat))∧Fr No w w' :=by
 have hl:l.length=n:=by have:=hr.1;rw[az]at this;omega
 refine enter (N:=25) Tryz.func232 rfl rfl (by simp) ?_
 refine bB<|bP<|nq (ab rfl)<|bQ<|bd<|bB<|bP<|nq (aa rfl)<|nq (yV (qJ rfl hs) (congrArg (fun n:Nat=>Value.int .u32 (n:Int)) (sR hs)))<|nq (ab rfl)<|bQ<|cu (ag (t:=5) rfl<|ag (t:=4) rfl<|ag (t:=0) rfl<|ag (t:=1) rfl<|aV)<|bd<|bB<|bB<|bP<|nq (aa rfl)<|nq (aW rfl Tryz.underlying27)<|nq (aa rfl)<|bQ<|cu (ag (t:=11) rfl<|ag (t:=10) rfl<|ag (t:=5) rfl<|ag (t:=4) rfl<|ag (t:=0) rfl<|ag (t:=1) rfl<|aV)<|bd<|dM<| ?_
 refine my (fun k=>n-k) (fun k=>[(1,.slice A n c),(5,.int .u32 (jF (4294967295-s) (l.take k):Nat)),(10,.int .i64 (n:Int)),(11,.int .i64 (k:Nat))]) (fun k w' =>k≤n∧Fr No w w') 0 (⟨Nat.zero_le _,Fr.refl _ _⟩) (ag (t:=1) rfl<|ag (t:=5) rfl<|ag (t:=10) rfl<|ag (t:=11) rfl<|aV) (fun k w2 ⟨hk,hf2⟩=> ?_)
 refine bB<|bP<|nq (bu rfl rfl)<|bQ<|bd<|bB<| ?_
 refine xD rfl (fun h=> ?_) (fun h=> ?_)
 ·have hkn:k<l.length:=by omega
  have hm:=me (n:=4294967295-s) (by omega) (l.take k)
  have hbt:=(l.getD k 0).toNat_lt
  have r2:=hr.xA hf2
  refine iv<|bd<|bB<|dM<|bB<|bP<|nq (aa rfl)<|nq (ab rfl)<|bQ<|cu (ag (t:=6) rfl<|ag (t:=12) rfl<|ag (t:=1) rfl<|ag (t:=5) rfl<|ag (t:=10) rfl<|ag (t:=11) rfl<|aV)<|bd<|bP<|nq (aa rfl)<|nq (aa rfl)<|nq (aa rfl)<|nq (aO rfl rfl Tryz.underlying27 dF r2.2.1 rfl (by omega))<|nq (aq rfl iL (r2.cell (bE hkn)))<|nq (bU rfl Tryz.underlying5 Tryz.underlying166 ((wo (by omega) (by omega))))<|nq (gh (by simp) rfl rfl (sD _ hm _))<| ?_
  refine nx (jg rfl Tryz.call273 (zO _ 8 (nN hm _) (by decide) _) ?_)
  rintro e_ w3 ⟨rfl,hf3⟩
  refine⟨_,rfl, ?_⟩
  rw[←o5,←Go.Hx.eA hkn]
  refine nq (ab rfl)<|bQ<|cu (ag (t:=5) rfl<|ag (t:=6) rfl<|ag (t:=12) rfl<|ag (t:=1) rfl<|ag (t:=10) rfl<|ag (t:=11) rfl<|aV)<|ju<|bd<|bP<|nq (aK rfl rfl (bs (by omega) (by omega)))<|nq (aa rfl)<|bQ<|cu (ag (t:=11) rfl<|ag (t:=5) rfl<|ag (t:=6) rfl<|ag (t:=12) rfl<|ag (t:=1) rfl<|ag (t:=10) rfl<|aV)<| ?_
  refine na (k+1) (ag (t:=1) rfl<|ag (t:=5) rfl<|ag (t:=10) rfl<|ag (t:=11) rfl<|aV) (⟨by omega,hf2.eH hf3⟩) (by omega)
 ·obtain rfl:k=n:=by omega
  have hm:=me (n:=4294967295-s) (by omega) (l.take k)
  refine lZ<|cz<|cz<|dH<|bd<|bB<|bP<|nq (aa rfl)<|nq (qJ rfl hm)<|nq (ab rfl)<|bQ<|cu (ag (t:=4) rfl<|ag (t:=12) rfl<|ag (t:=1) rfl<|ag (t:=5) rfl<|ag (t:=10) rfl<|ag (t:=11) rfl<|aV)<|bd<|ix<| ?_
  rw[List.take_of_length_le (by omega)]at hm ⊢
  rw[sR hm]
  exact iD trivial rfl rfl ⟨rfl,hf2⟩
theorem ze(A:Option Addr)(n c:Nat)(l:List UInt8)(w:World)(hr:Rd w 1 A n (aP l))(hn:n≤140737488351232):
  Calls Tryz.prog 180 #[.slice A n c] w fun e w' =>e= .returned (.int .u32 (c6 l:Nat))∧Fr No w w' :=by
 refine enter (N:=5) Tryz.func180 rfl rfl (by simp) ?_
 refine bB<|bP<|nq (ab rfl)<|bQ<|bd<|bB<|bP<|nq (aa rfl)<| ?_
 refine nx (jg rfl Tryz.call232 (AP A n c l 0 (by decide) w hr hn) ?_)
 rintro e_ w1 ⟨rfl,hf1⟩
 refine⟨_,rfl, ?_⟩
 refine nq (ab rfl)<|bQ<|cu (ag (t:=2) rfl<|ag (t:=0) rfl<|aV)<|bd<|ix<| ?_
 exact iD trivial rfl rfl ⟨rfl,hf1⟩
theorem clone(A:Option Addr)(n c:Nat)(l:List UInt8)(w:World)(hr:Rd w 1 A n (aP l))(hn:n≤140737488351232):
  Calls Tryz.prog 117 #[.slice A n c] w fun e w' =>∃v,e= .returned v∧Go.Eng.Own w' w.heap.size 5 1 v n (aP l)∧Fr No w w' :=by
 have hl:l.length=n:=by have:=hr.1;rw[az]at this;omega
 refine enter (N:=8) Tryz.func117 rfl rfl (by simp) ?_
 refine bB<|bP<|nq (ab rfl)<|bQ<|bd<|bB<|bB<|bP<|nq (aa rfl)<|nq (Eg rfl rfl Tryz.underlying27)<|bQ<|cu (ag (t:=4) rfl<|ag (t:=2) rfl<|ag (t:=0) rfl<|aV)<|bd<| ?_
 cases A with
 |none=>
  have h0:n=0:=by
   rcases Nat.eq_zero_or_pos n with h|h
   ·exact h
   ·exact absurd rfl (hr.2.1 h)
  subst h0
  obtain rfl:l=[]:=List.eq_nil_of_length_eq_zero hl
  refine FW rfl (rfl) ?_
  refine bB<|bP<|nq (ab rfl)<|bQ<|bd<|ix<|kd<| ?_
  exact iD trivial rfl rfl ⟨_,rfl,Own.nil _ _ _ _,Fr.refl _ _⟩
 |some a=>
  refine xg rfl (rfl) ?_
  refine iv<|bd<|bB<|bP<| ?_
  refine nx (EV Tryz.underlying27 eT fun g w1 hg hf1 hb1=> ?_)
  refine nq (aa rfl)<| ?_
  refine nx (oM rfl rfl Tryz.underlying27 Tryz.underlying27 (by exact .inl rfl) eT rfl (Own.Gu hb1 hg) (Src.bS (hr.xA hf1)) ic (by unfold maxLen;omega) (by omega) hf1.size fun v w2 ho hf2 hv=> ?_)
  refine nq (ab rfl)<|bQ<|cu (ag (t:=2) rfl<|ag (t:=4) rfl<|ag (t:=0) rfl<|aV)<|bd<|ix<| ?_
  refine iD trivial rfl rfl ⟨v,rfl, ?_,hf1.new hf2 (fun i hi=>by have:i=g:=hi;omega)⟩
  simpa using ho
theorem yh(A:Option Addr)(n c:Nat)(l:List UInt8)(s:Nat)(hs:s<4294967296)(w:World)(hr:Rd w 1 A n (aP l))(hn:n≤140737488351232):
  Calls Tryz.prog 243 #[.int .u32 (s:Int),.slice A n c] w fun e w' =>e= .returned (.int .u32 (4294967295-jF (4294967295-s) l:Nat))∧w=w' :=by
 have hl:l.length=n:=by have:=hr.1;rw[az]at this;omega
 refine enter (N:=37) Tryz.func243 rfl rfl (by simp) ?_
 refine bB<|bP<|nq (ab rfl)<|bQ<|bd<|bB<|bP<|nq (aa rfl)<|nq (cd rfl rfl ((show IntKind.u32.wrap (4294967295-(s:Int))=((4294967295-s:Nat):Int) by rw[wo (by omega) (by omega)];omega)))<|nq (ab rfl)<|bQ<|cu (ag (t:=5) rfl<|ag (t:=4) rfl<|ag (t:=0) rfl<|ag (t:=1) rfl<|aV)<|bd<|bB<|bB<|bP<|nq (ab rfl)<|bQ<|bd<|dM<| ?_
 refine my (fun k=>n-k) (fun k=>[(1,.slice A n c),(5,.int .u32 (jF (4294967295-s) (l.take k):Nat)),(6,.int .i64 (k:Nat))]) (fun k w' =>k≤n∧w=w') 0 (⟨Nat.zero_le _,rfl⟩) (ag (t:=1) rfl<|ag (t:=5) rfl<|ag (t:=6) rfl<|aV) (fun k w2 ⟨hk,hw⟩=> ?_)
 obtain rfl:=hw
 refine bB<|bB<|bP<|nq (aa rfl)<|nq (aa rfl)<|nq (aW rfl Tryz.underlying27)<|nq (bu rfl rfl)<|bQ<|cu (ag (t:=13) rfl<|ag (t:=1) rfl<|ag (t:=5) rfl<|ag (t:=6) rfl<|aV)<|bd<| ?_
 refine xD rfl (fun h=> ?_) (fun h=> ?_)
 ·have hkn:k<l.length:=by omega
  have hm:=me (n:=4294967295-s) (by omega) (l.take k)
  have hbt:=(l.getD k 0).toNat_lt
  have hx:=nN hm (l.getD k 0)
  refine iv<|bd<|bB<|dM<|bB<|bP<|nq (aa rfl)<|nq (aa rfl)<|nq (aa rfl)<|nq (aO rfl rfl Tryz.underlying27 dF hr.2.1 rfl (by omega))<|nq (aq rfl iL (hr.cell (bE hkn)))<|nq (bU rfl Tryz.underlying5 Tryz.underlying166 ((wo (by omega) (by omega))))<|nq (gh (by simp) rfl rfl (sD _ hm _))<|nq (ab rfl)<|bQ<|cu (ag (t:=5) rfl<|ag (t:=13) rfl<|ag (t:=1) rfl<|ag (t:=6) rfl<|aV)<|bd<|bB<|bP<|nq (ab rfl)<|bQ<|bd<|dM<| ?_
  generalize hX:jF (4294967295-s) (l.take k) ^^^ (l.getD k 0).toNat=X at hx
  refine my (fun q=>8-q) (fun q=>[(1,.slice A n c),(5,.int .u32 (fE q X:Nat)),(6,.int .i64 (k:Nat)),(7,.int .i64 (q:Nat))]) (fun q w' =>q≤8∧w=w') 0 (⟨Nat.zero_le _,rfl⟩) (ag (t:=1) rfl<|ag (t:=5) rfl<|ag (t:=6) rfl<|ag (t:=7) rfl<|aV) (fun q w3 ⟨hq,hw⟩=> ?_)
  obtain rfl:=hw
  have hc:=kr hx q
  refine bB<|bB<|bP<|nq (aa rfl)<|nq (bu rfl rfl)<|bQ<|cu (ag (t:=24) rfl<|ag (t:=1) rfl<|ag (t:=5) rfl<|ag (t:=6) rfl<|ag (t:=7) rfl<|aV)<|bd<| ?_
  refine xD rfl (fun h2=> ?_) (fun h2=> ?_)
  ·refine iv<|bd<|bB<|dM<|bB<|bP<|nq (aa rfl)<|nq (gK rfl rfl (by omega) (by omega))<|nq (cn rfl rfl)<|bQ<|cu (ag (t:=29) rfl<|ag (t:=24) rfl<|ag (t:=1) rfl<|ag (t:=5) rfl<|ag (t:=6) rfl<|ag (t:=7) rfl<|aV)<|bd<| ?_
   refine xD rfl (fun h3=> ?_) (fun h3=> ?_)
   ·refine bP<|nq (aa rfl)<|nq (j0 rfl rfl (by omega) (by omega) (wo (by omega) (by omega)))<|nq (gh (by simp) rfl rfl (yw _ hc))<|nq (ab rfl)<|bQ<|cu (ag (t:=5) rfl<|ag (t:=29) rfl<|ag (t:=24) rfl<|ag (t:=1) rfl<|ag (t:=6) rfl<|ag (t:=7) rfl<|aV)<|ju<|bd<|bP<|nq (aa rfl)<|nq (aK rfl rfl (bs (by omega) (by omega)))<|nq (ab rfl)<|bQ<|cu (ag (t:=7) rfl<|ag (t:=5) rfl<|ag (t:=29) rfl<|ag (t:=24) rfl<|ag (t:=1) rfl<|ag (t:=6) rfl<|aV)<| ?_
    rw[show fE q X/2 ^^^ 2197175160=fE (q+1) X by rw[fE,lE,if_pos (by omega)]]
    refine na (q+1) (ag (t:=1) rfl<|ag (t:=5) rfl<|ag (t:=6) rfl<|ag (t:=7) rfl<|aV) (⟨by omega,rfl⟩) (by omega)
   ·refine bP<|nq (aa rfl)<|nq (j0 rfl rfl (by omega) (by omega) (wo (by omega) (by omega)))<|nq (ab rfl)<|bQ<|cu (ag (t:=5) rfl<|ag (t:=29) rfl<|ag (t:=24) rfl<|ag (t:=1) rfl<|ag (t:=6) rfl<|ag (t:=7) rfl<|aV)<|ju<|bd<|bP<|nq (aa rfl)<|nq (aK rfl rfl (bs (by omega) (by omega)))<|nq (ab rfl)<|bQ<|cu (ag (t:=7) rfl<|ag (t:=5) rfl<|ag (t:=29) rfl<|ag (t:=24) rfl<|ag (t:=1) rfl<|ag (t:=6) rfl<|aV)<| ?_
    rw[show(fE q X:Int)/2=((fE (q+1) X:Nat):Int) by rw[fE,lE,if_neg (by omega)];omega]
    refine na (q+1) (ag (t:=1) rfl<|ag (t:=5) rfl<|ag (t:=6) rfl<|ag (t:=7) rfl<|aV) (⟨by omega,rfl⟩) (by omega)
  ·obtain rfl:q=8:=by omega
   refine lZ<|cz<|cz<|dH<|ju<|bd<|bP<|nq (aa rfl)<|nq (aK rfl rfl (bs (by omega) (by omega)))<|nq (ab rfl)<|bQ<|cu (ag (t:=6) rfl<|ag (t:=24) rfl<|ag (t:=1) rfl<|ag (t:=5) rfl<|ag (t:=7) rfl<|aV)<| ?_
   rw[←hX,←o5,←Go.Hx.eA hkn]
   refine na (k+1) (ag (t:=1) rfl<|ag (t:=5) rfl<|ag (t:=6) rfl<|aV) (⟨by omega,rfl⟩) (by omega)
 ·obtain rfl:k=n:=by omega
  have hm:=me (n:=4294967295-s) (by omega) (l.take k)
  refine lZ<|cz<|cz<|dH<|bd<|bB<|bP<|nq (aa rfl)<|nq (cd rfl rfl ((show IntKind.u32.wrap (4294967295-((jF (4294967295-s) (l.take k):Nat):Int))=((4294967295-jF (4294967295-s) (l.take k):Nat):Int) by rw[wo (by omega) (by omega)];omega)))<|nq (ab rfl)<|bQ<|cu (ag (t:=4) rfl<|ag (t:=13) rfl<|ag (t:=1) rfl<|ag (t:=5) rfl<|ag (t:=6) rfl<|aV)<|bd<|ix<| ?_
  rw[List.take_of_length_le (by omega)]
  exact iD trivial rfl rfl ⟨rfl,rfl⟩
theorem AF(A:Option Addr)(n c:Nat)(l:List UInt8)(w:World)(hr:Rd w 1 A n (aP l))(hn:n≤70368744177664):
  Calls Tryz.prog 189 #[.slice A n c] w fun e w' =>∃v,e= .returned v∧Go.Eng.Own w' w.heap.size 5 1 v (n+4) (aP (yO l))∧Fr No w w' :=by
 have hl:l.length=n:=by have:=hr.1;rw[az]at this;omega
 refine enter (N:=24) Tryz.func189 rfl rfl (by simp) ?_
 refine bB<|bP<|nq (ab rfl)<|bQ<|bd<|bB<|bP<|nq (aa rfl)<| ?_
 refine nx (jg rfl Tryz.call243 (yh A n c l 0 (by decide) w hr (by omega)) ?_)
 rintro e_ w1 ⟨rfl,rfl⟩
 refine⟨_,rfl, ?_⟩
 refine nq (ab rfl)<|bQ<|cu (ag (t:=3) rfl<|ag (t:=2) rfl<|ag (t:=0) rfl<|aV)<|bd<|bB<|bP<|nq (ab rfl)<|bQ<|bd<|bB<|bP<|nq (aa rfl)<|nq (aa rfl)<| ?_
 refine nx (oM rfl rfl Tryz.underlying27 Tryz.underlying27 (by exact .inl rfl) eT rfl (Own.nil w w.heap.size _ 1) (Src.bS hr) ic (by unfold maxLen;omega) (by omega) (Nat.le_refl _) fun v w2 hv hf2 hvv=> ?_)
 have hlt:=iS l
 have f2:Fr No w w2:=hf2.mono (fun _ _ e=>e.elim)
 refine nq (ab rfl)<|bQ<|cu (ag (t:=4) rfl<|ag (t:=3) rfl<|ag (t:=2) rfl<|ag (t:=0) rfl<|aV)<|bd<|bB<|bB<|bP<|nq (ab rfl)<|bQ<|bd<|dM<| ?_
 refine um (fun k _=>4-k) (fun k v=>[(3,.int .u32 (ri k (c6 l):Nat)),(4,v),(5,.int .i64 (k:Nat))]) (fun k v w' =>k≤4∧Go.Eng.Own w' w.heap.size 5 1 v (n+k) (aP (l++EK k (c6 l)))∧Fr No w w') 0 v (⟨Nat.zero_le _,by simpa[EK]using hv,f2⟩) (ag (t:=3) rfl<|ag (t:=4) rfl<|ag (t:=5) rfl<|aV) (fun k v w3 ⟨hk,ho,hf⟩=> ?_)
 refine bB<|bB<|bP<|nq (aa rfl)<|nq (bu rfl rfl)<|bQ<|cu (ag (t:=12) rfl<|ag (t:=3) rfl<|ag (t:=4) rfl<|ag (t:=5) rfl<|aV)<|bd<| ?_
 refine xD rfl (fun h=> ?_) (fun h=> ?_)
 ·have hs8:=vR hlt k
  refine iv<|bd<|bB<|dM<|bB<|bP<|nq (aa rfl)<|nq (aa rfl)<|nq (gK rfl rfl (by omega) (by omega))<|nq (bU rfl Tryz.underlying166 Tryz.underlying5 ((show IntKind.u8.wrap (((ri k (c6 l):Nat):Int) % 256)=((UInt8.ofNat (ri k (c6 l))).toNat:Int) by simp[IntKind.wrap,IntKind.signed,IntKind.bits])))<| ?_
  refine nx (sv Tryz.underlying27 eT rfl rfl rfl (by simp[Value.cells,B8]) (by decide) (by decide) fun g w4 hg hf4 hb4=> ?_)
  refine nx (oM rfl rfl Tryz.underlying27 Tryz.underlying27 (by exact .inl rfl) eT rfl (ho.xA hf4) (Src.lh hb4 rfl) (bh (l:=[_])) (by unfold maxLen;omega) (by omega) (hf.eH hf4).size fun v5 w5 ho5 hf5 hv5=> ?_)
  refine nq (ab rfl)<|bQ<|cu (ag (t:=4) rfl<|ag (t:=12) rfl<|ag (t:=3) rfl<|ag (t:=5) rfl<|aV)<|bd<|bP<|nq (aa rfl)<|nq (j0 rfl rfl (by omega) (by omega) (wo (by omega) (by omega)))<|nq (ab rfl)<|bQ<|cu (ag (t:=3) rfl<|ag (t:=4) rfl<|ag (t:=12) rfl<|ag (t:=5) rfl<|aV)<|ju<|bd<|bP<|nq (aa rfl)<|nq (aK rfl rfl (bs (by omega) (by omega)))<|nq (ab rfl)<|bQ<|cu (ag (t:=5) rfl<|ag (t:=3) rfl<|ag (t:=4) rfl<|ag (t:=12) rfl<|aV)<| ?_
  refine uP (k+1) v5 (ag (t:=3) rfl<|ag (t:=4) rfl<|ag (t:=5) rfl<|aV) (⟨by omega,by rw[yi,←List.append_assoc,bK];exact ho5,(hf.eH hf4).new hf5 (fun i hi=>(ho.from hi).1)⟩) (by omega)
 ·obtain rfl:k=4:=by omega
  refine lZ<|cz<|cz<|dH<|bd<|bB<|bP<|nq (aa rfl)<|nq (ab rfl)<|bQ<|cu (ag (t:=2) rfl<|ag (t:=12) rfl<|ag (t:=3) rfl<|ag (t:=4) rfl<|ag (t:=5) rfl<|aV)<|bd<|ix<| ?_
  rw[Au]at ho
  exact iD trivial rfl rfl ⟨v,rfl,ho,hf⟩
end Go.Proofs.YtmibdabdlgmafaaGreatDoor
end
section
set_option maxRecDepth 20000
namespace Go.Proofs.YtmibdabdlgmafaaGreatDoor
open Go.Eng Go.Hx
theorem uj(A:Option Addr)(n c:Nat)(l:List UInt8)(A' :Option Addr)(n' c' :Nat)(l' :List UInt8)(w:World)(hr:Rd w 1 A n (aP l))(hr' :Rd w 1 A' n' (aP l')):
  Calls Tryz.prog 215 #[.slice A n c,.slice A' n' c'] w fun e w' =>e= .returned (.bool (decide (l=l')))∧w=w' :=by
 refine enter (N:=10) Tryz.func215 rfl rfl (by simp) ?_
 refine bB<|bP<|nq (ab rfl)<|bQ<|bd<|bB<|bP<|nq (aa rfl)<|nq (lT rfl Tryz.underlying27 Tryz.underlying5 Tryz.underlying9 hr)<|nq (aa rfl)<|nq (lT rfl Tryz.underlying27 Tryz.underlying5 Tryz.underlying9 hr')<|nq (zK rfl rfl)<|nq (ab rfl)<|bQ<|cu (ag (t:=4) rfl<|ag (t:=0) rfl<|ag (t:=1) rfl<|aV)<|bd<|ix<| ?_
 refine iD trivial rfl rfl ⟨?_,rfl⟩
 simp only[cF]
end Go.Proofs.YtmibdabdlgmafaaGreatDoor
end
section
set_option maxRecDepth 20000
namespace Go.Proofs.YtmibdabdlgmafaaGreatDoor
open Go.Eng Go.Hx
theorem nJ{A A1:Option Addr}{n c n1 c1:Nat}{l l1:List UInt8}:b6 Tryz.prog 215 [.slice A n c,.slice A1 n1 c1] [] [cr 1 A n (aP l),cr 1 A1 n1 (aP l1)] (fun v_ X_ S_=>v_=(.bool (decide (l=l1)))∧X_=[]∧S_=[]):=by
 exact iT fun m=>Calls.mono (uj A n c l A1 n1 c1 l1 _ (m.rd 0 rfl) (m.rd 1 rfl)) (fun e w' ⟨h,hw⟩=>⟨_,h,⟨rfl,rfl,rfl⟩,hw▸Fr.refl _ _⟩)
theorem mV{A:Option Addr}{n c:Nat}{l:List UInt8}(hn:n≤140737488351232):b6 Tryz.prog 117 [.slice A n c] [] [cr 1 A n (aP l)] (fun v_ X_ S_=>∃v,v_=v∧X_=[aG 5 1 v n (aP l)]∧S_=[]):=by
 exact lX fun m=>Calls.mono (clone A n c l _ (m.rd 0 rfl) hn) (fun e w' ⟨v,h,ho,hf⟩=>⟨v,v,_,_,_,_,h,⟨v,rfl,rfl,rfl⟩,ho,hf⟩)
end Go.Proofs.YtmibdabdlgmafaaGreatDoor
end
section
set_option maxRecDepth 20000
namespace Go.Proofs.YtmibdabdlgmafaaGreatDoor
open Go.Eng Go.Hx
def dI:bc:=cr 1 (some ⟨1,0,none⟩) 64 (dD ff)
theorem EA{n:Nat}(h0:0<n)(hn:n<32):IntKind.u64.wrap (-(n:Int))=((18446744073709551616-n:Nat):Int):=by
 simp[IntKind.wrap,IntKind.signed,IntKind.bits]
 omega
theorem xW{n:Nat}(h0:0<n)(hn:n<32):bits .and .u64 ((18446744073709551616-n:Nat):Int) 31=((32-n:Nat):Int):=by
 have h:=u64_and_nat (18446744073709551616-n) 31 (by omega) (by decide)
 rw[show((31:Nat):Int)=31 from rfl]at h
 rw[h,show(31:Nat)=2 ^ 5-1 from rfl,Nat.and_two_pow_sub_one_eq_mod]
 congr 1
 show(18446744073709551616-n) % 32=32-n
 omega
theorem uN{x:UInt32}{n:Nat}(h0:0<n)(hn:n<32):b6 Tryz.prog 296 [Wd x,.int .i64 (-(n:Int))] [] [] (fun v_ X_ S_=>v_=(Wd (gX n x))∧X_=[]∧S_=[]):=by
 refine aJ (N:=17) Tryz.func296 rfl rfl (by simp) fun b=> ?_
 have hs:IntKind.u64.wrap (32-((32-n:Nat):Int))=(n:Int):=by
  rw[show(32:Int)-((32-n:Nat):Int)=(n:Int) by omega]
  simp[IntKind.wrap,IntKind.signed,IntKind.bits]
  omega
 refine ah<|aj<|hy (fun _=>ab rfl)<|ai<|ae<|ah<|aj<|hy (fun _=>aa rfl)<|hy (fun _=>bU rfl Tryz.underlying3 Tryz.underlying263 (EA h0 hn))<|hy (fun _=>gh (by simp) rfl rfl (xW h0 hn))<|hy (fun _=>ab rfl)<|ai<|al (ρ' :=[(5,_),(4,_),(0,_),(1,_)]) ⟨rfl,rfl,rfl,rfl,trivial⟩<|ae<|ah<|aj<|hy (fun _=>aa rfl)<|hy (fun _=>aa rfl)<|hy (fun _=>(r6 (k:=32-n) (by omega) rfl rfl))<|hy (fun _=>aa rfl)<|hy (fun _=>aa rfl)<|hy (fun _=>cd rfl rfl hs)<|hy (fun _=>(uZ (k:=n) hn rfl rfl))<|hy (fun _=>yV (zJ rfl rfl) ((show Wd (UInt32.ofNat (x.toNat*2 ^ (32-n)) ||| UInt32.ofNat (x.toNat/2 ^ n))=Wd (gX n x) by rw[qP h0 hn])))<|hy (fun _=>ab rfl)<|ai<|al (ρ' :=[(4,_),(5,_),(0,_),(1,_)]) ⟨rfl,rfl,rfl,rfl,trivial⟩<|ae<|aU<| ?_
 exact aZ trivial rfl rfl [] rfl [] rfl ⟨rfl,rfl,rfl⟩
theorem v8{x:UInt32}{n1 n2 n3:Nat}(h1:0<n1∧n1<32)(h2:0<n2∧n2<32)(h3:0<n3∧n3<32):b6 Tryz.prog 269 [Wd x,.int .i64 (n1:Int),.int .i64 (n2:Int),.int .i64 (n3:Int)] [] [] (fun v_ X_ S_=>v_=(Wd (turns n1 n2 n3 x))∧X_=[]∧S_=[]):=by
 refine aJ (N:=23) Tryz.func269 rfl rfl (by simp) fun b=> ?_
 refine ah<|aj<|hy (fun _=>ab rfl)<|ai<|ae<|ah<|aj<|hy (fun _=>aa rfl)<|hy (fun _=>aa rfl)<|hy (fun _=>vU rfl (bs (by omega) (by omega)))<| ?_
 refine hx (au rfl Tryz.call296 (uN h1.1 h1.2 (n:=n1)) [] rfl [] rfl ?_)
 rintro _ _ _ ⟨rfl,rfl,rfl⟩
 refine hy (fun _=>aa rfl)<|hy (fun _=>aa rfl)<|hy (fun _=>vU rfl (bs (by omega) (by omega)))<| ?_
 refine hx (au rfl Tryz.call296 (uN h2.1 h2.2 (n:=n2)) [] rfl [] rfl ?_)
 rintro _ _ _ ⟨rfl,rfl,rfl⟩
 refine hy (fun _=>cL rfl rfl)<|hy (fun _=>aa rfl)<|hy (fun _=>aa rfl)<|hy (fun _=>vU rfl (bs (by omega) (by omega)))<| ?_
 refine hx (au rfl Tryz.call296 (uN h3.1 h3.2 (n:=n3)) [] rfl [] rfl ?_)
 rintro _ _ _ ⟨rfl,rfl,rfl⟩
 refine hy (fun _=>cL rfl rfl)<|hy (fun _=>ab rfl)<|ai<|al (ρ' :=[(8,_),(0,_),(1,_),(2,_),(3,_)]) ⟨rfl,rfl,rfl,rfl,rfl,trivial⟩<|ak (X' :=[]) (S' :=[]) (fun _ m=>m)<|ae<|aU<| ?_
 exact aZ trivial rfl rfl [] rfl [] rfl ⟨rfl,rfl,rfl⟩
theorem l8{a:List UInt32}{i k n:Nat}(ha:a.length=i)(hk:k<i):(dD (a++List.replicate n 0))[k]? =some (Wd (a.getD k 0)):=by
 rw[bj (by simp;omega)]
 simp[List.getD,List.getElem?_append_left (show k<a.length by omega)]
theorem AW{a r:List UInt32}{i:Nat}{x:UInt32}(ha:a.length=i):(dD (a++x::r))[i]? =some (Wd x):=by
 subst ha
 simp[dD]
theorem vM{a r:List UInt32}{i:Nat}{x y:UInt32}(ha:a.length=i):(dD (a++x::r)).set i (Wd y)=dD (a++y::r):=by
 subst ha
 simp[dD,List.set_append]
theorem wq{a r:List UInt32}{y:UInt32}:a++y::r=(a++[y])++r:=by simp
theorem DD{A:Option Addr}{c:Nat}{l:List UInt8}(hc:64≤c):b6 Tryz.prog 268 [.slice A 64 c] [] [cr 1 A 64 (aP l)] (fun v_ X_ S_=>v_=(.agg (dD (wl l 64)).toArray)∧X_=[]∧S_=[]):=by
 refine aJ (N:=75) Tryz.func268 rfl rfl (by simp) fun b=> ?_
 refine aS (fun m=>dZ (m.rd 0 rfl)) ?_
 rintro⟨hl_r,hA_r⟩
 have hl:l.length=64:=hl_r
 refine ah<|aj<| ?_
 refine hx (bf y7 (fun g2=> ?_))
 refine ai<|ak (X' :=[_]) (S' :=[_]) (fun _ m=>m)<|ae<|ah<|aj<| ?_
 refine hx (bf y7 (fun g3=> ?_))
 refine aF (fun w m=>m.bq 0 rfl (show _=aE g3 354 (dD (wl l 0++List.replicate (64-0) 0))from rfl)) ?_
 refine ai<|ak (X' :=[_,_]) (S' :=[_]) (fun _ m=>m)<|ae<|ah<|ah<|aj<|hy (fun _=>aa rfl)<|ai<|ae<|aI<| ?_
 refine cW (fun i=>64-i) (fun i=>[(9,.int .i64 (i:Nat))]) (fun i=>[aE g3 354 (dD (wl l i++List.replicate (64-i) 0))]) (fun i=>[]) (fun i=>i≤64) 0 [(3,_),(2,_),(0,_)] ⟨rfl,rfl,rfl,trivial⟩ [0] rfl [] rfl (Nat.zero_le _) ⟨rfl,trivial⟩ (fun i hI=> ?_)
 have hwl:=eX l i
 refine ah<|aj<|hy (fun _=>bu rfl rfl)<|ai<|ae<|ah<| ?_
 refine cj rfl (fun h=> ?_) (fun h=> ?_)
 ·have hr64:(List.replicate (64-i) (0:UInt32))=0::List.replicate (63-i) 0:=by rw[show 64-i=(63-i)+1 by omega,List.replicate_succ]
  have hr63:(64-(i+1))=63-i:=by omega
  refine aA<|ae<|ah<|aI<|ah<|aj<|hy (fun _=>aa rfl)<|hy (fun _=>ab rfl)<|ai<|al (ρ' :=[(4,_),(10,_),(9,_),(3,_),(2,_),(0,_)]) ⟨rfl,rfl,rfl,rfl,rfl,rfl,trivial⟩<|ae<|ah<|ah<|aj<|hy (fun _=>aa rfl)<|hy (fun _=>bu rfl rfl)<|ai<|al (ρ' :=[(13,_),(4,_),(10,_),(9,_),(3,_),(2,_),(0,_)]) ⟨rfl,rfl,rfl,rfl,rfl,rfl,rfl,trivial⟩<|ae<| ?_
  refine cj rfl (fun h16=> ?_) (fun h16=> ?_)
  ·have hws:wl l (i+1)=wl l i++[j2 l (4*i)]:=by rw[wl,if_pos (by omega)]
   refine bg (fun w m=>m.fh 0 rfl (View.sub (k:=4*i) (m:=4) hc (by omega))) ?_
   refine aS (fun m=>dZ (m.rd 0 rfl)) ?_
   rintro⟨hl_r4,hA_r4⟩
   refine ah<|ah<|aj<|hy (fun _=>aa rfl)<|hy (fun _=>aa rfl)<|hy (fun _=>fU rfl rfl (bs (by omega) (by omega)))<|hy (fun _=>aa rfl)<|hy (fun _=>fU rfl rfl (bs (by omega) (by omega)))<|hy (fun _=>aK rfl rfl (bs (by omega) (by omega)))<|hy (fun _=>yV (ew rfl rfl rfl Tryz.underlying27 dF (show((4*i:Nat):Int)=_ by omega) (show((4*i+4:Nat):Int)=_ by omega) (by omega) (by omega)) ((show Value.slice (if c=4*i then A else A.map (·.add (4*i*1))) (4*i+4-4*i) (c-4*i)= .slice (if c=4*i then A else A.map (·.add (4*i*1))) 4 (c-4*i) by rw[Nat.add_sub_cancel_left])))<|hy (fun _=>aW rfl Tryz.underlying27)<|hy (fun _=>aa rfl)<|ai<|al (ρ' :=[(22,_),(21,_),(20,_),(13,_),(4,_),(10,_),(9,_),(3,_),(2,_),(0,_)]) ⟨rfl,rfl,rfl,rfl,rfl,rfl,rfl,rfl,rfl,rfl,trivial⟩<|ae<|aI<| ?_
   refine bg (fun w m=>m.bq 0 rfl (show _=aE g3 354 (dD (wl l i++UInt32.ofNat (wp l (4*i) 0)::List.replicate (63-i) 0))from by rw[hr64];rfl)) ?_
   refine cW (fun j=>4-j) (fun j=>[(22,.int .i64 (j:Nat))]) (fun j=>[aE g3 354 (dD (wl l i++UInt32.ofNat (wp l (4*i) j)::List.replicate (63-i) 0))]) (fun j=>[]) (fun j=>j≤4) 0 [(21,_),(20,_),(13,_),(4,_),(10,_),(9,_),(3,_),(2,_),(0,_)] ⟨rfl,rfl,rfl,rfl,rfl,rfl,rfl,rfl,rfl,trivial⟩ [0] rfl [] rfl (Nat.zero_le _) ⟨rfl,trivial⟩ (fun j hj4=> ?_)
   refine ah<|aj<|hy (fun _=>bu rfl rfl)<|ai<|ae<|ah<| ?_
   refine cj rfl (fun hj=> ?_) (fun hj=> ?_)
   ·have hgl:((l.drop (4*i)).take 4).getD j 0=l.getD (4*i+j) 0:=by
     simp[List.getD,List.getElem?_take,List.getElem?_drop,show j<4 by omega]
    refine aA<|ae<|ah<|aI<|ah<|aj<|hy (fun _=>aO rfl rfl Tryz.underlying27 dF hA_r4 rfl (by omega))<|hy (fun m=>aq rfl iL ((m.rd 0 rfl).cell (bE (by omega))))<|hy (fun _=>ab rfl)<|ai<|al (ρ' :=[(6,_),(23,_),(22,_),(21,_),(20,_),(13,_),(4,_),(10,_),(9,_),(3,_),(2,_),(0,_)]) ⟨rfl,rfl,rfl,rfl,rfl,rfl,rfl,rfl,rfl,rfl,rfl,rfl,trivial⟩<|ae<|aj<|hy (fun _=>aa rfl)<|hy (fun _=>aa rfl)<|hy (fun _=>bR rfl rfl Tryz.underlying354 br rfl (by omega))<|hy (fun m=>aq rfl bC ((m.aN 0 rfl).aw i _ (AW hwl)))<|hy (fun _=>rn (k:=8) (b:=256) (by decide) rfl rfl rfl)<|hy (fun _=>aa rfl)<|hy (fun _=>xJ rfl Tryz.underlying5 Tryz.underlying166)<|hy (fun _=>yV (zJ rfl rfl) ((show Wd ((UInt32.ofNat (wp l (4*i) j)*256) ||| (((l.drop (4*i)).take 4).getD j 0).toUInt32)=Wd (UInt32.ofNat (wp l (4*i) (j+1))) by rw[hgl,AT (by omega)])))<|hy (fun _=>bR rfl rfl Tryz.underlying354 br rfl (by omega))<| ?_
    refine cB (bX 0 rfl rfl rfl br rfl (by rw[aT];simp only[List.length_append,List.length_cons,List.length_replicate,hwl];omega) ?_)
    refine ai<|al (ρ' :=[(6,_),(23,_),(22,_),(21,_),(20,_),(13,_),(4,_),(10,_),(9,_),(3,_),(2,_),(0,_)]) ⟨rfl,rfl,rfl,rfl,rfl,rfl,rfl,rfl,rfl,rfl,rfl,rfl,trivial⟩<|ak (X' :=[_,_]) (S' :=[_,_]) (fun _ m=>m)<|aM<|ae<|aj<|hy (fun _=>aK rfl rfl (bs (by omega) (by omega)))<|hy (fun _=>aa rfl)<|ai<|al (ρ' :=[(22,_),(6,_),(23,_),(21,_),(20,_),(13,_),(4,_),(10,_),(9,_),(3,_),(2,_),(0,_)]) ⟨rfl,rfl,rfl,rfl,rfl,rfl,rfl,rfl,rfl,rfl,rfl,rfl,trivial⟩<| ?_
    refine ak (fun w m=>m.bq 0 rfl (show _=aE g3 354 (dD (wl l i++UInt32.ofNat (wp l (4*i) (j+1))::List.replicate (63-i) 0))from by rw[Nat.zero_add,vM hwl])) ?_
    refine ct (j+1) ⟨rfl,rfl,rfl,rfl,rfl,rfl,rfl,rfl,rfl,rfl,trivial⟩ [0,0] rfl [0,1] rfl (by omega) (by omega)
   ·obtain rfl:j=4:=by omega
    refine bA<|ao<|ao<|aC<|ae<|bA<|ao<|aC<|ae<|aj<|hy (fun _=>aK rfl rfl (bs (by omega) (by omega)))<|hy (fun _=>aa rfl)<|ai<|al (ρ' :=[(9,_),(23,_),(22,_),(21,_),(20,_),(13,_),(4,_),(10,_),(3,_),(2,_),(0,_)]) ⟨rfl,rfl,rfl,rfl,rfl,rfl,rfl,rfl,rfl,rfl,rfl,trivial⟩<| ?_
    refine ak (fun w m=>m.bq 0 rfl (show _=aE g3 354 (dD (wl l (i+1)++List.replicate (64-(i+1)) 0))from by rw[Bz,wq,hws,hr63])) ?_
    refine ct (i+1) ⟨rfl,rfl,rfl,rfl,trivial⟩ [0,0] rfl [1] rfl (by omega) (by omega)
  ·have hws:wl l (i+1)=wl l i++[lF (wl l i) i]:=by rw[wl,if_neg (by omega)]
   refine aA<|ae<|ah<|cq [] [(0,some 0),(1,some 0),(2,some 0),(3,some 0),(4,some 0),(5,some 0),(6,some 0),(7,some 0),(8,some 0),(9,some 0)] (by kernel_rfl) (by kernel_rfl) rfl 99<|an (aa rfl)<|an (cd rfl rfl (bs (by omega) (by omega)))<|an (bR rfl rfl Tryz.underlying354 br (show((i-15:Nat):Int)=_ by omega) (by omega))<|bY (fun m=>aq rfl bC ((m.aN 0 rfl).aw (i-15) _ (l8 hwl (by omega))))<|an (aa rfl)<|an (cd rfl rfl (bs (by omega) (by omega)))<|an (bR rfl rfl Tryz.underlying354 br (show((i-2:Nat):Int)=_ by omega) (by omega))<|bY (fun m=>aq rfl bC ((m.aN 0 rfl).aw (i-2) _ (l8 hwl (by omega))))<|an (ab rfl)<|an (ab rfl)<|bk<|al (ρ' :=[(8,_),(7,_),(13,_),(4,_),(10,_),(9,_),(3,_),(2,_),(0,_)]) ⟨rfl,rfl,rfl,rfl,rfl,rfl,rfl,rfl,rfl,trivial⟩<|ae<|cq [6,8,20,22,29] [(0,some 4),(1,some 4),(2,some 4),(3,some 4),(4,some 4),(5,some 0),(7,some 1),(10,some 4),(11,some 4),(14,some 4),(15,some 4),(16,some 4),(17,some 4),(19,some 2),(21,some 3),(24,some 4),(25,some 4),(6,none),(8,none),(9,some 4),(12,some 4),(13,some 4),(18,some 4),(20,none),(22,none),(23,some 4),(26,some 4),(27,some 4),(28,some 4),(29,none)] (by kernel_rfl) (by kernel_rfl) rfl 4<|an (aa rfl)<|an (aa rfl)<|an (cd rfl rfl (bs (by omega) (by omega)))<|an (bR rfl rfl Tryz.underlying354 br (show((i-16:Nat):Int)=_ by omega) (by omega))<|bY (fun m=>aq rfl bC ((m.aN 0 rfl).aw (i-16) _ (l8 hwl (by omega))))<|an (aa rfl)<|an (aa rfl)<|an (aa rfl)<|an (ku (k:=3) (b:=8) (by decide) rfl rfl rfl)<|an (aa rfl)<|an (cd rfl rfl (bs (by omega) (by omega)))<|an (bR rfl rfl Tryz.underlying354 br (show((i-7:Nat):Int)=_ by omega) (by omega))<|bY (fun m=>aq rfl bC ((m.aN 0 rfl).aw (i-7) _ (l8 hwl (by omega))))<|an (aa rfl)<|an (aa rfl)<|an (aa rfl)<|an (ku (k:=10) (b:=1024) (by decide) rfl rfl rfl)<| ?_
   refine dq (au rfl Tryz.call296 (uN (by decide) (by decide) (n:=7)) [] rfl [] rfl ?_)
   rintro _ _ _ ⟨rfl,rfl,rfl⟩
   refine⟨(fun _=>wk [0,0] [0] rfl rfl), ?_⟩
   refine dq (au rfl Tryz.call296 (uN (by decide) (by decide) (n:=18)) [] rfl [] rfl ?_)
   rintro _ _ _ ⟨rfl,rfl,rfl⟩
   refine⟨(fun _=>wk [0,0] [0] rfl rfl), ?_⟩
   refine an (cL rfl rfl)<|an (cL rfl rfl)<|an (cS rfl rfl)<|an (cS rfl rfl)<| ?_
   refine dq (au rfl Tryz.call296 (uN (by decide) (by decide) (n:=17)) [] rfl [] rfl ?_)
   rintro _ _ _ ⟨rfl,rfl,rfl⟩
   refine⟨(fun _=>wk [0,0] [0] rfl rfl), ?_⟩
   refine dq (au rfl Tryz.call296 (uN (by decide) (by decide) (n:=19)) [] rfl [] rfl ?_)
   rintro _ _ _ ⟨rfl,rfl,rfl⟩
   refine⟨(fun _=>wk [0,0] [0] rfl rfl), ?_⟩
   refine an (cL rfl rfl)<|an (cL rfl rfl)<|an (yV (cS rfl rfl) ((rfl:_=Wd (lF (wl l i) i))))<|an (bR rfl rfl Tryz.underlying354 br rfl (by omega))<| ?_
   refine fS (bX 0 rfl rfl rfl br rfl (by rw[aT];simp only[List.length_append,List.length_replicate,hwl];omega) ⟨(fun h=>absurd h (by decide)), ?_⟩)
   refine bk<|al (ρ' :=[(8,_),(7,_),(13,_),(4,_),(10,_),(9,_),(3,_),(2,_),(0,_)]) ⟨rfl,rfl,rfl,rfl,rfl,rfl,rfl,rfl,rfl,trivial⟩<|ak (X' :=[_,_]) (S' :=[_]) (fun _ m=>m)<|aM<|ae<|aj<|hy (fun _=>aK rfl rfl (bs (by omega) (by omega)))<|hy (fun _=>aa rfl)<|ai<|al (ρ' :=[(9,_),(8,_),(7,_),(13,_),(4,_),(10,_),(3,_),(2,_),(0,_)]) ⟨rfl,rfl,rfl,rfl,rfl,rfl,rfl,rfl,rfl,trivial⟩<| ?_
   refine ak (fun w m=>m.bq 0 rfl (show _=aE g3 354 (dD (wl l (i+1)++List.replicate (64-(i+1)) 0))from by rw[Nat.zero_add,hr64,vM hwl,wq,hws,hr63])) ?_
   refine ct (i+1) ⟨rfl,rfl,rfl,rfl,trivial⟩ [0,0] rfl [0] rfl (by omega) (by omega)
 ·obtain rfl:i=64:=by omega
  refine bg (fun w m=>m.bq 0 rfl (show _=aE g3 354 (dD (wl l 64))from by rw[Nat.sub_self];simp)) ?_
  refine bA<|ao<|ao<|aC<|ae<|ah<|aj<|hy (fun m=>yV (aQ rfl CX va (by rw[aT,eX]) ((m.aN 0 rfl).aw)) ((rfl:_=Value.agg (dD (wl l 64)).toArray)))<| ?_
  refine cB (a6 1 rfl rfl rfl va (by rw[aT,eX]) fK rfl ?_)
  refine ai<|al (ρ' :=[(10,_),(9,_),(3,_),(2,_),(0,_)]) ⟨rfl,rfl,rfl,rfl,rfl,trivial⟩<|ak (X' :=[_,_]) (S' :=[_]) (fun _ m=>m)<|ae<|aU<| ?_
  exact ep trivial rfl rfl CX va (by rw[aT,eX]) (fun m=>(m.aN 0 rfl).aw) [] rfl [] rfl ⟨rfl,rfl,rfl⟩
theorem sS(v h:List UInt32)(i:Nat):(fl v h i).length=v.length:=by simp[fl]
theorem GO{A:Option Addr}{c:Nat}{l:List UInt8}{h:List UInt32}(hc:64≤c)(hh:h.length=8):b6 Tryz.prog 227 [.agg (dD h).toArray,.slice A 64 c] [] [cr 1 A 64 (aP l),dI] (fun v_ X_ S_=>v_=(.agg (dD (dT h l)).toArray)∧X_=[]∧S_=[]):=by
 refine aJ (N:=99) Tryz.func227 rfl rfl (by simp) fun b=> ?_
 refine aS (fun m=>dZ (m.rd 0 rfl)) ?_
 rintro⟨hl_r,hA_r⟩
 refine ah<|aj<| ?_
 refine hx (bn rfl (fun g2=> ?_))
 refine aF (fun w m=>m.bq 0 rfl (show _=aE g2 306 (dD h)from congrArg (aE _ _) (aR _))) ?_
 refine hx (bf vA (fun g4=> ?_))
 refine ai<|ak (X' :=[_,_]) (S' :=[_,_]) (fun _ m=>m)<|ae<|ah<|aj<|hy (fun _=>aa rfl)<| ?_
 refine hx (au rfl Tryz.call268 (DD (by omega)) [] rfl [0] rfl ?_)
 rintro _ _ _ ⟨rfl,rfl,rfl⟩
 obtain⟨W,hW⟩:∃W,wl l 64=W:=⟨_,rfl⟩
 have hw64:W.length=64:=by rw[←hW];exact eX l 64
 rw[hW]
 refine hx (bf y7 (fun g5=> ?_))
 refine cB (a6 0 rfl rfl rfl va (by rw[aT,hw64]) fK rfl ?_)
 refine ai<|al (ρ' :=[(5,_),(4,_),(2,_),(0,_),(1,_)]) ⟨rfl,rfl,rfl,rfl,rfl,trivial⟩<|ak (X' :=[_,_,_]) (S' :=[_,_]) (fun _ m=>m)<|ae<|ah<|aj<|hy (fun m=>yV (aQ rfl qf kG (by rw[aT,hh]) ((m.aN 2 rfl).aw)) ((rfl:_=Value.agg (dD h).toArray)))<| ?_
 refine hx (bf vA (fun g6=> ?_))
 refine cB (a6 0 rfl rfl rfl kG (by rw[aT,hh]) fK rfl ?_)
 refine ai<|al (ρ' :=[(6,_),(5,_),(4,_),(2,_),(0,_),(1,_)]) ⟨rfl,rfl,rfl,rfl,rfl,rfl,trivial⟩<|ak (X' :=[_,_,_,_]) (S' :=[_,_]) (fun _ m=>m)<|ae<|ah<|ah<|aj<|hy (fun _=>aa rfl)<|ai<|ae<|aI<| ?_
 refine cW (fun i=>64-i) (fun i=>[(16,.int .i64 (i:Nat))]) (fun i=>[aE g6 306 (dD (jJ W h i))]) (fun i=>[]) (fun i=>i≤64) 0 [(6,_),(5,_),(4,_),(2,_),(0,_),(1,_)] ⟨rfl,rfl,rfl,rfl,rfl,rfl,trivial⟩ [0] rfl [] rfl (Nat.zero_le _) ⟨rfl,trivial⟩ (fun i hI=> ?_)
 have hv:=jL (w:=W) hh i
 have hro:ff.length=64:=rfl
 refine ah<|aj<|hy (fun _=>bu rfl rfl)<|ai<|ae<|ah<| ?_
 refine cj rfl (fun hlt=> ?_) (fun hlt=> ?_)
 ·generalize hvd:jJ W h i=v at hv ⊢
  refine aA<|ae<|ah<|aI<|ah<|aj<|hy (fun _=>aa rfl)<|hy (fun _=>ab rfl)<|ai<|al (ρ' :=[(7,_),(17,_),(16,_),(6,_),(5,_),(4,_),(2,_),(0,_),(1,_)]) ⟨rfl,rfl,rfl,rfl,rfl,rfl,rfl,rfl,rfl,trivial⟩<|ae<|ah<|cq [] [(0,some 0),(1,some 0),(2,some 0),(3,some 0),(4,some 0),(5,some 0)] (by kernel_rfl) (by kernel_rfl) rfl 99<|an (bR rfl rfl Tryz.underlying306 br (show((4:Nat):Int)=4 from rfl) (by omega))<|bY (fun m=>aq rfl bC ((m.aN 0 rfl).aw 4 _ (bj (by omega))))<|an (bR rfl rfl Tryz.underlying306 br (show((0:Nat):Int)=0 from rfl) (by omega))<|bY (fun m=>aq rfl bC ((m.aN 0 rfl).aw 0 _ (bj (by omega))))<|an (ab rfl)<|an (ab rfl)<|bk<|al (ρ' :=[(9,_),(8,_),(7,_),(17,_),(16,_),(6,_),(5,_),(4,_),(2,_),(0,_),(1,_)]) ⟨rfl,rfl,rfl,rfl,rfl,rfl,rfl,rfl,rfl,rfl,rfl,trivial⟩<|ae<|ah<|cq [3] [(0,some 1),(1,some 1),(2,some 0),(5,some 1),(6,some 1),(7,some 1),(8,some 1),(9,some 1),(10,some 1),(11,some 1),(12,some 1),(13,some 1),(14,some 1),(16,some 1),(17,some 1),(18,some 1),(20,some 1),(21,some 1),(22,some 1),(3,none),(4,some 1),(15,some 1),(19,some 1),(23,some 1),(24,some 1)] (by kernel_rfl) (by kernel_rfl) rfl 99<|an (bR rfl rfl Tryz.underlying306 br (show((7:Nat):Int)=7 from rfl) (by omega))<|bY (fun m=>aq rfl bC ((m.aN 0 rfl).aw 7 _ (bj (by omega))))<|an (aa rfl)<|an (aa rfl)<|an (bR rfl rfl Tryz.underlying306 br (show((5:Nat):Int)=5 from rfl) (by omega))<|bY (fun m=>aq rfl bC ((m.aN 0 rfl).aw 5 _ (bj (by omega))))<|an (gW rfl rfl)<|an (aa rfl)<|an (Da rfl)<|an (bR rfl rfl Tryz.underlying306 br (show((6:Nat):Int)=6 from rfl) (by omega))<|bY (fun m=>aq rfl bC ((m.aN 0 rfl).aw 6 _ (bj (by omega))))<|an (gW rfl rfl)<|an (cL rfl rfl)<|an (aa rfl)<|an (bR rfl rfl Tryz.underlying354 br rfl (by omega))<|bY (fun m=>aq rfl bC ((show Rd _ 1 _ 64 (dD ff)from m.Fa 1 rfl).cell (j:=i) (bj (by omega))))<|an (aa rfl)<|an (bR rfl rfl Tryz.underlying354 br rfl (by omega))<|bY (fun m=>aq rfl bC ((m.aN 1 rfl).aw i _ (bj (by omega))))<| ?_
  refine dq (au rfl Tryz.call269 (v8 (by decide) (by decide) (by decide) (n1:=6) (n2:=11) (n3:=25)) [] rfl [] rfl ?_)
  rintro _ _ _ ⟨rfl,rfl,rfl⟩
  refine⟨(fun _=>wk [0,0,0,0] [0,1] rfl rfl), ?_⟩
  refine an (cS rfl rfl)<|an (cS rfl rfl)<|an (cS rfl rfl)<| ?_
  generalize hk:ff.getD i 0=k
  refine an (yV (cS rfl rfl) ((rfl:_=Wd (rt v k (W.getD i 0)))))<|an (ab rfl)<|bk<|al (ρ' :=[(10,_),(9,_),(8,_),(7,_),(17,_),(16,_),(6,_),(5,_),(4,_),(2,_),(0,_),(1,_)]) ⟨rfl,rfl,rfl,rfl,rfl,rfl,rfl,rfl,rfl,rfl,rfl,rfl,trivial⟩<|ak (X' :=[_,_,_,_]) (S' :=[_,_]) (fun _ m=>m)<|ae<|ah<|cq [1] [(0,some 0),(2,some 1),(3,some 1),(4,some 1),(5,some 1),(6,some 1),(7,some 1),(8,some 1),(9,some 1),(10,some 1),(11,some 1),(12,some 1),(13,some 1),(14,some 1),(15,some 1),(16,some 1),(1,none),(17,some 1),(18,some 1)] (by kernel_rfl) (by kernel_rfl) rfl 99<|an (aa rfl)<|an (aa rfl)<|an (bR rfl rfl Tryz.underlying306 br (show((1:Nat):Int)=1 from rfl) (by omega))<|bY (fun m=>aq rfl bC ((m.aN 0 rfl).aw 1 _ (bj (by omega))))<|an (gW rfl rfl)<|an (aa rfl)<|an (bR rfl rfl Tryz.underlying306 br (show((2:Nat):Int)=2 from rfl) (by omega))<|bY (fun m=>aq rfl bC ((m.aN 0 rfl).aw 2 _ (bj (by omega))))<|an (gW rfl rfl)<|an (cL rfl rfl)<|an (bR rfl rfl Tryz.underlying306 br (show((1:Nat):Int)=1 from rfl) (by omega))<|bY (fun m=>aq rfl bC ((m.aN 0 rfl).aw 1 _ (bj (by omega))))<|an (bR rfl rfl Tryz.underlying306 br (show((2:Nat):Int)=2 from rfl) (by omega))<|bY (fun m=>aq rfl bC ((m.aN 0 rfl).aw 2 _ (bj (by omega))))<|an (gW rfl rfl)<|an (cL rfl rfl)<| ?_
  refine dq (au rfl Tryz.call269 (v8 (by decide) (by decide) (by decide) (n1:=2) (n2:=13) (n3:=22)) [] rfl [] rfl ?_)
  rintro _ _ _ ⟨rfl,rfl,rfl⟩
  refine⟨(fun _=>wk [0,0,0,0] [0,1] rfl rfl), ?_⟩
  refine an (yV (cS rfl rfl) ((rfl:_=Wd (ru v))))<|an (ab rfl)<|bk<|al (ρ' :=[(11,_),(10,_),(9,_),(8,_),(7,_),(17,_),(16,_),(6,_),(5,_),(4,_),(2,_),(0,_),(1,_)]) ⟨rfl,rfl,rfl,rfl,rfl,rfl,rfl,rfl,rfl,rfl,rfl,rfl,rfl,trivial⟩<|ak (X' :=[_,_,_,_]) (S' :=[_,_]) (fun _ m=>m)<|ae<|aj<|hy (fun _=>aa rfl)<|hy (fun _=>aa rfl)<|hy (fun _=>cS rfl rfl)<|hy (fun _=>bR rfl rfl Tryz.underlying306 br (show((0:Nat):Int)=0 from rfl) (by omega))<|hy (fun m=>aq rfl bC ((m.aN 0 rfl).aw 0 _ (bj (by omega))))<|hy (fun _=>bR rfl rfl Tryz.underlying306 br (show((1:Nat):Int)=1 from rfl) (by omega))<|hy (fun m=>aq rfl bC ((m.aN 0 rfl).aw 1 _ (bj (by omega))))<|hy (fun _=>bR rfl rfl Tryz.underlying306 br (show((2:Nat):Int)=2 from rfl) (by omega))<|hy (fun m=>aq rfl bC ((m.aN 0 rfl).aw 2 _ (bj (by omega))))<|hy (fun _=>bR rfl rfl Tryz.underlying306 br (show((3:Nat):Int)=3 from rfl) (by omega))<|hy (fun m=>aq rfl bC ((m.aN 0 rfl).aw 3 _ (bj (by omega))))<|hy (fun _=>aa rfl)<|hy (fun _=>cS rfl rfl)<|hy (fun _=>bR rfl rfl Tryz.underlying306 br (show((4:Nat):Int)=4 from rfl) (by omega))<|hy (fun m=>aq rfl bC ((m.aN 0 rfl).aw 4 _ (bj (by omega))))<|hy (fun _=>bR rfl rfl Tryz.underlying306 br (show((5:Nat):Int)=5 from rfl) (by omega))<|hy (fun m=>aq rfl bC ((m.aN 0 rfl).aw 5 _ (bj (by omega))))<|hy (fun _=>bR rfl rfl Tryz.underlying306 br (show((6:Nat):Int)=6 from rfl) (by omega))<|hy (fun m=>aq rfl bC ((m.aN 0 rfl).aw 6 _ (bj (by omega))))<|hy (fun _=>yV (sT (n:=8) vA (by kernel_rfl) rfl (by kernel_rfl) rfl (by kernel_rfl) (by kernel_rfl) (qu (l:=[_,_,_,_,_,_,_,_]))) ((rfl:_=Value.agg (dD (G5 v k (W.getD i 0))).toArray)))<| ?_
  refine cB (a6 0 rfl rfl rfl kG rfl fK (by rw[aT,hv]) ?_)
  refine ai<|al (ρ' :=[(11,_),(10,_),(9,_),(8,_),(7,_),(17,_),(16,_),(6,_),(5,_),(4,_),(2,_),(0,_),(1,_)]) ⟨rfl,rfl,rfl,rfl,rfl,rfl,rfl,rfl,rfl,rfl,rfl,rfl,rfl,trivial⟩<|ak (X' :=[_,_,_,_]) (S' :=[_,_]) (fun _ m=>m)<|aM<|ae<|aj<|hy (fun _=>aK rfl rfl (bs (by omega) (by omega)))<|hy (fun _=>aa rfl)<|ai<|al (ρ' :=[(16,_),(11,_),(10,_),(9,_),(8,_),(7,_),(17,_),(6,_),(5,_),(4,_),(2,_),(0,_),(1,_)]) ⟨rfl,rfl,rfl,rfl,rfl,rfl,rfl,rfl,rfl,rfl,rfl,rfl,rfl,trivial⟩<| ?_
  refine ak (fun w m=>m.bq 0 rfl (show _=aE g6 306 (dD (jJ W h (i+1)))from by rw[←hvd,←hk];rfl)) ?_
  refine ct (i+1) ⟨rfl,rfl,rfl,rfl,rfl,rfl,rfl,trivial⟩ [0,0,0,0] rfl [0,1] rfl (by omega) (by omega)
 ·obtain rfl:i=64:=by omega
  generalize hvv:jJ W h 64=v at hv ⊢
  refine bg (fun w m=>m.bq 0 rfl (show _=aE g6 306 (dD (fl v h 0))from by rw[qs])) ?_
  refine bA<|ao<|ao<|aC<|ae<|ah<|ah<|aj<|hy (fun _=>aa rfl)<|ai<|ae<|aI<| ?_
  refine cW (fun j=>8-j) (fun j=>[(86,.int .i64 (j:Nat))]) (fun j=>[aE g6 306 (dD (fl v h j))]) (fun j=>[]) (fun j=>j≤8) 0 [(17,_),(16,_),(6,_),(5,_),(4,_),(2,_),(0,_),(1,_)] ⟨rfl,rfl,rfl,rfl,rfl,rfl,rfl,rfl,trivial⟩ [0] rfl [] rfl (Nat.zero_le _) ⟨rfl,trivial⟩ (fun j hj8=> ?_)
  have hsl:=sS v h j
  refine ah<|aj<|hy (fun _=>bu rfl rfl)<|ai<|ae<|ah<| ?_
  refine cj rfl (fun hj=> ?_) (fun hj=> ?_)
  ·refine aA<|ae<|ah<|aI<|ah<|aj<|hy (fun _=>aa rfl)<|hy (fun _=>ab rfl)<|ai<|al (ρ' :=[(12,_),(87,_),(86,_),(17,_),(16,_),(6,_),(5,_),(4,_),(2,_),(0,_),(1,_)]) ⟨rfl,rfl,rfl,rfl,rfl,rfl,rfl,rfl,rfl,rfl,rfl,trivial⟩<|ae<|cq [8] [(0,some 0),(1,some 0),(2,some 0),(3,some 0),(4,some 0),(5,some 0),(6,some 0),(7,some 0),(8,none)] (by kernel_rfl) (by kernel_rfl) rfl 0<|an (aa rfl)<|an (bR rfl rfl Tryz.underlying306 br rfl (by omega))<|bY (fun m=>aq rfl bC ((m.aN 0 rfl).aw j _ (bj (by omega))))<|an (aa rfl)<|an (bR rfl rfl Tryz.underlying306 br rfl (by omega))<|bY (fun m=>aq rfl bC ((m.aN 3 rfl).aw j _ (bj (by omega))))<|an (yV (cS rfl rfl) ((rfl:_=Wd (v_ (fl v h j) j+v_ h j))))<|an (bR rfl rfl Tryz.underlying306 br rfl (by omega))<| ?_
   refine fS (bX 0 rfl rfl rfl br rfl (by rw[aT];omega) ⟨(fun h=>absurd h (by decide)), ?_⟩)
   refine bk<|al (ρ' :=[(12,_),(87,_),(86,_),(17,_),(16,_),(6,_),(5,_),(4,_),(2,_),(0,_),(1,_)]) ⟨rfl,rfl,rfl,rfl,rfl,rfl,rfl,rfl,rfl,rfl,rfl,trivial⟩<|ak (X' :=[_,_,_,_]) (S' :=[_,_]) (fun _ m=>m)<|aM<|ae<|aj<|hy (fun _=>aK rfl rfl (bs (by omega) (by omega)))<|hy (fun _=>aa rfl)<|ai<|al (ρ' :=[(86,_),(12,_),(87,_),(17,_),(16,_),(6,_),(5,_),(4,_),(2,_),(0,_),(1,_)]) ⟨rfl,rfl,rfl,rfl,rfl,rfl,rfl,rfl,rfl,rfl,rfl,trivial⟩<| ?_
   refine ak (fun w m=>m.bq 0 rfl (show _=aE g6 306 (dD (fl v h (j+1)))from by rw[Nat.zero_add,qR,pU (by omega)])) ?_
   refine ct (j+1) ⟨rfl,rfl,rfl,rfl,rfl,rfl,rfl,rfl,rfl,trivial⟩ [0,0,0,0] rfl [0,1] rfl (by omega) (by omega)
  ·obtain rfl:j=8:=by omega
   have hB:fl v h 8=dT h l:=by rw[dT,hW,hvv]
   rw[hB]
   have hbl:=iC hh l
   refine bA<|ao<|ao<|aC<|ae<|ah<|aj<|hy (fun m=>yV (aQ rfl qf kG (by rw[aT,hbl]) ((m.aN 0 rfl).aw)) ((rfl:_=Value.agg (dD (dT h l)).toArray)))<| ?_
   refine cB (a6 2 rfl rfl rfl kG (by rw[aT,hbl]) fK rfl ?_)
   refine ai<|al (ρ' :=[(87,_),(86,_),(17,_),(16,_),(6,_),(5,_),(4,_),(2,_),(0,_),(1,_)]) ⟨rfl,rfl,rfl,rfl,rfl,rfl,rfl,rfl,rfl,rfl,trivial⟩<|ak (X' :=[_,_,_,_]) (S' :=[_,_]) (fun _ m=>m)<|ae<|aU<| ?_
   exact ep trivial rfl rfl qf kG (by rw[aT,hbl]) (fun m=>(m.aN 0 rfl).aw) [] rfl [] rfl ⟨rfl,rfl,rfl⟩
end Go.Proofs.YtmibdabdlgmafaaGreatDoor
end
section
set_option maxRecDepth 100000
namespace Go.Proofs.YtmibdabdlgmafaaGreatDoor
open Go.Eng Go.Hx Go.ChangeShapes Go.WideShapes Go.ChangeAt Go.WideMaps Go.WideElems Go.RowKit
theorem D8 : Tryz.prog.globalNamed "lighterage/sha.roots" = some 1 := by kernel_rfl
theorem DM:(Tryz.prog.globals[1]?).map (·.type)=some 354:=by kernel_rfl
theorem uL:(Rows.laid_lighterage_sha_roots:DataW Unit)= .agg (ff.map fun x=>.lit (.int .u32 (x.toNat:Int))):=by kernel_rfl
theorem xY (os : Os) (args : Array Value) : laidMetH Tryz.prog [("lighterage/sha.roots", Rows.laid_lighterage_sha_roots)] ((World.doorLaid Tryz.prog 400 os).forCall (fun _ _ => 0) ⟨#[], args, []⟩).memory :=
  laidMetH_of_parts3 (fuel:=8) (laidMet_of_run' 8 (by kernel_rfl) (by kernel_rfl)) (by kernel_rfl) (by kernel_rfl)
theorem pK {W : World} (h : laidMetH Tryz.prog [("lighterage/sha.roots", Rows.laid_lighterage_sha_roots)] W) : dI.holds W := by
  rw[MakeChecks.laidMetH_plain _ _ _ (by kernel_rfl)]at h
  obtain⟨ps,⟨g0,t0,cs0,f0,p0,q0,hg0,ht0,hv0,hd0,_,_⟩,_,_⟩:=h
  obtain rfl:=Option.some.inj (D8.symm.trans hg0)
  obtain rfl:=Option.some.inj (DM.symm.trans ht0)
  rw[uL]at hd0
  obtain⟨xs,m1,rfl,hx1,hlen,hn,hel⟩:=DataW.trod_array Tryz.underlying354 hd0
  have c3:Tryz.prog.cellsOf 166=1:=by kernel_rfl
  simp only[Prod.mk.injEq,DataW.agg.injEq]at hx1
  refine⟨by rw[aT];rfl,fun _=>by simp,fun j u hu=> ?_⟩
  have hj:j<64:=by
    obtain⟨h1,_⟩:=List.getElem?_eq_some_iff.1 hu
    rw[aT]at h1
    exact h1
  have h0:=hel j hj
  have hxj:(xs.map (·.1))[j]? =(ff.map fun x=>DataW.lit (Lit.int .u32 (x.toNat:Int)))[j]? :=by rw[←hx1.1]
  obtain⟨y,hy⟩:∃y,xs[j]? =some y:=⟨_,List.getElem?_eq_getElem (by omega)⟩
  rw[hy]at h0
  obtain⟨n,e1,e2,_⟩:=DataW.trod_int Tryz.underlying166 h0
  rw[List.getElem?_map,hy,List.getElem?_map]at hxj
  rw[dD,List.getElem?_map]at hu
  cases hr:ff[j]? with
  |none=>rw[hr]at hu;cases hu
  |some r=>
    rw[hr]at hu hxj
    rw[e2]at hxj
    have hn2:n=(r.toNat:Int):=by simpa using hxj
    have hu2:u= .int .u32 (r.toNat:Int):=by simpa using hu.symm
    have h5:=World.var?_cell hg0 hv0 j
    rw[c3,Nat.mul_one]at e1
    have h6:cs0[j]? =some (.int .u32 n):=by
      have h7:(List.take 1 (List.drop j cs0.toList))[0]? =some (.int .u32 n):=by rw[e1];rfl
      rw[List.getElem?_take,if_pos (by decide),List.getElem?_drop,Nat.add_zero]at h7
      simpa using h7
    show W.cell? ((Option.getD (some _) d0).add j)=some u
    rw[hu2,←hn2,←h6,←h5]
    have e:(⟨1,0,none⟩:Addr).add j=⟨1,j,none⟩:=by simp[Addr.add];omega
    exact congrArg W.cell? e
end Go.Proofs.YtmibdabdlgmafaaGreatDoor
end
section
set_option maxRecDepth 20000
namespace Go.Proofs.YtmibdabdlgmafaaGreatDoor
open Go.Eng Go.Hx
theorem tH{l:List UInt8}{c:UInt8}:b6 Tryz.prog 267 [.string (strOf l),B8 c] [] [] (fun v_ X_ S_=>v_=(.int .i64 (Lib.indexByte l c))∧X_=[]∧S_=[]):=by
 refine aJ (N:=8) Tryz.func267 rfl rfl (by simp) fun b=> ?_
 refine ah<|aj<|hy (fun _=>ab rfl)<|ai<|ae<|ah<|aj<|hy (fun _=>aa rfl)<|hy (fun _=>aa rfl)<| ?_
 refine hx (oK (fun m=>CF rfl Tryz.func295 (by kernel_rfl) (by kernel_rfl) (by kernel_rfl) (show _=some Extern.BytealgIndexByte.indexByte by kernel_rfl) (Lib.run_indexByteString _ _ _)) ?_)
 refine hy (fun _=>ab rfl)<|ai<|al (ρ' :=[(4,_),(0,_),(1,_)]) ⟨rfl,rfl,rfl,trivial⟩<|ae<|aU<| ?_
 exact aZ trivial rfl rfl [] rfl [] rfl ⟨(by congr 2;simp),rfl,rfl⟩
theorem xk{l:List UInt8}{c:UInt8}:b6 Tryz.prog 274 [.string (strOf l),.string (strOf [c])] [] [] (fun v_ X_ S_=>v_=(.int .i64 (Lib.indexByte l c))∧X_=[]∧S_=[]):=by
 refine aJ (N:=143) Tryz.func274 rfl rfl (by simp) fun b=> ?_
 refine ah<|aj<|hy (fun _=>ab rfl)<|ai<|ae<|ah<|aj<|hy (fun _=>aa rfl)<|hy (fun _=>yV (fi rfl Tryz.underlying9) ((rfl:_=Value.int .i64 1)))<|hy (fun _=>ab rfl)<|ai<|al (ρ' :=[(5,_),(4,_),(0,_),(1,_)]) ⟨rfl,rfl,rfl,rfl,trivial⟩<|ae<|ah<|aI<|ah<|aj<|hy (fun _=>aa rfl)<|hy (fun _=>cn rfl rfl)<|hy (fun _=>aa rfl)<| ?_
 refine cm (o:=_) rfl rfl rfl (fun _=>aa rfl)<|cm (o:=_) rfl rfl rfl (fun _=>aa rfl)<|cm (o:=_) rfl rfl rfl (fun _=>zK rfl rfl)<|hy (fun _=>bo rfl rfl)<|hy (fun _=>ab rfl)<|ai<|al (ρ' :=[(16,_),(5,_),(4,_),(0,_),(1,_)]) ⟨rfl,rfl,rfl,rfl,rfl,trivial⟩<|ae<| ?_
 refine cj rfl (fun h=> ?_) (fun h=> ?_)
 ·obtain rfl:=cF.1 h
  refine ah<|aj<|hy (fun _=>ab rfl)<|ai<|ae<|aU<|a8<|ay<| ?_
  exact aZ trivial rfl rfl [] rfl [] rfl ⟨(by simp[Lib.indexByte]),rfl,rfl⟩
 ·refine ah<|aj<|hy (fun _=>aa rfl)<|hy (fun _=>cn rfl rfl)<|hy (fun _=>ab rfl)<|ai<|al (ρ' :=[(24,_),(16,_),(5,_),(4,_),(0,_),(1,_)]) ⟨rfl,rfl,rfl,rfl,rfl,rfl,trivial⟩<|ae<| ?_
  refine gj rfl (rfl) ?_
  refine ah<|aj<|hy (fun _=>aa rfl)<|hy (fun _=>aa rfl)<|hy (fun _=>yV (iR rfl rfl Tryz.underlying9 rfl (tG (by simp))) ((rfl:_=B8 c)))<| ?_
  refine hx (au rfl Tryz.call267 (tH) [] rfl [] rfl ?_)
  rintro _ _ _ ⟨rfl,rfl,rfl⟩
  refine hy (fun _=>ab rfl)<|ai<|al (ρ' :=[(4,_),(24,_),(16,_),(5,_),(0,_),(1,_)]) ⟨rfl,rfl,rfl,rfl,rfl,rfl,trivial⟩<|ak (X' :=[]) (S' :=[]) (fun _ m=>m)<|ae<|aU<|a8<|ay<| ?_
  exact aZ trivial rfl rfl [] rfl [] rfl ⟨rfl,rfl,rfl⟩
theorem oA{l:List UInt8}{c:UInt8}:b6 Tryz.prog 233 [.string (strOf l),.string (strOf [c])] [] [] (fun v_ X_ S_=>v_=(.int .i64 (Lib.indexByte l c))∧X_=[]∧S_=[]):=by
 refine aJ (N:=8) Tryz.func233 rfl rfl (by simp) fun b=> ?_
 refine ah<|aj<|hy (fun _=>ab rfl)<|ai<|ae<|ah<|aj<|hy (fun _=>aa rfl)<|hy (fun _=>aa rfl)<| ?_
 refine hx (au rfl Tryz.call274 (xk) [] rfl [] rfl ?_)
 rintro _ _ _ ⟨rfl,rfl,rfl⟩
 refine hy (fun _=>ab rfl)<|ai<|al (ρ' :=[(4,_),(0,_),(1,_)]) ⟨rfl,rfl,rfl,trivial⟩<|ak (X' :=[]) (S' :=[]) (fun _ m=>m)<|ae<|aU<| ?_
 exact aZ trivial rfl rfl [] rfl [] rfl ⟨rfl,rfl,rfl⟩
theorem uV{l:List UInt8}{c:UInt8}:b6 Tryz.prog 184 [.string (strOf l),.string (strOf [c])] [] [] (fun v_ X_ S_=>v_=(.bool (decide (c∈l)))∧X_=[]∧S_=[]):=by
 refine aJ (N:=9) Tryz.func184 rfl rfl (by simp) fun b=> ?_
 refine ah<|aj<|hy (fun _=>ab rfl)<|ai<|ae<|ah<|aj<|hy (fun _=>aa rfl)<|hy (fun _=>aa rfl)<| ?_
 refine hx (au rfl Tryz.call233 (oA) [] rfl [] rfl ?_)
 rintro _ _ _ ⟨rfl,rfl,rfl⟩
 refine hy (fun _=>ee rfl rfl)<|hy (fun _=>ab rfl)<|ai<|al (ρ' :=[(4,_),(0,_),(1,_)]) ⟨rfl,rfl,rfl,trivial⟩<|ak (X' :=[]) (S' :=[]) (fun _ m=>m)<|ae<|aU<| ?_
 exact aZ trivial rfl rfl [] rfl [] rfl ⟨(by congr 1;rw[←Lib.contains_iff_indexByte];simp),rfl,rfl⟩
def fp(p:List UInt8):Prop:=p≠ []∧p.length≤96∧¬(0:UInt8)∈p
instance(p:List UInt8):Decidable (fp p):=by unfold fp;infer_instance
theorem vc(p:List UInt8):strOf p≠⟨#[]⟩↔p≠ []:=by
 rw[show(⟨#[]⟩:ByteArray)=strOf []from rfl]
 simp only[ne_eq,cF]
theorem Ab{p:List UInt8}:b6 Tryz.prog 115 [.string (strOf p)] [] [] (fun v_ X_ S_=>v_=(.bool (decide (fp p)))∧X_=[]∧S_=[]):=by
 have hsz:=dR p
 refine aJ (N:=15) Tryz.func115 rfl rfl (by simp) fun b=> ?_
 refine ah<|aj<|hy (fun _=>ab rfl)<|ai<|ae<|ah<|aj<|hy (fun _=>aa rfl)<|hy (fun _=>oU rfl rfl)<|hy (fun _=>aa rfl)<| ?_
 refine fD 5 rfl (fun h1=> ?_) (fun h1=> ?_)
 ·have h1' :=(vc p).1 h1
  refine cm (o:=_) rfl rfl rfl (fun _=>aa rfl)<|cm (o:=_) rfl rfl rfl (fun _=>fi rfl Tryz.underlying9)<|cm (o:=_) rfl rfl rfl (fun _=>pA rfl rfl)<|hy (fun _=>bT rfl rfl)<|hy (fun _=>aa rfl)<| ?_
  refine fD 10 rfl (fun h2=> ?_) (fun h2=> ?_)
  ·have h2' :p.length≤96:=by omega
   refine cm (o:=_) rfl rfl rfl (fun _=>aa rfl)<| ?_
   refine C8 (o:=_) rfl rfl rfl (au rfl Tryz.call184 (uV) [] rfl [] rfl ?_)
   rintro _ _ _ ⟨rfl,rfl,rfl⟩
   refine cm (o:=_) rfl rfl rfl (fun _=>eE rfl)<|hy (fun _=>bT rfl rfl)<|hy (fun _=>ab rfl)<|ai<|al (ρ' :=[(2,_),(0,_)]) ⟨rfl,rfl,trivial⟩<|ak (X' :=[]) (S' :=[]) (fun _ m=>m)<|ae<|aU<| ?_
   exact aZ trivial rfl rfl [] rfl [] rfl ⟨(by congr 1;simp only[fp];simp[h1',h2']),rfl,rfl⟩
  ·have h2' :¬p.length≤96:=by omega
   refine ba rfl rfl rfl (by decide)<|ba rfl rfl rfl (by decide)<|ba rfl rfl rfl (by decide)<|hy (fun _=>bo rfl rfl)<|hy (fun _=>ab rfl)<|ai<|al (ρ' :=[(2,_),(0,_)]) ⟨rfl,rfl,trivial⟩<|ae<|aU<| ?_
   exact aZ trivial rfl rfl [] rfl [] rfl ⟨(by congr 1;simp only[fp];simp[h2']),rfl,rfl⟩
 ·have h1' :¬p≠ []:=fun h=>h1 ((vc p).2 h)
  refine ba rfl rfl rfl (by decide)<|ba rfl rfl rfl (by decide)<|ba rfl rfl rfl (by decide)<|hy (fun _=>bo rfl rfl)<|hy (fun _=>aa rfl)<| ?_
  refine ba rfl rfl rfl (by decide)<|ba rfl rfl rfl (by decide)<|ba rfl rfl rfl (by decide)<|hy (fun _=>bo rfl rfl)<|hy (fun _=>ab rfl)<|ai<|al (ρ' :=[(2,_),(0,_)]) ⟨rfl,rfl,trivial⟩<|ae<|aU<| ?_
  exact aZ trivial rfl rfl [] rfl [] rfl ⟨(by congr 1;simp only[fp];simp[h1']),rfl,rfl⟩
end Go.Proofs.YtmibdabdlgmafaaGreatDoor
end
section
set_option maxRecDepth 20000
namespace Go.Proofs.YtmibdabdlgmafaaGreatDoor
open Go.Eng Go.Hx
abbrev dC:=List (List UInt8×aX)
def ek(l:dC):List (List UInt8×Value):=l.map fun x=>(x.1,x.2.val)
def lp(l:dC):Nat:=(l.map fun x=>x.2.n).sum
theorem lW:∀(l:dC) (p:List UInt8),bz (ek l) p=(bz l p).map aX.val
 | [],p=>rfl
 |(k,r)::q,p=>by
  have:=lW q p
  simp only[ek,List.map_cons,bz]at this ⊢
  split <;> simp_all
theorem oP:∀(l:dC) (p:List UInt8) (r:aX),cw (ek l) p r.val=ek (cw l p r)
 | [],p,r=>rfl
 |(k,u)::q,p,r=>by
  have:=oP q p r
  simp only[ek,List.map_cons,cw]at this ⊢
  split <;> simp_all
theorem s3:∀(l:dC) (p:List UInt8),eK (ek l) p=ek (eK l p)
 | [],p=>rfl
 |(k,u)::q,p=>by
  have:=s3 q p
  simp only[ek,List.map_cons,eK]at this ⊢
  split <;> simp_all
theorem BV{l:dC}{j:Nat}{p:List UInt8×Value}(h:(ek l)[j]? =some p):∃r,l[j]? =some (p.1,r)∧p.2=r.val:=by
 simp only[ek,List.getElem?_map]at h
 cases hl:l[j]? with
 |none=>rw[hl]at h;cases h
 |some x=>
  rw[hl]at h
  simp only[Option.map_some,Option.some.injEq]at h
  subst h
  exact⟨x.2,rfl,rfl⟩
theorem ui(l:dC)(j:Nat):(ek l).eraseIdx j=ek (l.eraseIdx j):=(map_eraseIdx _ l j).symm
theorem qj:∀{l:dC} {j:Nat} {x:List UInt8×aX},l[j]? =some x→lp (l.eraseIdx j)+x.2.n=lp l
 | [],j,x,h=>by simp at h
 |a::q,0,x,h=>by
  simp only[List.getElem?_cons_zero,Option.some.injEq]at h
  subst h
  simp[lp];omega
 |a::q,j+1,x,h=>by
  simp only[List.getElem?_cons_succ]at h
  have:=qj h
  simp only[lp,List.eraseIdx_cons_succ,List.map_cons,List.sum_cons]at this ⊢
  omega
inductive iK
 |written (p:List UInt8) (r:aX)
 |renamed (a b:List UInt8)
 |removed (p:List UInt8)
def iK.row:iK→Option aX
 | .written _ r=>some r
 |_=>none
def iK.val:iK→Value
 | .written p r=>.iface 189 (.agg [SV p,r.val].toArray)
 | .renamed a b=>.iface 257 (.agg [SV a,SV b].toArray)
 | .removed p=>.iface 237 (.agg [SV p].toArray)
structure cR where
 room:Int
 gs:Nat
 gl:Nat
 seen:dC
 c9:dC
 waits:List iK
 wA:Option Addr
 wc:Nat
 ck:Int
def rowsOf(st:cR):List aX:=st.seen.map (·.2)++st.c9.map (·.2)++st.waits.filterMap iK.row
def ll(st:cR):List Value:=[.int .i64 st.room,.map (some st.gs),.map (some st.gl),.slice st.wA st.waits.length st.wc,.int .i64 st.ck]
abbrev bO(g:Nat)(st:cR):bc:=eh [aE g 177 (ll st),dw SV st.gs (ek st.seen),dw SV st.gl (ek st.c9),aG 232 1 (.slice st.wA st.waits.length st.wc) st.waits.length (st.waits.map iK.val),dp (rowsOf st)]
def mf(n:Int)(gs gl:Nat):cR:=⟨n,gs,gl,[],[],[],none,0,-1⟩
theorem HG{n:Int}(h1:1≤n)(h2:n≤1048576):b6 Tryz.prog 24 [.int .i64 n] [] [] (fun v_ X_ S_=>∃g gs gl,v_=(.tuple #[.pointer (some ⟨g,0,none⟩),.int .i64 0])∧X_=[bO g (mf n gs gl)]∧S_=[]):=by
 refine aJ (N:=15) Tryz.func24 rfl rfl (by simp) fun b=> ?_
 refine ah<|aj<|hy (fun _=>ab rfl)<|hy (fun _=>ab rfl)<|ai<|ae<|ah<|ah<|aj<|hy (fun _=>aa rfl)<|hy (fun _=>bu rfl rfl)<|hy (fun _=>aa rfl)<| ?_
 refine fD 6 rfl (fun h=> ?_) (fun h=> ?_)
 ·exact absurd h (by omega)
 ·refine cm (o:=_) rfl rfl rfl (fun _=>aa rfl)<|cm (o:=_) rfl rfl rfl (fun _=>cG rfl rfl)<|hy (fun _=>bo rfl rfl)<|ai<|al (ρ' :=[(9,_),(3,_),(2,_),(0,_)]) ⟨rfl,rfl,rfl,rfl,trivial⟩<|ae<| ?_
  refine cZ rfl (decide_eq_false (by omega)) ?_
  refine aA<|ae<|ah<|aj<|hy (fun _=>aa rfl)<| ?_
  refine hx (ly SV (fun g11=> ?_))
  refine hx (ly SV (fun g12=> ?_))
  refine hy (fun _=>yV (bD Gn rfl rfl (by kernel_rfl) (.cons (o:=0) (sz:=1) (by kernel_rfl) rfl rfl (Nat.le_of_ble_eq_true rfl) (.cons (o:=1) (sz:=1) (by kernel_rfl) rfl rfl (Nat.le_of_ble_eq_true rfl) (.cons (o:=2) (sz:=1) (by kernel_rfl) rfl rfl (Nat.le_of_ble_eq_true rfl) (.cons (o:=4) (sz:=1) (by kernel_rfl) rfl rfl (Nat.le_of_ble_eq_true rfl) .nil))))) ((rfl:_=Value.agg (ll (mf n g11 g12)).toArray)))<| ?_
  refine hx (bn rfl (fun g14=> ?_))
  refine hy (fun _=>ab rfl)<|hy (fun _=>ab rfl)<|ai<|al (ρ' :=[(3,_),(2,_),(9,_),(0,_)]) ⟨rfl,rfl,rfl,rfl,trivial⟩<|ak (X' :=[_,_,_]) (S' :=[]) (fun _ m=>m)<|ae<|aU<| ?_
  refine ak (fun w m=>m.cI (r' :=aG 232 1 (.slice none 0 0) 0 []) (.refl _ _) (Own.nil _ _ _ _) (fun k hk=>hk.elim)) ?_
  refine ak (fun w m=>m.xG) ?_
  refine ak (X' :=bO g14 (mf n g11 g12)::_) (fun w m=>(m.perm (ar [2,3,2,1,0] _ [_,_,_,_,_] _ rfl)).pack) ?_
  exact dh trivial rfl rfl rfl [0] rfl [] rfl ⟨_,_,_,rfl,rfl,rfl⟩
theorem Hm{g:Nat}{st:cR}:b6 Tryz.prog 87 [.pointer (some ⟨g,0,none⟩)] [bO g st] [] (fun v_ X_ S_=>v_=(.bool (decide (st.ck≠0)))∧X_=[bO g st]∧S_=[]):=by
 refine aJ (N:=8) Tryz.func87 rfl rfl (by simp) fun b=> ?_
 refine bg (fun w m=>(m.perm (ar [0] _ [_] _ rfl)).unpack) ?_
 refine ah<|aj<|hy (fun _=>ab rfl)<|ai<|ae<|ah<|aj<|hy (fun _=>aa rfl)<|hy (fun _=>aL rfl)<|hy (fun _=>aD rfl oa (by decide))<|hy (fun m=>aq rfl dr (ax (m.aN 0 rfl) rfl))<|hy (fun _=>dx rfl rfl)<|hy (fun _=>ab rfl)<|ai<|al (ρ' :=[(2,_),(0,_)]) ⟨rfl,rfl,trivial⟩<|ae<|aU<| ?_
 refine ak (X' :=bO g st::_) (fun w m=>(m.perm (ar [0,0,0,0,0] _ [_,_,_,_,_] _ rfl)).pack) ?_
 exact aZ trivial rfl rfl [0] rfl [] rfl ⟨rfl,rfl,rfl⟩
def cR.eY(st:cR):cR:={st with ck:=if 0<st.ck then st.ck-1 else st.ck}
theorem uG{g:Nat}{st:cR}(hp:st.ck≤1000000000000):b6 Tryz.prog 181 [.pointer (some ⟨g,0,none⟩)] [bO g st] [] (fun v_ X_ S_=>v_=(.tuple #[])∧X_=[bO g st.eY]∧S_=[]):=by
 refine aJ (N:=14) Tryz.func181 rfl rfl (by simp) fun b=> ?_
 refine bg (fun w m=>(m.perm (ar [0] _ [_] _ rfl)).unpack) ?_
 refine ah<|aj<|hy (fun _=>aa rfl)<|hy (fun _=>aL rfl)<|hy (fun _=>aD rfl oa (by decide))<|hy (fun m=>aq rfl dr (ax (m.aN 0 rfl) rfl))<|hy (fun _=>cG rfl rfl)<|ai<|al (ρ' :=[(6,_),(0,_)]) ⟨rfl,rfl,trivial⟩<|ae<| ?_
 refine cj rfl (fun h=> ?_) (fun h=> ?_)
 ·have e:st.eY={st with ck:=st.ck-1}:=by simp only[cR.eY,if_pos h]
  rw[e]
  refine aj<|hy (fun _=>aa rfl)<|hy (fun _=>aL rfl)<|hy (fun _=>aD rfl oa (by decide))<|hy (fun m=>aq rfl dr (ax (m.aN 0 rfl) rfl))<|hy (fun _=>cd rfl rfl (bs (by omega) (by omega)))<|hy (fun _=>aL rfl)<|hy (fun _=>aD rfl oa (by decide))<| ?_
  refine cB (bX 0 rfl rfl rfl tR rfl (by first|exact Nat.le_of_ble_eq_true rfl|simp) ?_)
  refine ai<|al (ρ' :=[(6,_),(0,_)]) ⟨rfl,rfl,trivial⟩<|ak (X' :=[_,_,_,_,_]) (S' :=[]) (fun _ m=>m)<| ?_
  refine ak (X' :=bO g {st with ck:=st.ck-1}::_) (fun w m=>(m.perm (ar [0,0,0,0,0] _ [_,_,_,_,_] _ rfl)).pack) ?_
  exact fj trivial rfl [0] rfl [] rfl ⟨rfl,rfl,rfl⟩
 ·have e:st.eY=st:=by simp only[cR.eY,if_neg h]
  rw[e]
  refine aA<| ?_
  refine ak (X' :=bO g st::_) (fun w m=>(m.perm (ar [0,0,0,0,0] _ [_,_,_,_,_] _ rfl)).pack) ?_
  exact fj trivial rfl [0] rfl [] rfl ⟨rfl,rfl,rfl⟩
theorem Fi{g:Nat}{st:cR}(ht:lp st.seen≤1000000000000):b6 Tryz.prog 88 [.pointer (some ⟨g,0,none⟩)] [bO g st] [] (fun v_ X_ S_=>v_=(.int .i64 (lp st.seen:Nat))∧X_=[bO g st]∧S_=[]):=by
 refine aJ (N:=20) Tryz.func88 rfl rfl (by simp) fun b=> ?_
 refine bg (fun w m=>(m.perm (ar [0] _ [_] _ rfl)).unpack) ?_
 refine ah<|aj<|hy (fun _=>ab rfl)<|ai<|ae<|ah<|aj<|hy (fun _=>ab rfl)<|ai<|ae<|ah<|ah<|aj<|hy (fun _=>aa rfl)<|hy (fun _=>aL rfl)<|hy (fun _=>aD rfl jo (by decide))<|hy (fun m=>aq rfl oF (ax (m.aN 0 rfl) rfl))<| ?_
 refine hx (xR 1 rfl rfl Tryz.underlying174 (fun r10=> ?_))
 refine ai<|al (ρ' :=[(10,_),(3,_),(2,_),(0,_)]) ⟨rfl,rfl,rfl,rfl,trivial⟩<|ak (X' :=[_,_,_,_,_]) (S' :=[]) (fun _ m=>m)<|ae<|aI<| ?_
 refine gg (fun left n cur=>left.length) (fun left n cur=>[(3,.int .i64 (n:Nat))]) (fun left n cur=>[n0 SV r10 st.gs (ek st.seen) (ek left) cur]) (fun left n cur=>[]) (fun left n cur=>n+lp left=lp st.seen) st.seen 0 none [(10,_),(2,_),(0,_)] ⟨rfl,rfl,rfl,trivial⟩ [0] rfl [] rfl (Nat.zero_add _) ⟨rfl,trivial⟩ (fun left n cur hI=> ?_)
 refine ah<|aj<| ?_
 refine hx (AH 0 rfl rfl (fun h0=> ?_) (fun j p hp=> ?_))
 ·obtain rfl:left=[]:=List.map_eq_nil_iff.1 h0
  have hn:n=lp st.seen:=by simpa[lp]using hI
  subst hn
  refine hy (fun _=>aH rfl rfl)<|ai<|al (ρ' :=[(12,_),(3,_),(10,_),(2,_),(0,_)]) ⟨rfl,rfl,rfl,rfl,rfl,trivial⟩<|ae<|ah<| ?_
  refine cZ rfl (rfl) ?_
  refine bA<|ao<|ao<|aC<|ae<|ah<|aj<|hy (fun _=>aa rfl)<|hy (fun _=>ab rfl)<|ai<|al (ρ' :=[(2,_),(12,_),(3,_),(10,_),(0,_)]) ⟨rfl,rfl,rfl,rfl,rfl,trivial⟩<|ae<|aU<| ?_
  refine ak (fun w m=>m.Du 0 rfl) ?_
  refine ak (X' :=bO g st::_) (fun w m=>(m.perm (ar [1,0,0,0,0] _ [_,_,_,_,_] _ rfl)).pack) ?_
  exact aZ trivial rfl rfl [0] rfl [] rfl ⟨rfl,rfl,rfl⟩
 ·obtain⟨k,v⟩:=p
  obtain⟨r,hr,e⟩:=BV hp
  obtain rfl:v=r.val:=e
  have ht:=qj hr
  have hlt:=(List.getElem?_eq_some_iff.1 hr).1
  simp only at ht
  refine hy (fun _=>aH rfl rfl)<|ai<|al (ρ' :=[(12,_),(3,_),(10,_),(2,_),(0,_)]) ⟨rfl,rfl,rfl,rfl,rfl,trivial⟩<|ae<|ah<| ?_
  refine gj rfl (rfl) ?_
  refine aA<|ae<|aI<|ah<|aj<|hy (fun m=>yc rfl (m.GW 0 rfl))<|hy (fun _=>yV (aH rfl rfl) ((rfl:_=Value.slice r.A r.n r.c)))<|hy (fun _=>ab rfl)<|ai<|al (ρ' :=[(5,_),(12,_),(3,_),(10,_),(2,_),(0,_)]) ⟨rfl,rfl,rfl,rfl,rfl,rfl,trivial⟩<|ae<|aj<|hy (fun _=>aa rfl)<|hy (fun _=>aa rfl)<|hy (fun _=>aW rfl Tryz.underlying27)<|hy (fun _=>aK rfl rfl (bs (by omega) (by omega)))<|hy (fun _=>ab rfl)<|ai<|al (ρ' :=[(3,_),(5,_),(12,_),(10,_),(2,_),(0,_)]) ⟨rfl,rfl,rfl,rfl,rfl,rfl,trivial⟩<|aM<| ?_
  refine ak (fun w m=>m.bq 0 rfl (show _=n0 SV r10 st.gs (ek st.seen) (ek (left.eraseIdx j)) (some (k,r.val))from congrArg (fun q=>n0 SV r10 st.gs (ek st.seen) q (some (k,r.val))) (ui left j))) ?_
  refine gv (left.eraseIdx j) (n+r.n) (some (k,r.val)) ⟨rfl,rfl,rfl,rfl,trivial⟩ [0,0,0,0,0] rfl [] rfl (by omega) (by rw[List.length_eraseIdx,if_pos hlt];omega)
theorem oH{l:dC}(p:List UInt8):(bz l p=none∧bz (ek l) p=none)∨∃r,bz l p=some r∧bz (ek l) p=some r.val:=by
 rw[lW]
 cases bz l p with
 |none=>exact .inl ⟨rfl,rfl⟩
 |some r=>exact .inr ⟨r,rfl,rfl⟩
def eb(st:cR)(p:List UInt8):Int:=if st.ck=0 then 6 else if bz st.seen p=none then 4 else 0
theorem Aj{g:Nat}{st:cR}{p:List UInt8}:b6 Tryz.prog 158 [.pointer (some ⟨g,0,none⟩),.string (strOf p)] [bO g st] [] (fun v_ X_ S_=>v_=(.int .i64 (eb st p))∧X_=[bO g st]∧S_=[]):=by
 have hf:eb st p=eb st p:=rfl
 refine aJ (N:=23) Tryz.func158 rfl rfl (by simp) fun b=> ?_
 refine bg (fun w m=>(m.perm (ar [0] _ [_] _ rfl)).unpack) ?_
 have hh:(bz (ek st.seen) p).isSome=decide (bz st.seen p≠none):=by
  rcases oH (l:=st.seen) p with⟨h1,h2⟩|⟨r,h1,h2⟩ <;> simp[h1,h2]
 refine ah<|aj<|hy (fun _=>ab rfl)<|ai<|ae<|ah<|aj<|hy (fun _=>aa rfl)<|hy (fun _=>aL rfl)<|hy (fun _=>aD rfl jo (by decide))<|hy (fun m=>aq rfl oF (ax (m.aN 0 rfl) rfl))<|hy (fun _=>aa rfl)<|hy (fun m=>fM (enc:=SV) rfl rfl Tryz.underlying174 jT (jI Tryz.underlying9) (m.lP 1 rfl))<|hy (fun _=>aa rfl)<|hy (fun _=>aH rfl rfl)<|hy (fun _=>yV (aH rfl rfl) ((show Value.bool (bz (ek st.seen) p).isSome= .bool (decide (bz st.seen p≠none)) by rw[hh])))<|hy (fun _=>ab rfl)<|hy (fun _=>ab rfl)<|ai<|al (ρ' :=[(6,_),(4,_),(0,_),(1,_)]) ⟨rfl,rfl,rfl,rfl,trivial⟩<|ae<|ah<|aI<|ah<|aj<| ?_
 refine aF (X' :=bO g st::_) (fun w m=>(m.perm (ar [0,0,0,0,0] _ [_,_,_,_,_] _ rfl)).pack) ?_
 refine hy (fun _=>aa rfl)<| ?_
 refine hx (au rfl Tryz.call87 (Hm) [0] rfl [] rfl ?_)
 rintro _ _ _ ⟨rfl,rfl,rfl⟩
 refine hy (fun _=>eE rfl)<|hy (fun _=>ab rfl)<|ai<|al (ρ' :=[(16,_),(6,_),(4,_),(0,_),(1,_)]) ⟨rfl,rfl,rfl,rfl,rfl,trivial⟩<|ak (X' :=[_]) (S' :=[]) (fun _ m=>m)<|ae<| ?_
 refine cj rfl (fun h1=> ?_) (fun h1=> ?_)
 ·refine ah<|aj<|hy (fun _=>ab rfl)<|ai<|ae<|aU<|a8<|ay<| ?_
  exact aZ trivial rfl rfl [0] rfl [] rfl ⟨(by rw[eb,if_pos (by omega)]),rfl,rfl⟩
 ·refine ah<|aj<|hy (fun _=>aa rfl)<|hy (fun _=>eE rfl)<|hy (fun _=>ab rfl)<|ai<|al (ρ' :=[(20,_),(16,_),(6,_),(4,_),(0,_),(1,_)]) ⟨rfl,rfl,rfl,rfl,rfl,rfl,trivial⟩<|ae<| ?_
  refine cj rfl (fun h2=> ?_) (fun h2=> ?_)
  ·refine ah<|aj<|hy (fun _=>ab rfl)<|ai<|ae<|aU<|a8<|ay<| ?_
   exact aZ trivial rfl rfl [0] rfl [] rfl ⟨(by rw[eb,if_neg (by omega),if_pos (Decidable.not_not.1 h2)]),rfl,rfl⟩
  ·refine aA<|aM<|ae<|ah<|aj<|hy (fun _=>ab rfl)<|ai<|ae<|aU<| ?_
   exact aZ trivial rfl rfl [0] rfl [] rfl ⟨(by rw[eb,if_neg (by omega),if_neg (fun e=>h2 (fun h=>h e))]),rfl,rfl⟩
end Go.Proofs.YtmibdabdlgmafaaGreatDoor
end
section
set_option maxRecDepth 20000
namespace Go.Proofs.YtmibdabdlgmafaaGreatDoor
open Go.Eng Go.Hx
theorem tK{st:cR}{p:List UInt8}{r:aX}(h:bz st.seen p=some r):r∈rowsOf st:=by
 unfold rowsOf
 refine List.mem_append_left _ (List.mem_append_left _ ?_)
 exact List.mem_map.2 ⟨_,iU h,rfl⟩
def cA(st:cR)(p:List UInt8):List UInt8:=if eb st p=0 then((bz st.seen p).map (·.l)).getD []else []
theorem th{st:cR}{p:List UInt8}(h:eb st p≠0):cA st p=[]:=by rw[cA,if_neg h]
theorem sh{st:cR}{p:List UInt8}{r:aX}(h:eb st p=0)(hr:bz st.seen p=some r):cA st p=r.l:=by rw[cA,if_pos h,hr];rfl
theorem tn{st:cR}{p:List UInt8}(h:eb st p=0):∃r,bz st.seen p=some r:=by
 unfold eb at h
 split at h
 ·omega
 ·split at h
  ·omega
  ·rename_i h2
   cases hq:bz st.seen p with
   |none=>exact absurd hq h2
   |some r=>exact⟨r,rfl⟩
def Small(st:cR):Prop:=∀r∈rowsOf st,r.n≤1000000000
theorem FE{g:Nat}{st:cR}{p:List UInt8}(hs:Small st):b6 Tryz.prog 90 [.pointer (some ⟨g,0,none⟩),.string (strOf p)] [bO g st] [] (fun v_ X_ S_=>∃v,v_=(.tuple #[v,.int .i64 (eb st p)])∧X_=[bO g st,aG 5 1 v (cA st p).length (aP (cA st p))]∧S_=[]):=by
 refine aJ (N:=20) Tryz.func90 rfl rfl (by simp) fun b=> ?_
 refine ah<|aj<|hy (fun _=>ab rfl)<|hy (fun _=>ab rfl)<|ai<|ae<|ah<|ah<|aj<|hy (fun _=>aa rfl)<|hy (fun _=>aa rfl)<| ?_
 refine hx (au rfl Tryz.call158 (Aj) [0] rfl [] rfl ?_)
 rintro _ _ _ ⟨rfl,rfl,rfl⟩
 refine hy (fun _=>ab rfl)<|ai<|al (ρ' :=[(6,_),(5,_),(4,_),(0,_),(1,_)]) ⟨rfl,rfl,rfl,rfl,rfl,trivial⟩<|ak (X' :=[_]) (S' :=[]) (fun _ m=>m)<|ae<|ah<|aj<|hy (fun _=>aa rfl)<|hy (fun _=>dx rfl rfl)<|ai<|al (ρ' :=[(11,_),(6,_),(5,_),(4,_),(0,_),(1,_)]) ⟨rfl,rfl,rfl,rfl,rfl,rfl,trivial⟩<|ae<| ?_
 refine cj rfl (fun h=> ?_) (fun h=> ?_)
 ·rw[th h]
  refine ah<|aj<|hy (fun _=>aa rfl)<|hy (fun _=>ab rfl)<|hy (fun _=>ab rfl)<|ai<|al (ρ' :=[(5,_),(4,_),(11,_),(6,_),(0,_),(1,_)]) ⟨rfl,rfl,rfl,rfl,rfl,rfl,trivial⟩<|ae<|aU<|ay<| ?_
  refine ak (fun w m=>m.cI (r' :=aG 5 1 (.slice none 0 0) 0 []) (.refl _ _) (Own.nil _ _ _ _) (fun k hk=>hk.elim)) ?_
  exact dh trivial rfl rfl rfl [1,0] rfl [] rfl ⟨_,rfl,rfl,rfl⟩
 ·have h0:=Decidable.not_not.1 h
  obtain⟨r,hr⟩:=tn h0
  have hv:bz (ek st.seen) p=some r.val:=by rw[lW,hr];rfl
  rw[sh h0 hr,h0]
  have hmem:=tK hr
  obtain⟨i,hi⟩:=List.mem_iff_getElem?.1 hmem
  have hsm:=hs r hmem
  refine bg (fun w m=>(m.perm (ar [0] _ [_] _ rfl)).unpack) ?_
  refine aS (fun m=>dZ ((View.ok (View.row hi)).1 _ (m.GP 4 rfl))) fun hrl=> ?_
  have hrl:=hrl.1
  refine aA<|ae<|ah<|aj<|hy (fun _=>aa rfl)<|hy (fun _=>aL rfl)<|hy (fun _=>aD rfl jo (by decide))<|hy (fun m=>aq rfl oF (ax (m.aN 0 rfl) rfl))<|hy (fun _=>aa rfl)<|hy (fun m=>yV (fM (enc:=SV) rfl rfl Tryz.underlying174 jT (jI Tryz.underlying9) (m.lP 1 rfl)) ((show eM false (.slice none 0 0) (bz (ek st.seen) p)= .slice r.A r.n r.c by rw[hv];rfl)))<| ?_
  refine hx (cY rfl Tryz.call117 (mV (by omega)) [] rfl (.x 4 rfl (View.row hi) .nil) ?_)
  rintro _ _ _ ⟨v,rfl,rfl,rfl⟩
  refine⟨rfl, ?_⟩
  refine aB (fun m=>(m.own 0 rfl).slice) ?_
  rintro⟨A_x,c_x,rfl,hc_x⟩
  refine aB (fun m=>(m.ord 0 rfl).2.1) fun hA_x=> ?_
  refine hy (fun _=>ab rfl)<|hy (fun _=>ab rfl)<|ai<|al (ρ' :=[(5,_),(4,_),(11,_),(6,_),(0,_),(1,_)]) ⟨rfl,rfl,rfl,rfl,rfl,rfl,trivial⟩<|ak (X' :=[_,_,_,_,_,_]) (S' :=[]) (fun _ m=>m)<|ae<|aU<| ?_
  refine ak (X' :=bO g st::_) (fun w m=>(m.perm (ar [1,1,1,1,1] _ [_,_,_,_,_] _ rfl)).pack) ?_
  exact dh trivial rfl rfl rfl [0,0] rfl [] rfl ⟨_,rfl,(by rw[hrl]),rfl⟩
theorem Dm{g:Nat}{l:List (List UInt8×Value)}{p:List UInt8}{r:aX}:b6 Tryz.prog 153 [.agg [SV p,r.val].toArray,.map (some g)] [dw SV g l] [] (fun v_ X_ S_=>v_=(.tuple #[])∧X_=[dw SV g (cw l p r.val)]∧S_=[]):=by
 refine aJ (N:=9) Tryz.func153 rfl rfl (by simp) fun b=> ?_
 refine ah<|aj<| ?_
 refine hx (bn rfl (fun g2=> ?_))
 refine ai<|ak (X' :=[_,_]) (S' :=[]) (fun _ m=>m)<|ae<|aj<|hy (fun _=>aa rfl)<|hy (fun _=>aD rfl BN (by decide))<|hy (fun m=>aq rfl lS (ax (m.aN 0 rfl) rfl))<|hy (fun _=>aD rfl BH (by decide))<|hy (fun m=>aq rfl c7 (ax (m.aN 0 rfl) rfl))<| ?_
 refine cB (pg (enc:=SV) 1 rfl rfl rfl rfl Tryz.underlying174 (jI Tryz.underlying9) ?_)
 refine ai<|al (ρ' :=[(2,_),(0,_),(1,_)]) ⟨rfl,rfl,rfl,trivial⟩<|ak (X' :=[_,_]) (S' :=[]) (fun _ m=>m)<| ?_
 exact fj trivial rfl [0] rfl [] rfl ⟨rfl,rfl,rfl⟩
theorem mN{l:dC}{p:List UInt8}{r x:aX}(h:x∈(cw l p r).map (·.2)):x∈l.map (·.2)∨x=r:=by
 induction l with
 |nil=>simp only[cw,List.map_cons,List.map_nil,List.mem_singleton]at h;exact .inr h
 |cons a q ih=>
  obtain⟨k,u⟩:=a
  simp only[cw]at h
  split at h
  ·simp only[List.map_cons,List.mem_cons]at h ⊢
   rcases h with rfl|h
   ·exact .inr rfl
   ·exact .inl (.inr h)
  ·simp only[List.map_cons,List.mem_cons]at h ⊢
   rcases h with rfl|h
   ·exact .inl (.inl rfl)
   ·rcases ih h with h|h
    ·exact .inl (.inr h)
    ·exact .inr h
def cR.wrote(st:cR)(p:List UInt8)(r:aX)(A:Option Addr)(c:Nat):cR:={st.eY with seen:=cw st.seen p r,waits:=st.waits++[.written p r],wA:=A,wc:=c}
theorem oR{st:cR}{p:List UInt8}{r:aX}{A:Option Addr}{c:Nat}:∀x∈rowsOf (st.wrote p r A c),x∈rowsOf st∨x=r:=by
 intro x hx
 unfold rowsOf cR.wrote at hx
 simp only[cR.eY,List.mem_append,List.filterMap_append]at hx
 unfold rowsOf
 simp only[List.mem_append]
 rcases hx with(h|h)|h|h
 ·rcases mN h with h|h
  ·exact .inl (.inl (.inl h))
  ·exact .inr h
 ·exact .inl (.inl (.inr h))
 ·exact .inl (.inr h)
 ·simp[iK.row]at h
  exact .inr h
theorem G4{g:Nat}{st:cR}{p:List UInt8}{r:aX}{e:TypeId}(hp:st.ck≤1000000000000)(hw:st.waits.length≤1000000):b6 Tryz.prog 116 [.pointer (some ⟨g,0,none⟩),(iK.written p r).val] [bO g st,aG e 1 (.slice r.A r.n r.c) r.n (aP r.l)] [] (fun v_ X_ S_=>∃A c,v_=(.tuple #[])∧X_=[bO g (st.wrote p r A c)]∧S_=[]):=by
 have hsw:st.eY.waits.length=st.waits.length:=rfl
 refine aJ (N:=25) Tryz.func116 rfl rfl (by simp) fun b=> ?_
 refine ah<|aj<|hy (fun _=>aa rfl)<| ?_
 refine hx (au rfl Tryz.call181 (uG (by omega)) [0] rfl [] rfl ?_)
 rintro _ _ _ ⟨rfl,rfl,rfl⟩
 refine aF (fun w m=>(m.perm (ar [0] _ [_] _ rfl)).unpack) ?_
 refine ai<|al (ρ' :=[(0,_),(1,_)]) ⟨rfl,rfl,trivial⟩<|ak (X' :=[_,_,_,_,_,_]) (S' :=[]) (fun _ m=>m)<|ae<|ah<|cq [8] [(0,some 0),(1,some 0),(2,some 0),(3,some 0),(4,some 0),(5,some 0),(6,some 0),(7,some 0),(8,none)] (by kernel_rfl) (by kernel_rfl) rfl 0<|an (aa rfl)<|an (aa rfl)<|an (aL rfl)<|an (aD rfl jo (by decide))<|bY (fun m=>aq rfl oF (ax (m.aN 0 rfl) rfl))<|an (e8 rfl rfl)<|an (y9 rfl (by kernel_rfl))<|an (aa rfl)<| ?_
 refine dq (yq rfl rfl (fun w=>by kernel_rfl) Tryz.call153 (Dm) [1] rfl [] rfl ?_)
 rintro _ _ _ ⟨rfl,rfl,rfl⟩
 refine⟨(fun h=>absurd h (by decide)), ?_⟩
 refine bk<|al (ρ' :=[(0,_),(1,_)]) ⟨rfl,rfl,trivial⟩<|ak (X' :=[_,_,_,_,_,_]) (S' :=[]) (fun _ m=>m)<|ae<|aj<|hy (fun _=>aa rfl)<|hy (fun _=>aa rfl)<|hy (fun _=>aL rfl)<|hy (fun _=>aD rfl l7 (by decide))<|hy (fun m=>aq rfl Cw (ax (m.aN 1 rfl) rfl))<|hy (fun _=>aa rfl)<| ?_
 refine hx (bJ Tryz.underlying175 vn rfl rfl rfl (by simp[Value.cells,iK.val]) (by decide) (by decide) (fun g21=> ?_))
 have hA_b21:0<1→(some (⟨g21,0,none⟩:Addr))≠none:=fun _ h=>by cases h
 refine aF (fun w m=>m.bq 0 rfl (show _=aG 232 1 (.slice (some ⟨g21,0,none⟩) 1 1) 1 [(iK.written p r).val]from rfl)) ?_
 refine hx (bp 4 rfl rfl rfl Tryz.underlying175 Tryz.underlying175 (by exact .inl rfl) vn rfl (fun m=>Src.bS (m.ord 0 rfl)) (by simp[iK.val,Value.oneCell']) (by unfold maxLen;omega) (by omega) (fun u=> ?_))
 refine aB (fun m=>(m.own 0 rfl).slice) ?_
 rintro⟨A_d3,c_d3,rfl,hc_d3⟩
 refine aB (fun m=>(m.ord 0 rfl).2.1) fun hA_d3=> ?_
 refine hy (fun _=>aL rfl)<|hy (fun _=>aD rfl l7 (by decide))<| ?_
 refine cB (bX 3 rfl rfl rfl ym rfl (by first|exact Nat.le_of_ble_eq_true rfl|simp) ?_)
 refine ai<|al (ρ' :=[(0,_),(1,_)]) ⟨rfl,rfl,trivial⟩<|ak (X' :=[_,_,_,_,_,_,_]) (S' :=[]) (fun _ m=>m)<| ?_
 refine ak (fun w m=>m.bq 0 rfl (show _=aE g 177 (ll (st.wrote p r A_d3 c_d3))from by simp[ll,cR.wrote,cR.eY])) ?_
 refine ak (fun w m=>m.bq 3 rfl (show _=dw SV st.gs (ek (st.wrote p r A_d3 c_d3).seen)from congrArg (dw SV st.gs) (oP _ _ _))) ?_
 refine ak (fun w m=>m.bq 2 rfl (show _=aG 232 1 (.slice A_d3 (st.wrote p r A_d3 c_d3).waits.length c_d3) (st.wrote p r A_d3 c_d3).waits.length ((st.wrote p r A_d3 c_d3).waits.map iK.val)from by simp[cR.wrote,cR.eY])) ?_
 refine ak (X' :=dp (rowsOf (st.wrote p r A_d3 c_d3))::_) (fun w m=>(m.perm (ar [5,5] _ [_,_] _ rfl)).yo (oR)) ?_
 refine ak (X' :=bO g (st.wrote p r A_d3 c_d3)::_) (fun w m=>(m.perm (ar [3,2,3,1,0] _ [_,_,_,_,_] _ rfl)).pack) ?_
 exact fj trivial rfl [0] rfl [] rfl ⟨_,_,rfl,rfl,rfl⟩
def bG(st:cR)(p:List UInt8)(n:Nat):Int:=if¬fp p then 1 else if st.ck=0 then 6 else if st.room<(lp st.seen:Int)-(((bz st.seen p).map (·.n)).getD 0:Nat)+n then 5 else 0
theorem zi:∀{l:dC} {m:Nat},(∀x∈l,x.2.n≤m)→lp l≤l.length*m
 | [],m,h=>by simp[lp]
 |a::q,m,h=>by
  have:=zi (l:=q) (m:=m) (fun x hx=>h x (List.mem_cons_of_mem _ hx))
  have h1:=h a (List.mem_cons_self ..)
  simp only[lp,List.map_cons,List.sum_cons,List.length_cons,Nat.add_mul]at this ⊢
  omega
structure od(st:cR)(k:Nat):Prop where
 ck:st.ck≤1000000000000
 room:st.room≤1048576
 seen:st.seen.length≤k
 rest:st.c9.length+st.waits.length≤k
 small:∀r∈rowsOf st,r.n≤1048576
theorem od.le{st:cR}{k k' :Nat}(h:od st k)(hk:k≤k'):od st k' :=⟨h.ck,h.room,Nat.le_trans h.seen hk,Nat.le_trans h.rest hk,h.small⟩
theorem od.lp{st:cR}{k:Nat}(h:od st k):lp st.seen≤k*1048576:=Nat.le_trans (zi (m:=1048576) (fun x hx=>h.small _ (by unfold rowsOf;exact List.mem_append_left _ (List.mem_append_left _ (List.mem_map.2 ⟨x,hx,rfl⟩))))) (Nat.mul_le_mul_right _ h.seen)
theorem od.sm{st:cR}{k:Nat}(h:od st k):Small st:=fun r hr=>Nat.le_trans (h.small r hr) (by decide)
theorem od.init{n:Int}{gs gl:Nat}(h:n≤1048576):od (mf n gs gl) 0:=⟨by simp[mf],h,Nat.le_refl _,Nat.le_refl _,fun r hr=>by simp[rowsOf,mf]at hr⟩
theorem pj(l:dC)(p:List UInt8)(r:aX):(cw l p r).length≤l.length+1:=by
 induction l with
 |nil=>simp[cw]
 |cons a q ih=>
  obtain⟨k,u⟩:=a
  simp only[cw]
  split <;> simp only[List.length_cons] <;> omega
theorem tv(l:dC)(p:List UInt8):(eK l p).length≤l.length:=by
 induction l with
 |nil=>simp[eK]
 |cons a q ih=>
  obtain⟨k,u⟩:=a
  simp only[eK]
  split <;> simp only[List.length_cons] <;> omega
theorem jK{st:cR}(h:st.ck≤1000000000000):st.eY.ck≤1000000000000:=by
 simp only[cR.eY]
 split <;> omega
theorem od.wrote{st:cR}{k:Nat}(h:od st k){p:List UInt8}{r:aX}(hr:r.n≤1048576)(A:Option Addr)(c:Nat):od (st.wrote p r A c) (k+1):=by
 refine⟨jK h.ck,h.room, ?_, ?_,fun x hx=> ?_⟩
 ·have:=pj st.seen p r
  have:=h.seen
  show(cw st.seen p r).length≤k+1
  omega
 ·have:=h.rest
  show st.c9.length+(st.waits++[iK.written p r]).length≤k+1
  simp only[List.length_append,List.length_cons,List.length_nil]
  omega
 ·rcases oR x hx with h' |rfl
  ·exact h.small x h'
  ·exact hr
theorem DC{g:Nat}{st:cR}{p:List UInt8}{A:Option Addr}{n c:Nat}{l:List UInt8}{k:Nat}(ok:od st k)(hk:k≤100000)(hn:n≤1048576):b6 Tryz.prog 33 [.pointer (some ⟨g,0,none⟩),.string (strOf p),.slice A n c] [bO g st] [cr 1 A n (aP l)] (fun v_ X_ S_=>∃st1 B c1 A1 c2,v_=(.int .i64 (bG st p n))∧X_=[bO g st1]∧S_=[]∧((bG st p n≠0∧st1=st)∨(bG st p n=0∧st1=st.wrote p ⟨B,n,c1,l⟩ A1 c2))):=by
 have hp:=ok.ck
 have hw:st.waits.length≤1000000:=by have:=ok.rest;omega
 have ht:lp st.seen≤1000000000000:=by have:=ok.lp;omega
 have hs:=ok.sm
 refine aJ (N:=41) Tryz.func33 rfl rfl (by simp) fun b=> ?_
 refine aS (fun m=>dZ (m.rd 0 rfl)) ?_
 rintro⟨hl_r,hA_r⟩
 refine ah<|aj<|hy (fun _=>ab rfl)<|ai<|ae<|ah<|aI<|ah<|aj<|hy (fun _=>aa rfl)<| ?_
 refine hx (au rfl Tryz.call115 (Ab) [] rfl [] rfl ?_)
 rintro _ _ _ ⟨rfl,rfl,rfl⟩
 refine hy (fun _=>eE rfl)<|hy (fun _=>ab rfl)<|ai<|al (ρ' :=[(7,_),(6,_),(0,_),(1,_),(2,_)]) ⟨rfl,rfl,rfl,rfl,rfl,trivial⟩<|ak (X' :=[_]) (S' :=[_]) (fun _ m=>m)<|ae<| ?_
 refine cj rfl (fun h1=> ?_) (fun h1=> ?_)
 ·have e:bG st p n=1:=by rw[bG,if_pos h1]
  rw[e]
  refine ah<|aj<|hy (fun _=>ab rfl)<|ai<|ae<|aU<|a8<|ay<| ?_
  exact aZ trivial rfl rfl [0] rfl [] rfl ⟨_,none,0,none,0,rfl,rfl,rfl,.inl ⟨by decide,rfl⟩⟩
 ·refine ah<|aj<|hy (fun _=>aa rfl)<| ?_
  refine hx (au rfl Tryz.call87 (Hm) [0] rfl [] rfl ?_)
  rintro _ _ _ ⟨rfl,rfl,rfl⟩
  refine hy (fun _=>eE rfl)<|hy (fun _=>ab rfl)<|ai<|al (ρ' :=[(11,_),(7,_),(6,_),(0,_),(1,_),(2,_)]) ⟨rfl,rfl,rfl,rfl,rfl,rfl,trivial⟩<|ak (X' :=[_]) (S' :=[_]) (fun _ m=>m)<|ae<| ?_
  refine cj rfl (fun h2=> ?_) (fun h2=> ?_)
  ·have e:bG st p n=6:=by rw[bG,if_neg h1,if_pos (by omega)]
   rw[e]
   refine ah<|aj<|hy (fun _=>ab rfl)<|ai<|ae<|aU<|a8<|ay<| ?_
   exact aZ trivial rfl rfl [0] rfl [] rfl ⟨_,none,0,none,0,rfl,rfl,rfl,.inl ⟨by decide,rfl⟩⟩
  ·have hwe:bG st p n=if st.room<(lp st.seen:Int)-(((bz st.seen p).map (·.n)).getD 0:Nat)+n then 5 else 0:=by rw[bG,if_neg h1,if_neg (by omega)]
   have hv:∃B m c0,eM false (.slice none 0 0) (bz (ek st.seen) p)= .slice B m c0∧m=((bz st.seen p).map (·.n)).getD 0∧m≤1000000000:=by
    rw[lW]
    cases hq:bz st.seen p with
    |none=>exact⟨none,0,0,rfl,rfl,by decide⟩
    |some r=>exact⟨r.A,r.n,r.c,rfl,rfl,hs r (tK hq)⟩
   obtain⟨B,m,c0,hv1,hv2,hv3⟩:=hv
   rw[←hv2]at hwe
   refine ah<|cq [1] [(0,some 0),(2,some 1),(3,some 1),(4,some 1),(5,some 1),(6,some 1),(7,some 1),(8,some 1),(10,some 1),(11,some 1),(13,some 1),(14,some 1),(15,some 1),(16,some 1),(1,none),(9,some 1),(12,some 1),(17,some 1),(18,some 1)] (by kernel_rfl) (by kernel_rfl) rfl 99<|an (aa rfl)<|an (aa rfl)<|an (aL rfl)<|an (aD rfl jo (by decide))<|bY (fun m=>aq rfl oF (ax (show eQ _ _ _ _ from m.GM 0 rfl 0 rfl) rfl))<|an (aa rfl)<|bY (fun m=>yV (fM (enc:=SV) rfl rfl Tryz.underlying174 jT (jI Tryz.underlying9) (show fW _ _ _ _ from m.GM 0 rfl 1 rfl)) (hv1))<|an (aW rfl Tryz.underlying27)<|an (aa rfl)<|an (aW rfl Tryz.underlying27)<|an (aa rfl)<|an (aL rfl)<|an (aD rfl BU (by decide))<|bY (fun m=>aq rfl dr (ax (show eQ _ _ _ _ from m.GM 0 rfl 0 rfl) rfl))<| ?_
   refine dq (au rfl Tryz.call88 (Fi (by omega)) [0] rfl [] rfl ?_)
   rintro _ _ _ ⟨rfl,rfl,rfl⟩
   refine⟨(fun _=>wk [0] [0] rfl rfl), ?_⟩
   refine an (cd rfl rfl (bs (by omega) (by omega)))<|an (aK rfl rfl (bs (by omega) (by omega)))<|an (cG rfl rfl)<|an (ab rfl)<|bk<|al (ρ' :=[(15,_),(11,_),(7,_),(6,_),(0,_),(1,_),(2,_)]) ⟨rfl,rfl,rfl,rfl,rfl,rfl,rfl,trivial⟩<|ak (X' :=[_]) (S' :=[_]) (fun _ m=>m)<|ae<| ?_
   refine cj rfl (fun h3=> ?_) (fun h3=> ?_)
   ·rw[if_pos (by omega)]at hwe
    rw[hwe]
    refine ah<|aj<|hy (fun _=>ab rfl)<|ai<|ae<|aU<|a8<|ay<| ?_
    exact aZ trivial rfl rfl [0] rfl [] rfl ⟨_,none,0,none,0,rfl,rfl,rfl,.inl ⟨by decide,rfl⟩⟩
   ·rw[if_neg (by omega)]at hwe
    rw[hwe]
    refine aA<|aM<|ae<|ah<|aj<|hy (fun _=>aa rfl)<|hy (fun _=>aa rfl)<|hy (fun _=>aa rfl)<| ?_
    refine hx (au rfl Tryz.call117 (mV (by omega)) [] rfl [0] rfl ?_)
    rintro _ _ _ ⟨v,rfl,rfl,rfl⟩
    refine aB (fun m=>(m.own 0 rfl).slice) ?_
    rintro⟨A_x,c_x,rfl,hc_x⟩
    refine aB (fun m=>(m.ord 0 rfl).2.1) fun hA_x=> ?_
    refine hy (fun _=>yV (bD F5 rfl rfl (by kernel_rfl) (.cons (o:=0) (sz:=1) (by kernel_rfl) rfl rfl (Nat.le_of_ble_eq_true rfl) (.cons (o:=1) (sz:=1) (by kernel_rfl) rfl rfl (Nat.le_of_ble_eq_true rfl) .nil))) ((rfl:_=Value.agg [SV p,Value.slice A_x n c_x].toArray)))<|hy (fun _=>qk rfl Tryz.underlying189 (fun _ h=>by cases h))<| ?_
    refine hx (au rfl Tryz.call116 (G4 (by omega) (by omega) (r:=⟨A_x,n,c_x,l⟩)) [1,0] rfl [] rfl ?_)
    rintro _ _ _ ⟨A2,c2,rfl,rfl,rfl⟩
    refine ai<|al (ρ' :=[(15,_),(11,_),(7,_),(6,_),(0,_),(1,_),(2,_)]) ⟨rfl,rfl,rfl,rfl,rfl,rfl,rfl,trivial⟩<|ak (X' :=[_]) (S' :=[_]) (fun _ m=>m)<|ae<|ah<|aj<|hy (fun _=>ab rfl)<|ai<|ae<|aU<| ?_
    exact aZ trivial rfl rfl [0] rfl [] rfl ⟨_,_,_,_,_,rfl,rfl,rfl,.inr ⟨rfl,rfl⟩⟩
theorem Bx{g:Nat}{l:List (List UInt8×Value)}:b6 Tryz.prog 154 [.map (some g)] [dw SV g l] [] (fun v_ X_ S_=>∃g1,v_=(.map (some g1))∧X_=[dw SV g l,dw SV g1 l]∧S_=[]):=by
 refine aJ (N:=9) Tryz.func154 rfl rfl (by simp) fun b=> ?_
 refine ah<|aj<|hy (fun _=>ab rfl)<|ai<|ae<|ah<|ah<|aj<|hy (fun _=>aa rfl)<|hy (fun _=>Df rfl rfl Tryz.underlying174)<|ai<|al (ρ' :=[(4,_),(2,_),(0,_)]) ⟨rfl,rfl,rfl,trivial⟩<|ae<| ?_
 refine cZ rfl (rfl) ?_
 refine aA<|ae<|ah<|aj<|hy (fun _=>aa rfl)<|hy (fun _=>qk rfl Tryz.underlying174 (fun _ h=>by cases h))<| ?_
 refine hx (xv 0 rfl rfl Tryz.func209 (by kernel_rfl) (by kernel_rfl) (by kernel_rfl) (by kernel_rfl) (fun g1=> ?_))
 refine hy (fun _=>pW rfl (show _=Result.ok (Value.map (some g1)) _ by kernel_rfl))<|hy (fun _=>ab rfl)<|ai<|al (ρ' :=[(2,_),(4,_),(0,_)]) ⟨rfl,rfl,rfl,trivial⟩<|ak (X' :=[_,_]) (S' :=[]) (fun _ m=>m)<|ae<|aU<| ?_
 exact aZ trivial rfl rfl [1,0] rfl [] rfl ⟨_,rfl,rfl,rfl⟩
def cR.synced(st:cR)(gl:Nat):cR:={st.eY with gl:=gl,c9:=st.seen,waits:=[],wA:=none,wc:=0}
def di(st:cR):Int:=if st.ck=0 then 6 else 0
theorem nF{st:cR}{gl:Nat}:∀x∈rowsOf (st.synced gl),x∈rowsOf st:=by
 intro x hx
 unfold rowsOf cR.synced at hx
 simp only[cR.eY,List.filterMap_nil,List.append_nil,List.mem_append,or_self]at hx
 unfold rowsOf
 exact List.mem_append_left _ (List.mem_append_left _ hx)
theorem od.synced{st:cR}{k:Nat}(h:od st k)(gl:Nat):od (st.synced gl) k:=
 ⟨jK h.ck,h.room,h.seen,by show st.seen.length+0≤k;have:=h.seen;omega,fun x hx=>h.small x (nF x hx)⟩
theorem Fz{g:Nat}{st:cR}{k:Nat}(ok:od st k):b6 Tryz.prog 110 [.pointer (some ⟨g,0,none⟩)] [bO g st] [] (fun v_ X_ S_=>∃st1 gl,v_=(.int .i64 (di st))∧X_=[bO g st1]∧S_=[]∧((st.ck=0∧st1=st)∨(st.ck≠0∧st1=st.synced gl))):=by
 refine aJ (N:=19) Tryz.func110 rfl rfl (by simp) fun b=> ?_
 refine ah<|aj<|hy (fun _=>ab rfl)<|ai<|ae<|ah<|ah<|aj<|hy (fun _=>aa rfl)<| ?_
 refine hx (au rfl Tryz.call87 (Hm) [0] rfl [] rfl ?_)
 rintro _ _ _ ⟨rfl,rfl,rfl⟩
 refine hy (fun _=>eE rfl)<|ai<|al (ρ' :=[(5,_),(2,_),(0,_)]) ⟨rfl,rfl,rfl,trivial⟩<|ak (X' :=[_]) (S' :=[]) (fun _ m=>m)<|ae<| ?_
 refine cj rfl (fun h1=> ?_) (fun h1=> ?_)
 ·have h0:st.ck=0:=Decidable.not_not.1 h1
  have e:di st=6:=by rw[di,if_pos h0]
  rw[e]
  refine ah<|aj<|hy (fun _=>ab rfl)<|ai<|ae<|aU<|ay<| ?_
  exact aZ trivial rfl rfl [0] rfl [] rfl ⟨_,0,rfl,rfl,rfl,.inl ⟨h0,rfl⟩⟩
 ·have h0:st.ck≠0:=fun e=>h1 (fun h=>h e)
  have e:di st=0:=by rw[di,if_neg h0]
  rw[e]
  have hp:=ok.ck
  refine aA<|ae<|ah<|aj<|hy (fun _=>aa rfl)<| ?_
  refine hx (au rfl Tryz.call181 (uG (by omega)) [0] rfl [] rfl ?_)
  rintro _ _ _ ⟨rfl,rfl,rfl⟩
  refine aF (fun w m=>(m.perm (ar [0] _ [_] _ rfl)).unpack) ?_
  refine ai<|al (ρ' :=[(5,_),(2,_),(0,_)]) ⟨rfl,rfl,rfl,trivial⟩<|ak (X' :=[_,_,_,_,_]) (S' :=[]) (fun _ m=>m)<|ae<|ah<|aj<|hy (fun _=>aa rfl)<|hy (fun _=>aa rfl)<|hy (fun _=>aa rfl)<|hy (fun _=>aL rfl)<|hy (fun _=>aD rfl jo (by decide))<|hy (fun m=>aq rfl oF (ax (m.aN 0 rfl) rfl))<| ?_
  refine hx (au rfl Tryz.call154 (Bx) [1] rfl [] rfl ?_)
  rintro _ _ _ ⟨g1,rfl,rfl,rfl⟩
  refine hy (fun _=>aL rfl)<|hy (fun _=>aD rfl Bl (by decide))<| ?_
  refine cB (bX 2 rfl rfl rfl FZ rfl (by first|exact Nat.le_of_ble_eq_true rfl|simp) ?_)
  refine hy (fun _=>aL rfl)<|hy (fun _=>aD rfl l7 (by decide))<| ?_
  refine cB (bX 0 rfl rfl rfl ym rfl (by first|exact Nat.le_of_ble_eq_true rfl|simp) ?_)
  refine ai<|al (ρ' :=[(5,_),(2,_),(0,_)]) ⟨rfl,rfl,rfl,trivial⟩<|ak (X' :=[_,_,_,_,_,_]) (S' :=[]) (fun _ m=>m)<|ae<|ah<|aj<|hy (fun _=>ab rfl)<|ai<|ae<|aU<| ?_
  refine ak (fun w m=>m.cI (r' :=aG 232 1 (.slice none 0 0) 0 []) (.refl _ _) (Own.nil _ _ _ _) (fun k hk=>hk.elim)) ?_
  refine ak (fun w m=>Mem.uf (X:=[_]) (m.perm (ar [4] _ [_] _ rfl))) ?_
  refine ak (fun w m=>Mem.uf (X:=[_]) (m.perm (ar [4] _ [_] _ rfl))) ?_
  refine ak (fun w m=>m.bq 1 rfl (show _=aE g 177 (ll (st.synced g1))from rfl)) ?_
  refine ak (X' :=dp (rowsOf (st.synced g1))::_) (fun w m=>(m.perm (ar [4] _ [_] _ rfl)).xI (nF)) ?_
  refine ak (X' :=bO g (st.synced g1)::_) (fun w m=>(m.perm (ar [1,2,2,1,0] _ [_,_,_,_,_] _ rfl)).pack) ?_
  exact aZ trivial rfl rfl [0] rfl [] rfl ⟨_,_,rfl,rfl,rfl,.inr ⟨h0,rfl⟩⟩
end Go.Proofs.YtmibdabdlgmafaaGreatDoor
end
section
set_option maxRecDepth 20000
namespace Go.Proofs.YtmibdabdlgmafaaGreatDoor
open Go.Eng Go.Hx
theorem H4(A:Option Addr)(n c:Nat)(l:List UInt8)(m:Nat)(w:World)(hr:Rd w 1 A n (aP l))(hc:n≤c)(hn:n≤140737488351232):
  Calls Tryz.prog 32 #[.slice A n c,.int .i64 (m:Int)] w fun e w' =>∃v,e= .returned v∧Go.Eng.Own w' w.heap.size 5 1 v (min n m) (aP (l.take m))∧Fr No w w' :=by
 have hl:l.length=n:=by have:=hr.1;rw[az]at this;omega
 have hrd:Rd w 1 A (min n m) (aP (l.take m)):=by
  have:=hr.take (k:=min n m) (by omega)
  have e:(aP l).take (min n m*1)=aP (l.take m):=by
   rw[aP,aP,←List.map_take,Nat.mul_one]
   congr 1
   by_cases h:m≤n
   ·congr 1;omega
   ·rw[List.take_of_length_le (by omega),List.take_of_length_le (by omega)]
  rw[e]at this
  exact this
 refine enter (N:=14) Tryz.func32 rfl rfl (by simp) ?_
 refine bB<|bP<|nq (ab rfl)<|bQ<|bd<|bB<|bP<|nq (ab rfl)<|bQ<|bd<|bB<|bP<|nq (aa rfl)<|nq (aa rfl)<|nq (aa rfl)<|nq (aW rfl Tryz.underlying27)<|nq (aa rfl)<|nq (zm rfl rfl)<|nq (pd rfl rfl Tryz.underlying27 dF (show((min n m:Nat):Int)=_ by omega) ((by omega)))<| ?_
 refine nx (oM rfl rfl Tryz.underlying27 Tryz.underlying27 (by exact .inl rfl) eT rfl (Own.nil w w.heap.size _ 1) (Src.bS hrd) bh (by unfold maxLen;omega) (by omega) (by omega) fun v w1 ho hf hv=> ?_)
 refine nq (ab rfl)<|bQ<|cu (ag (t:=4) rfl<|ag (t:=5) rfl<|ag (t:=0) rfl<|ag (t:=1) rfl<|aV)<|bd<|ix<| ?_
 refine iD trivial rfl rfl ⟨v,rfl, ?_,hf.mono (fun _ _ e=>e.elim)⟩
 simpa using ho
def c5(n m:Int):Int:=(if n<0 then-(n+1)else n) % m
theorem dK(n m:Int)(hm:0<m):0≤c5 n m∧c5 n m<m:=⟨Int.emod_nonneg _ (by omega),Int.emod_lt_of_pos _ hm⟩
theorem z7(n m:Int)(w:World)(h1:-9223372036854775808≤n)(h2:n≤9223372036854775807)(hm:0<m):
  Calls Tryz.prog 16 #[.int .i64 n,.int .i64 m] w fun e w' =>e= .returned (.int .i64 (c5 n m))∧w=w' :=by
 refine enter (N:=13) Tryz.func16 rfl rfl (by simp) ?_
 refine bB<|bP<|nq (ab rfl)<|bQ<|bd<|bB<|bB<|bP<|nq (aa rfl)<|nq (bu rfl rfl)<|bQ<|cu (ag (t:=6) rfl<|ag (t:=4) rfl<|ag (t:=0) rfl<|ag (t:=1) rfl<|aV)<|bd<| ?_
 refine xD rfl (fun h=> ?_) (fun h=> ?_)
 ·refine bP<|nq (aa rfl)<|nq (aK rfl rfl (bs (by omega) (by omega)))<|nq (vU rfl (bs (by omega) (by omega)))<|nq (ab rfl)<|bQ<|cu (ag (t:=0) rfl<|ag (t:=6) rfl<|ag (t:=4) rfl<|ag (t:=1) rfl<|aV)<|bd<|bB<|bP<|nq (aa rfl)<|nq (aa rfl)<|nq (gK rfl rfl (by omega) (by omega))<|nq (ab rfl)<|bQ<|cu (ag (t:=4) rfl<|ag (t:=0) rfl<|ag (t:=6) rfl<|ag (t:=1) rfl<|aV)<|bd<|ix<| ?_
  refine iD trivial rfl rfl ⟨?_,rfl⟩
  simp only[c5,if_pos h]
 ·refine iv<|bd<|bB<|bP<|nq (aa rfl)<|nq (aa rfl)<|nq (gK rfl rfl (by omega) (by omega))<|nq (ab rfl)<|bQ<|cu (ag (t:=4) rfl<|ag (t:=6) rfl<|ag (t:=0) rfl<|ag (t:=1) rfl<|aV)<|bd<|ix<| ?_
  refine iD trivial rfl rfl ⟨?_,rfl⟩
  simp only[c5,if_neg h]
theorem bytes(a:List UInt8)(w:World)(ha:a.length=32):
  Calls Tryz.prog 183 #[.agg (aP a).toArray] w fun e w' =>∃v,e= .returned v∧Go.Eng.Own w' w.heap.size 5 1 v 32 (aP a)∧Fr No w w' :=by
 refine enter (N:=16) Tryz.func183 rfl rfl (by simp) ?_
 refine bB<|bP<| ?_
 refine nx (sQ rfl fun g1 w1 hg1 hf1 hb1=> ?_)
 rw[aR]at hb1
 refine nq (ab rfl)<|bQ<|bd<|bB<|bP<|nq (ab rfl)<|bQ<|bd<|bB<|bB<|bP<|nq (ab rfl)<|bQ<|bd<|dM<| ?_
 refine um (fun k _=>32-k) (fun k v=>[(1,.pointer (some ⟨g1,0,none⟩)),(3,v),(4,.int .i64 (k:Nat))]) (fun k v w' =>k≤32∧Go.Eng.Own w' w1.heap.size 5 1 v k (aP (a.take k))∧Fr No w1 w') 0 (.slice none 0 0) (⟨Nat.zero_le _,Own.nil w1 w1.heap.size _ 1,Fr.refl _ _⟩) (ag (t:=1) rfl<|ag (t:=3) rfl<|ag (t:=4) rfl<|aV) (fun k v w2 ⟨hk,ho,hf⟩=> ?_)
 refine bB<|bB<|bP<|nq (aa rfl)<|nq (bu rfl rfl)<|bQ<|cu (ag (t:=6) rfl<|ag (t:=1) rfl<|ag (t:=3) rfl<|ag (t:=4) rfl<|aV)<|bd<| ?_
 refine xD rfl (fun h=> ?_) (fun h=> ?_)
 ·have ga:=bE (l:=a) (i:=k) (by omega)
  refine iv<|bd<|bB<|dM<|bP<|nq (aa rfl)<|nq (aa rfl)<|nq (bR rfl rfl Tryz.underlying53 dF rfl (by omega))<|nq (aq rfl iL ((hb1.xA hf).aw _ _ ga))<| ?_
  refine nx (sv Tryz.underlying27 eT rfl rfl rfl (by simp[Value.cells,B8]) (by decide) (by decide) fun g w3 hg hf3 hb3=> ?_)
  refine nx (oM rfl rfl Tryz.underlying27 Tryz.underlying27 (by exact .inl rfl) eT rfl (ho.xA hf3) (Src.lh hb3 rfl) (bh (l:=[_])) (by unfold maxLen;omega) (by omega) (hf.eH hf3).size fun v4 w4 ho4 hf4 hv4=> ?_)
  refine nq (ab rfl)<|bQ<|cu (ag (t:=3) rfl<|ag (t:=6) rfl<|ag (t:=1) rfl<|ag (t:=4) rfl<|aV)<|ju<|bd<|bP<|nq (aa rfl)<|nq (aK rfl rfl (bs (by omega) (by omega)))<|nq (ab rfl)<|bQ<|cu (ag (t:=4) rfl<|ag (t:=3) rfl<|ag (t:=6) rfl<|ag (t:=1) rfl<|aV)<| ?_
  refine uP (k+1) v4 (ag (t:=1) rfl<|ag (t:=3) rfl<|ag (t:=4) rfl<|aV) (⟨by omega,by rw[eA (by omega),bK];exact ho4,(hf.eH hf3).new hf4 (fun i hi=>(ho.from hi).1)⟩) (by omega)
 ·obtain rfl:k=32:=by omega
  refine lZ<|cz<|cz<|dH<|bd<|bB<|bP<|nq (aa rfl)<|nq (ab rfl)<|bQ<|cu (ag (t:=2) rfl<|ag (t:=6) rfl<|ag (t:=1) rfl<|ag (t:=3) rfl<|ag (t:=4) rfl<|aV)<|bd<|ix<| ?_
  rw[List.take_of_length_le (by omega)]at ho
  exact iD trivial rfl rfl ⟨v,rfl,ho.wide hf1.size,hf1.eH hf⟩
end Go.Proofs.YtmibdabdlgmafaaGreatDoor
end
section
namespace Go.Hx
open Go.Eng
abbrev C7(ds:List (List UInt8)):Prop:=∀d∈ds,d.length=32
end Go.Hx
end
section
set_option maxRecDepth 20000
namespace Go.Proofs.YtmibdabdlgmafaaGreatDoor
open Go.Eng Go.Hx
theorem DR{w:World}{A:Option Addr}{n:Nat}{ds:List (List UInt8)}(h:Rd w 32 A n (dc ds))(hd:C7 ds):ds.length=n:=by
 have:=h.1
 rw[xq hd]at this
 omega
end Go.Proofs.YtmibdabdlgmafaaGreatDoor
end
section
set_option maxRecDepth 20000
namespace Go.Proofs.YtmibdabdlgmafaaGreatDoor
open Go.Eng Go.Hx
end Go.Proofs.YtmibdabdlgmafaaGreatDoor
end
section
set_option maxRecDepth 20000
namespace Go.Proofs.YtmibdabdlgmafaaGreatDoor
open Go.Eng Go.Hx
theorem number(n:Nat)(w:World)(hn:n<4294967296):
  Calls Tryz.prog 160 #[.int .i64 (n:Int)] w fun e w' =>∃v,e= .returned v∧Go.Eng.Own w' w.heap.size 5 1 v 4 (aP (jb n))∧Fr No w w' :=by
 refine enter (N:=21) Tryz.func160 rfl rfl (by simp) ?_
 refine bB<|bP<|nq (ab rfl)<|bQ<|bd<|bB<|bP<|nq (aa rfl)<|nq (bU rfl Tryz.underlying3 Tryz.underlying166 ((wo (by omega) (by omega))))<|nq (ab rfl)<|bQ<|cu (ag (t:=3) rfl<|ag (t:=2) rfl<|ag (t:=0) rfl<|aV)<|bd<|bB<|bP<|nq (aa rfl)<|nq (gK rfl rfl (by omega) (by omega))<|nq (bU rfl Tryz.underlying166 Tryz.underlying5 ((show IntKind.u8.wrap ((n:Int) % 256)=((UInt8.ofNat n).toNat:Int) by simp[IntKind.wrap,IntKind.signed,IntKind.bits])))<|nq (aa rfl)<|nq (j0 rfl rfl (by omega) (by omega) (wo (by omega) (by omega)))<|nq (gK rfl rfl (by omega) (by omega))<|nq (bU rfl Tryz.underlying166 Tryz.underlying5 ((show IntKind.u8.wrap ((n:Int)/256 % 256)=((UInt8.ofNat (n/256)).toNat:Int) by simp[IntKind.wrap,IntKind.signed,IntKind.bits])))<|nq (aa rfl)<|nq (j0 rfl rfl (by omega) (by omega) (wo (by omega) (by omega)))<|nq (gK rfl rfl (by omega) (by omega))<|nq (bU rfl Tryz.underlying166 Tryz.underlying5 ((show IntKind.u8.wrap ((n:Int)/65536 % 256)=((UInt8.ofNat (n/65536)).toNat:Int) by simp[IntKind.wrap,IntKind.signed,IntKind.bits])))<|nq (aa rfl)<|nq (j0 rfl rfl (by omega) (by omega) (wo (by omega) (by omega)))<|nq (bU rfl Tryz.underlying166 Tryz.underlying5 ((show IntKind.u8.wrap ((n:Int)/16777216)=((UInt8.ofNat (n/16777216)).toNat:Int) by simp[IntKind.wrap,IntKind.signed,IntKind.bits])))<| ?_
 refine nx (sv Tryz.underlying27 eT rfl rfl rfl (by simp[Value.cells,B8]) (by decide) (by decide) fun g w1 hg hf1 hb1=> ?_)
 refine nq (ab rfl)<|bQ<|cu (ag (t:=2) rfl<|ag (t:=3) rfl<|ag (t:=0) rfl<|aV)<|bd<|ix<| ?_
 exact iD trivial rfl rfl ⟨_,rfl,Own.made hb1 hg (Nat.le_refl _) (by decide) rfl,hf1⟩
end Go.Proofs.YtmibdabdlgmafaaGreatDoor
end
section
set_option maxRecDepth 20000
namespace Go.Proofs.YtmibdabdlgmafaaGreatDoor
open Go.Eng Go.Hx
theorem GD{A:Option Addr}{n c:Nat}{l:List UInt8}{m:Nat}(hc:n≤c)(hn:n≤140737488351232):b6 Tryz.prog 32 [.slice A n c,.int .i64 (m:Int)] [] [cr 1 A n (aP l)] (fun v_ X_ S_=>∃v,v_=v∧X_=[aG 5 1 v (min n m) (aP (l.take m))]∧S_=[]):=by
 exact lX fun mm=>Calls.mono (H4 A n c l m _ (mm.rd 0 rfl) hc hn) (fun e w' ⟨v,h,ho,hf⟩=>⟨v,v,_,_,_,_,h,⟨v,rfl,rfl,rfl⟩,ho,hf⟩)
theorem l6{n m:Int}(h1:-9223372036854775808≤n)(h2:n≤9223372036854775807)(hm:0<m):b6 Tryz.prog 16 [.int .i64 n,.int .i64 m] [] [] (fun v_ X_ S_=>v_=(.int .i64 (c5 n m))∧X_=[]∧S_=[]):=by
 exact iT fun mm=>Calls.mono (z7 n m _ h1 h2 hm) (fun e w' ⟨h,hw⟩=>⟨_,h,⟨rfl,rfl,rfl⟩,hw▸Fr.refl _ _⟩)
theorem zC{A:Option Addr}{n c:Nat}{l:List UInt8}(hn:n≤70368744177664):b6 Tryz.prog 189 [.slice A n c] [] [cr 1 A n (aP l)] (fun v_ X_ S_=>∃v,v_=v∧X_=[aG 5 1 v (n+4) (aP (yO l))]∧S_=[]):=by
 exact lX fun m=>Calls.mono (AF A n c l _ (m.rd 0 rfl) hn) (fun e w' ⟨v,h,ho,hf⟩=>⟨v,v,_,_,_,_,h,⟨v,rfl,rfl,rfl⟩,ho,hf⟩)
theorem AL{n:Nat}(hn:n<4294967296):b6 Tryz.prog 160 [.int .i64 (n:Int)] [] [] (fun v_ X_ S_=>∃v,v_=v∧X_=[aG 5 1 v 4 (aP (jb n))]∧S_=[]):=by
 exact lX fun m=>Calls.mono (number n _ hn) (fun e w' ⟨v,h,ho,hf⟩=>⟨v,v,_,_,_,_,h,⟨v,rfl,rfl,rfl⟩,ho,hf⟩)
end Go.Proofs.YtmibdabdlgmafaaGreatDoor
end
section
set_option maxRecDepth 20000
namespace Go.Proofs.YtmibdabdlgmafaaGreatDoor
open Go.Eng Go.Hx
def sb(l:dC):iK→dC
 | .written p r=>cw l p r
 | .renamed a c=>match bz l a with
  |none=>l
  |some r=>cw (eK l a) c r
 | .removed p=>eK l p
theorem D9{g:Nat}{l:dC}{a c:List UInt8}:b6 Tryz.prog 337 [.agg [SV a,SV c].toArray,.map (some g)] [dw SV g (ek l)] [] (fun v_ X_ S_=>v_=(.tuple #[])∧X_=[dw SV g (ek (sb l (.renamed a c)))]∧S_=[]):=by
 refine aJ (N:=21) Tryz.func337 rfl rfl (by simp) fun b=> ?_
 refine ah<|aj<| ?_
 refine hx (bn rfl (fun g2=> ?_))
 refine aF (fun w m=>m.bq 0 rfl (show _=aE g2 257 [SV a,SV c]from congrArg (aE _ _) (aR _))) ?_
 rcases oH (l:=l) a with⟨h1,h2⟩|⟨r,h1,h2⟩
 ·refine ai<|ak (X' :=[_,_]) (S' :=[]) (fun _ m=>m)<|ae<|ah<|aj<|hy (fun _=>aa rfl)<|hy (fun _=>aD rfl qW (by decide))<|hy (fun m=>aq rfl lS (ax (m.aN 0 rfl) (i:=0) rfl))<|hy (fun m=>yV (fM (enc:=SV) rfl rfl Tryz.underlying174 jT (jI Tryz.underlying9) (m.lP 1 rfl)) ((show eM true (.slice none 0 0) (bz (ek l) a)= .tuple #[.slice none 0 0,.bool false] by rw[h2];rfl)))<|hy (fun _=>aa rfl)<|hy (fun _=>aH rfl rfl)<|hy (fun _=>aH rfl rfl)<|hy (fun _=>ab rfl)<|hy (fun _=>ab rfl)<|ai<|al (ρ' :=[(5,_),(4,_),(2,_),(0,_),(1,_)]) ⟨rfl,rfl,rfl,rfl,rfl,trivial⟩<|ae<|ah<|aj<|hy (fun _=>aa rfl)<|ai<|ae<| ?_
  refine cZ rfl (rfl) ?_
  refine aA<| ?_
  have e:sb l (.renamed a c)=l:=by rw[sb,h1]
  rw[e]
  exact fj trivial rfl [1] rfl [] rfl ⟨rfl,rfl,rfl⟩
 ·refine ai<|ae<|ah<|aj<|hy (fun _=>aa rfl)<|hy (fun _=>aD rfl qW (by decide))<|hy (fun m=>aq rfl lS (ax (m.aN 0 rfl) rfl))<|hy (fun m=>yV (fM (enc:=SV) rfl rfl Tryz.underlying174 jT (jI Tryz.underlying9) (m.lP 1 rfl)) ((show eM true (.slice none 0 0) (bz (ek l) a)= .tuple #[r.val,.bool true] by rw[h2];rfl)))<|hy (fun _=>aa rfl)<|hy (fun _=>aH rfl rfl)<|hy (fun _=>aH rfl rfl)<|hy (fun _=>ab rfl)<|hy (fun _=>ab rfl)<|ai<|al (ρ' :=[(5,_),(4,_),(2,_),(0,_),(1,_)]) ⟨rfl,rfl,rfl,rfl,rfl,trivial⟩<|ae<|ah<|aj<|hy (fun _=>aa rfl)<|ai<|ae<| ?_
  refine gj rfl (rfl) ?_
  refine ah<|aj<|hy (fun _=>aa rfl)<|hy (fun _=>aD rfl qW (by decide))<|hy (fun m=>aq rfl lS (ax (m.aN 0 rfl) (i:=0) rfl))<| ?_
  refine cB (wN (enc:=SV) 1 rfl rfl rfl Tryz.underlying174 (jI Tryz.underlying9) ?_)
  refine ai<|al (ρ' :=[(13,_),(5,_),(4,_),(2,_),(0,_),(1,_)]) ⟨rfl,rfl,rfl,rfl,rfl,rfl,trivial⟩<|ak (X' :=[_,_]) (S' :=[]) (fun _ m=>m)<|ae<|aj<|hy (fun _=>aa rfl)<|hy (fun _=>aD rfl A0 (by decide))<|hy (fun m=>aq rfl lS (ax (m.aN 1 rfl) (i:=1) rfl))<|hy (fun _=>aa rfl)<| ?_
  refine cB (pg (enc:=SV) 0 rfl rfl rfl rfl Tryz.underlying174 (jI Tryz.underlying9) ?_)
  refine ai<|al (ρ' :=[(13,_),(5,_),(4,_),(2,_),(0,_),(1,_)]) ⟨rfl,rfl,rfl,rfl,rfl,rfl,trivial⟩<|ak (X' :=[_,_]) (S' :=[]) (fun _ m=>m)<| ?_
  have e:cw (eK (ek l) a) c r.val=ek (sb l (.renamed a c)):=by rw[sb,h1,s3,oP]
  refine ak (fun w m=>m.bq 0 rfl (show _=dw SV g (ek (sb l (.renamed a c)))from congrArg (dw SV g) e)) ?_
  exact fj trivial rfl [0] rfl [] rfl ⟨rfl,rfl,rfl⟩
def cR.kK(st:cR)(c:iK)(A:Option Addr)(k:Nat):cR:={st.eY with seen:=sb st.seen c,waits:=st.waits++[c],wA:=A,wc:=k}
theorem mR{l:dC}{p:List UInt8}{x:aX}(h:x∈(eK l p).map (·.2)):x∈l.map (·.2):=by
 induction l with
 |nil=>exact h
 |cons a q ih=>
  obtain⟨k,u⟩:=a
  simp only[eK]at h
  split at h
  ·exact List.mem_cons_of_mem _ h
  ·simp only[List.map_cons,List.mem_cons]at h ⊢
   rcases h with rfl|h
   ·exact .inl rfl
   ·exact .inr (ih h)
theorem zo{l:dC}{c:iK}(hc:c.row=none){x:aX}(h:x∈(sb l c).map (·.2)):x∈l.map (·.2):=by
 cases c with
 |written p r=>cases hc
 |renamed a b=>
  simp only[sb]at h
  split at h
  ·exact h
  ·rename_i r hr
   rcases mN h with h|h
   ·exact mR h
   ·exact h▸List.mem_map.2 ⟨_,iU hr,rfl⟩
 |removed p=>exact mR h
theorem Bu(l:dC)(c:iK):(sb l c).length≤l.length+1:=by
 cases c with
 |written p r=>exact pj l p r
 |renamed a b=>
  simp only[sb]
  split
  ·omega
  ·rename_i r hr
   have h1:=pj (eK l a) b r
   have h2:=tv l a
   omega
 |removed p=>have h2:=tv l p;show(eK l p).length≤_;omega
theorem se{st:cR}{c:iK}{A:Option Addr}{k:Nat}(hc:c.row=none):∀x∈rowsOf (st.kK c A k),x∈rowsOf st:=by
 intro x hx
 unfold rowsOf cR.kK at hx
 simp only[cR.eY,List.mem_append,List.filterMap_append]at hx
 unfold rowsOf
 simp only[List.mem_append]
 rcases hx with(h|h)|h|h
 ·exact .inl (.inl (zo hc h))
 ·exact .inl (.inr h)
 ·exact .inr h
 ·simp[hc]at h
theorem od.kK{st:cR}{k:Nat}(h:od st k){c:iK}(hc:c.row=none)(A:Option Addr)(j:Nat):od (st.kK c A j) (k+1):=by
 refine⟨jK h.ck,h.room, ?_, ?_,fun x hx=>h.small x (se hc x hx)⟩
 ·have:=Bu st.seen c
  have:=h.seen
  show(sb st.seen c).length≤k+1
  omega
 ·have:=h.rest
  show st.c9.length+(st.waits++[c]).length≤k+1
  simp only[List.length_append,List.length_cons,List.length_nil]
  omega
theorem Hq{g:Nat}{st:cR}{a c:List UInt8}(hp:st.ck≤1000000000000)(hw:st.waits.length≤1000000):b6 Tryz.prog 116 [.pointer (some ⟨g,0,none⟩),(iK.renamed a c).val] [bO g st] [] (fun v_ X_ S_=>∃A k,v_=(.tuple #[])∧X_=[bO g (st.kK (.renamed a c) A k)]∧S_=[]):=by
 have hsw:st.eY.waits.length=st.waits.length:=rfl
 refine aJ (N:=25) Tryz.func116 rfl rfl (by simp) fun b=> ?_
 refine ah<|aj<|hy (fun _=>aa rfl)<| ?_
 refine hx (au rfl Tryz.call181 (uG (by omega)) [0] rfl [] rfl ?_)
 rintro _ _ _ ⟨rfl,rfl,rfl⟩
 refine aF (fun w m=>(m.perm (ar [0] _ [_] _ rfl)).unpack) ?_
 refine ai<|al (ρ' :=[(0,_),(1,_)]) ⟨rfl,rfl,trivial⟩<|ak (X' :=[_,_,_,_,_]) (S' :=[]) (fun _ m=>m)<|ae<|ah<|cq [8] [(0,some 0),(1,some 0),(2,some 0),(3,some 0),(4,some 0),(5,some 0),(6,some 0),(7,some 0),(8,none)] (by kernel_rfl) (by kernel_rfl) rfl 0<|an (aa rfl)<|an (aa rfl)<|an (aL rfl)<|an (aD rfl jo (by decide))<|bY (fun m=>aq rfl oF (ax (m.aN 0 rfl) rfl))<|an (e8 rfl rfl)<|an (y9 rfl (by kernel_rfl))<|an (aa rfl)<| ?_
 refine dq (yq rfl rfl (fun w=>by kernel_rfl) Tryz.call337 (D9) [1] rfl [] rfl ?_)
 rintro _ _ _ ⟨rfl,rfl,rfl⟩
 refine⟨(fun h=>absurd h (by decide)), ?_⟩
 refine bk<|al (ρ' :=[(0,_),(1,_)]) ⟨rfl,rfl,trivial⟩<|ak (X' :=[_,_,_,_,_]) (S' :=[]) (fun _ m=>m)<|ae<|aj<|hy (fun _=>aa rfl)<|hy (fun _=>aa rfl)<|hy (fun _=>aL rfl)<|hy (fun _=>aD rfl l7 (by decide))<|hy (fun m=>aq rfl Cw (ax (m.aN 1 rfl) rfl))<|hy (fun _=>aa rfl)<| ?_
 refine hx (bJ Tryz.underlying175 vn rfl rfl rfl (by simp[Value.cells,iK.val]) (by decide) (by decide) (fun g21=> ?_))
 have hA_b21:0<1→(some (⟨g21,0,none⟩:Addr))≠none:=fun _ h=>by cases h
 refine aF (fun w m=>m.bq 0 rfl (show _=aG 232 1 (.slice (some ⟨g21,0,none⟩) 1 1) 1 [((iK.renamed a c)).val]from rfl)) ?_
 refine hx (bp 4 rfl rfl rfl Tryz.underlying175 Tryz.underlying175 (by exact .inl rfl) vn rfl (fun m=>Src.bS (m.ord 0 rfl)) (by simp[iK.val,Value.oneCell']) (by unfold maxLen;omega) (by omega) (fun u=> ?_))
 refine aB (fun m=>(m.own 0 rfl).slice) ?_
 rintro⟨A_d3,c_d3,rfl,hc_d3⟩
 refine aB (fun m=>(m.ord 0 rfl).2.1) fun hA_d3=> ?_
 refine hy (fun _=>aL rfl)<|hy (fun _=>aD rfl l7 (by decide))<| ?_
 refine cB (bX 3 rfl rfl rfl ym rfl (by first|exact Nat.le_of_ble_eq_true rfl|simp) ?_)
 refine ai<|al (ρ' :=[(0,_),(1,_)]) ⟨rfl,rfl,trivial⟩<|ak (X' :=[_,_,_,_,_,_]) (S' :=[]) (fun _ m=>m)<| ?_
 refine ak (fun w m=>m.bq 0 rfl (show _=aE g 177 (ll (st.kK ((iK.renamed a c)) A_d3 c_d3))from by simp[ll,cR.kK,cR.eY])) ?_
 refine ak (fun w m=>m.bq 3 rfl (show _=dw SV st.gs (ek (st.kK ((iK.renamed a c)) A_d3 c_d3).seen)from rfl)) ?_
 refine ak (fun w m=>m.bq 2 rfl (show _=aG 232 1 (.slice A_d3 (st.kK ((iK.renamed a c)) A_d3 c_d3).waits.length c_d3) (st.kK ((iK.renamed a c)) A_d3 c_d3).waits.length ((st.kK ((iK.renamed a c)) A_d3 c_d3).waits.map iK.val)from by simp[cR.kK,cR.eY])) ?_
 refine ak (X' :=dp (rowsOf (st.kK ((iK.renamed a c)) A_d3 c_d3))::_) (fun w m=>(m.perm (ar [5] _ [_] _ rfl)).xI ((se rfl))) ?_
 refine ak (X' :=bO g (st.kK ((iK.renamed a c)) A_d3 c_d3)::_) (fun w m=>(m.perm (ar [3,2,3,1,0] _ [_,_,_,_,_] _ rfl)).pack) ?_
 exact fj trivial rfl [0] rfl [] rfl ⟨_,_,rfl,rfl,rfl⟩
def bW(st:cR)(a c:List UInt8):Int:=if¬fp c then 1 else eb st a
theorem Bm{g:Nat}{st:cR}{a c:List UInt8}{k:Nat}(ok:od st k)(hk:k≤100000):b6 Tryz.prog 108 [.pointer (some ⟨g,0,none⟩),.string (strOf a),.string (strOf c)] [bO g st] [] (fun v_ X_ S_=>∃st1 A j,v_=(.int .i64 (bW st a c))∧X_=[bO g st1]∧S_=[]∧((bW st a c≠0∧st1=st)∨(bW st a c=0∧st1=st.kK (.renamed a c) A j))):=by
 have hp:=ok.ck
 have hw:st.waits.length≤1000000:=by have:=ok.rest;omega
 refine aJ (N:=23) Tryz.func108 rfl rfl (by simp) fun b=> ?_
 refine ah<|aj<|hy (fun _=>ab rfl)<|ai<|ae<|ah<|ah<|aj<|hy (fun _=>aa rfl)<| ?_
 refine hx (au rfl Tryz.call115 (Ab) [] rfl [] rfl ?_)
 rintro _ _ _ ⟨rfl,rfl,rfl⟩
 refine hy (fun _=>eE rfl)<|ai<|al (ρ' :=[(10,_),(6,_),(0,_),(1,_),(2,_)]) ⟨rfl,rfl,rfl,rfl,rfl,trivial⟩<|ak (X' :=[_]) (S' :=[]) (fun _ m=>m)<|ae<| ?_
 refine cj rfl (fun h1=> ?_) (fun h1=> ?_)
 ·have e:bW st a c=1:=by rw[bW,if_pos h1]
  rw[e]
  refine ah<|aj<|hy (fun _=>ab rfl)<|ai<|ae<|aU<|ay<| ?_
  exact aZ trivial rfl rfl [0] rfl [] rfl ⟨_,none,0,rfl,rfl,rfl,.inl ⟨by decide,rfl⟩⟩
 ·have e:bW st a c=eb st a:=by rw[bW,if_neg h1]
  rw[e]
  refine aA<|ae<|ah<|ah<|aj<|hy (fun _=>aa rfl)<|hy (fun _=>aa rfl)<| ?_
  refine hx (au rfl Tryz.call158 (Aj) [0] rfl [] rfl ?_)
  rintro _ _ _ ⟨rfl,rfl,rfl⟩
  refine hy (fun _=>ab rfl)<|ai<|al (ρ' :=[(7,_),(10,_),(6,_),(0,_),(1,_),(2,_)]) ⟨rfl,rfl,rfl,rfl,rfl,rfl,trivial⟩<|ak (X' :=[_]) (S' :=[]) (fun _ m=>m)<|ae<|ah<|aj<|hy (fun _=>aa rfl)<|hy (fun _=>dx rfl rfl)<|ai<|al (ρ' :=[(15,_),(7,_),(10,_),(6,_),(0,_),(1,_),(2,_)]) ⟨rfl,rfl,rfl,rfl,rfl,rfl,rfl,trivial⟩<|ae<| ?_
  refine cj rfl (fun h2=> ?_) (fun h2=> ?_)
  ·refine ah<|aj<|hy (fun _=>aa rfl)<|hy (fun _=>ab rfl)<|ai<|al (ρ' :=[(6,_),(15,_),(7,_),(10,_),(0,_),(1,_),(2,_)]) ⟨rfl,rfl,rfl,rfl,rfl,rfl,rfl,trivial⟩<|ae<|aU<|ay<| ?_
   exact aZ trivial rfl rfl [0] rfl [] rfl ⟨_,none,0,rfl,rfl,rfl,.inl ⟨h2,rfl⟩⟩
  ·have h0:=Decidable.not_not.1 h2
   rw[h0]
   refine aA<|ae<|ah<|aj<|hy (fun _=>aa rfl)<|hy (fun _=>aa rfl)<|hy (fun _=>aa rfl)<|hy (fun _=>yV (bD Gb rfl rfl (by kernel_rfl) (.cons (o:=0) (sz:=1) (by kernel_rfl) rfl rfl (Nat.le_of_ble_eq_true rfl) (.cons (o:=1) (sz:=1) (by kernel_rfl) rfl rfl (Nat.le_of_ble_eq_true rfl) .nil))) ((rfl:_=Value.agg [SV a,SV c].toArray)))<|hy (fun _=>yV (qk rfl Tryz.underlying257 (fun _ h=>by cases h)) ((rfl:_=(iK.renamed a c).val)))<| ?_
   refine hx (au rfl Tryz.call116 (Hq (by omega) (by omega)) [0] rfl [] rfl ?_)
   rintro _ _ _ ⟨A,k2,rfl,rfl,rfl⟩
   refine ai<|al (ρ' :=[(15,_),(7,_),(10,_),(6,_),(0,_),(1,_),(2,_)]) ⟨rfl,rfl,rfl,rfl,rfl,rfl,rfl,trivial⟩<|ak (X' :=[_]) (S' :=[]) (fun _ m=>m)<|ae<|ah<|aj<|hy (fun _=>ab rfl)<|ai<|ae<|aU<| ?_
   exact aZ trivial rfl rfl [0] rfl [] rfl ⟨_,_,_,rfl,rfl,rfl,.inr ⟨rfl,rfl⟩⟩
end Go.Proofs.YtmibdabdlgmafaaGreatDoor
end
section
namespace Go.Eng
open Go.RowKit Go.ChangeShapes Go.WideShapes
theorem pI{zs:List Int}(h:∀n∈zs,(Lit.int .u8 n).wf=true):zs.map (Value.int .u8)=aP (zs.map fun n=>UInt8.ofNat n.toNat):=by
 rw[aP,List.map_map]
 apply List.map_congr_left
 intro n hn
 have:=bounds_u8 (h n hn)
 simp only[B8,Function.comp]
 have e:(UInt8.ofNat n.toNat).toNat=n.toNat:=by
  rw[UInt8.toNat_ofNat']
  exact Nat.mod_eq_of_lt (by omega)
 rw[e]
 congr 1
 omega
theorem uF{W:World}{x:Addr}{len cap:Nat}{zs:List Int}(hl:len≤cap)(hz:zs.length=cap)(hcell:∀i,i<zs.length→W.cell? (x.add i)=some (.int .u8 (zs.getD i 0)))(hw:∀n∈zs,(Lit.int .u8 n).wf=true):
  Rd W 1 (some x) len (aP ((zs.take len).map fun n=>UInt8.ofNat n.toNat)):=by
 rw[←pI (fun n hn=>hw n (List.mem_of_mem_take hn))]
 refine⟨by simp;omega,fun _ e=>(by cases e),fun j u hu=> ?_⟩
 have hj:=(List.getElem?_eq_some_iff.1 hu).1
 simp at hj
 have hc:=hcell j (by omega)
 rw[List.getElem?_map,List.getElem?_take,if_pos (by omega)]at hu
 rw[List.getD,List.getElem?_eq_getElem (by omega)]at hc
 rw[List.getElem?_eq_getElem (by omega)]at hu
 simp at hu hc
 rw[Option.getD_some,hc,←hu]
theorem oO{H:Type}{enc:TypeId×Value→H}{P:Program}{W:World}{t e:TypeId}{A:Option Addr}{len cap:Nat}{d:DataW H}{ps:List MemPlace}{spare:Nat→Bool}{held:Bool}
  (hu:P.underlying t=some (.slice e)) (he:P.underlying e=some (.int .u8)) (hc:P.cellsOf e=1) (h:DataW.Trod enc P W 0 spare held t (.slice A len cap) d ps):len≤cap∧∃l,Rd W 1 A len (aP l):=by
 obtain⟨fuel,hf⟩:=h
 rcases open_ints hu he hc hf with⟨hcs,_⟩|⟨x,l,c,zs,hcs,_,hl,hm,hz,_,hcell,hwz⟩
 ·simp[Value.cells]at hcs
  obtain⟨rfl,rfl,rfl⟩:=hcs
  exact⟨Nat.le_refl _,[],Rd.nil _ _ _⟩
 ·simp[Value.cells]at hcs
  obtain⟨rfl,rfl,rfl⟩:=hcs
  refine⟨hl,_,uF (cap:=zs.length) (by rw[hz];split <;> omega) rfl hcell hwz⟩
theorem nr{H:Type}{enc:TypeId×Value→H}{P:Program}{W:World}{base:Nat}{spare:Nat→Bool}{held:Bool}{t e:TypeId}{k:IntKind}{a:Option Addr}{len cap:Nat}{d:DataW H}{ps:List MemPlace}{ts:List TypeId}{ds:List (DataW H)}{j:Nat}
  (hsz:(DataW.weightsEach P ts ds).all (· ≤reachBytes)=true) (ht:ts[j]? =some t) (hd:ds[j]? =some d) (hu:P.underlying t=some (.slice e)) (he:P.underlying e=some (.int k)) (hc:P.cellsOf e=1) (hB:P.bytesOf e=1)
  (h:DataW.Trod enc P W base spare held t (.slice a len cap) d ps):len≤140737488351232:=by
 obtain⟨fuel,hf⟩:=h
 rcases open_ints hu he hc hf with⟨hcs,_⟩|⟨x,l,c,zs,hcs,_,hl,_,hz,hx,_,_⟩
 ·simp[Value.cells]at hcs
  obtain⟨rfl,rfl,rfl⟩:=hcs
  simp
 ·simp[Value.cells]at hcs
  obtain⟨rfl,rfl,rfl⟩:=hcs
  obtain⟨hx,_⟩:=Prod.mk.inj hx
  subst hx
  have z:=sized_slice hsz ht hd hu
  rw[hB,Nat.mul_one]at z
  have hl2:len≤zs.length:=by rw[hz];split <;> omega
  have h1:(lits (H:=H) k (zs.take len)).length+(lits (H:=H) k (zs.drop len)).length=zs.length:=by
   simp[lits]
   omega
  rw[h1]at z
  exact Nat.le_trans hl2 z
theorem Ai{H:Type}{enc:TypeId×Value→H}{P:Program}{w:World}{base:Nat}{spare:Nat→Bool}{held:Bool}{r:Reach}{b0:Nat}{t:TypeId}{v:Value}{d:DataW H}{ps:List MemPlace}(ht:P.underlying t=some (.int .i64))(hval:Value.okWide P w r b0 t v)(hd:DataW.Trod enc P w base spare held t v d ps):
  ∃n:Int,v= .int .i64 n∧(-9223372036854775808≤n∧n≤9223372036854775807)∧ps=[]:=by
 obtain⟨n,rfl,_,rfl,hw⟩:=open_int ht hval hd
 refine⟨n,rfl, ?_,rfl⟩
 simp only[Lit.wf,IntKind.min,IntKind.max,IntKind.signed,IntKind.bits]at hw
 simp at hw
 omega
end Go.Eng
end
section
namespace Go.Eng
open Go.RowKit Go.ChangeShapes Go.WideShapes
inductive Cell
 |v (x:Value)
 |s (sz:Nat) (A:Option Addr) (n c:Nat) (xs:List Cell)
def Cell.val:Cell→Value
 | .v x=>x
 | .s _ A n c _=>.slice A n c
mutual
def Cell.cQ:Cell→Nat→Prop
 | .v _=>fun _=>False
 | .s _ A _ _ xs=>fun k=>(xs≠ []∧∃a,A=some a∧k=a.block)∨vh xs k
def vh:List Cell→Nat→Prop
 | []=>fun _=>False
 |x::r=>fun k=>x.cQ k∨vh r k
end
mutual
def Cell.holds(w:World):Cell→Prop
 | .v _=>True
 | .s sz A n c xs=>Rd w sz A n (xs.map Cell.val)∧n≤c∧gz w xs
def gz(w:World):List Cell→Prop
 | []=>True
 |x::r=>x.holds w∧gz w r
end
theorem fx{w:World}:∀{xs:List Cell},gz w xs↔∀x∈xs,x.holds w
 | []=>by simp[gz]
 |x::r=>by simp only[gz,fx (xs:=r),List.mem_cons,forall_eq_or_imp]
mutual
theorem Cell.gE{S:Nat→Prop}{w w' :World}(f:Fr S w w'):∀(c:Cell),(∀k,c.cQ k→¬S k)→c.holds w→c.holds w'
 | .v _,_,_=>trivial
 | .s sz A n c xs,h,hh=>by
  obtain⟨h1,h2,h3⟩:=hh
  refine⟨Rd.gE h1 f (fun k hk=>h k ?_),h2,CY f xs (fun k hk=>h k (.inr hk)) h3⟩
  obtain⟨hne,a,ha,hk⟩:=hk
  exact .inl ⟨fun e=>hne (by rw[e];rfl),a,ha,hk⟩
theorem CY{S:Nat→Prop}{w w' :World}(f:Fr S w w'):∀(xs:List Cell),(∀k,vh xs k→¬S k)→gz w xs→gz w' xs
 | [],_,_=>trivial
 |x::r,h,hh=>⟨Cell.gE f x (fun k hk=>h k (.inl hk)) hh.1,CY f r (fun k hk=>h k (.inr hk)) hh.2⟩
end
mutual
theorem Cell.low{w:World}:∀(c:Cell) {k:Nat},c.holds w→c.cQ k→k<w.heap.size
 | .v _,_,_,h=>h.elim
 | .s sz A n c xs,k,hh,hk=>by
  obtain⟨h1,h2,h3⟩:=hh
  rcases hk with⟨hne,a,ha,hk⟩|hk
  ·exact(cr sz A n (xs.map Cell.val)).low h1 ⟨fun e=>hne (List.map_eq_nil_iff.1 e),a,ha,hk⟩
  ·exact FR xs h3 hk
theorem FR{w:World}:∀(xs:List Cell) {k:Nat},gz w xs→vh xs k→k<w.heap.size
 | [],_,_,h=>h.elim
 |x::r,k,hh,hk=>by
  rcases hk with hk|hk
  ·exact Cell.low x hh.1 hk
  ·exact FR r hh.2 hk
end
def wi(c:Cell):bc:=⟨c.cQ,fun w=>c.holds w,fun f h x=>c.gE f h x,fun x hk=>c.low x hk⟩
theorem View.Ha{sz n c:Nat}{A:Option Addr}{xs:List Cell}:View (wi (.s sz A n c xs)) (cr sz A n (xs.map Cell.val)):=
 .of (fun w h=>h.1) (fun k hk=>by
  obtain⟨hne,a,ha,hk⟩:=hk
  exact .inl ⟨fun e=>hne (by rw[e];rfl),a,ha,hk⟩)
inductive Ty(P:Program):TypeId→List Cell→Prop
 |int {t:TypeId} {k:IntKind} {z:Int} (ht:P.underlying t=some (.int k)) (hw:(Lit.int k z).wf=true):Ty P t [.v (.int k z)]
 |bool {t:TypeId} {b:Bool} (ht:P.underlying t=some .bool):Ty P t [.v (.bool b)]
 |str {t:TypeId} {s:List UInt8} (ht:P.underlying t=some .string) (hs:s.length≤140737488351232):Ty P t [.v (.string (strOf s))]
 |slice {t e:TypeId} {A:Option Addr} {n c:Nat} {xs:List Cell} (ht:P.underlying t=some (.slice e)) (hc:n≤c) (hn:n*P.bytesOf e≤140737488351232) (hl:xs.length=n*P.cellsOf e)
   (h:∀i,i<n→Ty P e ((xs.drop (i*P.cellsOf e)).take (P.cellsOf e))):Ty P t [.s (P.cellsOf e) A n c xs]
 |arr {t e:TypeId} {n:Nat} {xs:List Cell} (ht:P.underlying t=some (.array n e)) (hl:xs.length=P.cellsOf t) (h:∀i,i<n→Ty P e ((xs.drop (i*P.cellsOf e)).take (P.cellsOf e))):Ty P t xs
 |struct {t:TypeId} {fs:Array Field} {xs:List Cell} (ht:P.underlying t=some (.struct fs)) (hl:xs.length=P.cellsOf t) (h:∀(i:Nat) (f:Field),fs[i]? =some f→Ty P f.type ((xs.drop f.offset).take (P.cellsOf f.type))):Ty P t xs
def iF(P:Program):List Field→Nat→Nat→Bool
 | [],o,e=>o == e
 |f::r,o,e=>f.offset == o && iF P r (o+P.cellsOf f.type) e
def parts(P:Program):Nat→TypeId→Bool
 |0,_=>false
 |n+1,t=>match P.underlying t with
  |some (.int _)|some .bool|some .string=>true
  |some (.slice e)=>parts P n e && decide (0<P.cellsOf e)
  |some (.array m e)=>parts P n e && (P.cellsOf t == m*P.cellsOf e)
  |some (.struct fs)=>fs.toList.all (fun f=>parts P n f.type) && iF P fs.toList 0 (P.cellsOf t)
  |_=>false
section
variable{H:Type}{enc:TypeId×Value→H}{P:Program}{w:World}{base:Nat}{spare:Nat→Bool}{held:Bool}
theorem xh{b:Nat}{a:Addr}{n:Nat}{cs:List Value}(h:w.cells? b a n=some cs):cs.length=n∧∀j u,cs[j]? =some u→w.cell? (a.add j)=some u:=by
 obtain⟨hb,hl,hcell⟩:=World.cells?_some h
 refine⟨hl,fun j u hu=> ?_⟩
 have hj:j<n:=by rw[←hl];exact(List.getElem?_eq_some_iff.1 hu).1
 rw[hcell j hj,hu]
theorem gQ{e:TypeId}{d:DataW H}{n:Nat}:∀{ds:List (DataW H)},d∈ds→n∈d.weights P e→n∈DataW.weightsAll P e ds
 | [],h,_=>by cases h
 |a::r,h,hn=>by
  simp only[DataW.weightsAll,List.mem_append]
  rcases List.mem_cons.1 h with rfl|h
  ·exact .inl hn
  ·exact .inr (gQ h hn)
theorem pieces{sz:Nat}{Q:List Cell→Prop}{R:Nat→List Value→Prop}:∀(m:Nat),(∀i,i<m→∃ys:List Cell,ys.length=sz∧Q ys∧R i (ys.map Cell.val)∧gz w ys)→
  ∃xs:List Cell,xs.length=m*sz∧(∀i,i<m→Q ((xs.drop (i*sz)).take sz)∧R i (((xs.drop (i*sz)).take sz).map Cell.val))∧gz w xs
 |0,_=>⟨[],by simp,fun i hi=>absurd hi (by omega),trivial⟩
 |m+1,h=>by
  obtain⟨xs,h1,h2,h3⟩:=pieces m (fun i hi=>h i (by omega))
  obtain⟨ys,h4,h5,h6,h7⟩:=h m (by omega)
  have hlen:(m+1)*sz=m*sz+sz:=by rw[Nat.add_mul,Nat.one_mul]
  refine⟨xs++ys,by rw[List.length_append,h1,h4,hlen],fun i hi=> ?_,fx.2 fun x hx=> ?_⟩
  ·by_cases hm:i=m
   ·subst hm
    have e:((xs++ys).drop (i*sz)).take sz=ys:=by
     rw[←h1,List.drop_left,List.take_of_length_le (by omega)]
    rw[e]
    exact⟨h5,h6⟩
   ·have hi' :i<m:=by omega
    have hle:i*sz+sz≤m*sz:=by
     have:=Nat.mul_le_mul_right sz (show i+1≤m by omega)
     rwa [Nat.add_mul,Nat.one_mul]at this
    have e:((xs++ys).drop (i*sz)).take sz=(xs.drop (i*sz)).take sz:=by
     rw[List.drop_append_of_le_length (by omega),List.take_append_of_le_length (by rw[List.length_drop];omega)]
    rw[e]
    exact h2 i hi'
  ·rcases List.mem_append.1 hx with hx|hx
   ·exact fx.1 h3 x hx
   ·exact fx.1 h7 x hx
theorem mG{xs:List Value}{sz i j:Nat}(hj:j<sz):((xs.drop (i*sz)).take sz)[j]? =xs[i*sz+j]? :=by
 rw[List.getElem?_take,if_pos hj,List.getElem?_drop]
theorem lG{cs:List Value}:∀(fs:List Field) (o e:Nat),iF P fs o e=true→(∀f∈fs,∃ys:List Cell,ys.length=P.cellsOf f.type∧Ty P f.type ys∧ys.map Cell.val=(cs.drop f.offset).take (P.cellsOf f.type)∧gz w ys)→
  o≤e∧∃xs:List Cell,xs.length=e-o∧xs.map Cell.val=(cs.drop o).take (e-o)∧gz w xs∧∀f∈fs,o≤f.offset∧Ty P f.type ((xs.drop (f.offset-o)).take (P.cellsOf f.type))
 | [],o,e,hc,_=>by
  have:o=e:=by simpa[iF]using hc
  subst this
  exact⟨Nat.le_refl _,[],by simp,by simp,trivial,by simp⟩
 |f::r,o,e,hc,h=>by
  simp only[iF,Bool.and_eq_true,beq_iff_eq]at hc
  obtain⟨h0,hc⟩:=hc
  obtain⟨hle,xs,h1,h2,h3,h4⟩:=lG r _ e hc (fun g hg=>h g (List.mem_cons_of_mem _ hg))
  obtain⟨ys,h5,h6,h7,h8⟩:=h f (List.mem_cons_self ..)
  rw[h0]at h7
  refine⟨by omega,ys++xs,by rw[List.length_append,h1,h5];omega, ?_,fx.2 fun x hx=> ?_,fun g hg=> ?_⟩
  ·rw[List.map_append,h7,h2,←List.drop_drop,show e-o=P.cellsOf f.type+(e-(o+P.cellsOf f.type)) by omega,List.take_add]
  ·rcases List.mem_append.1 hx with hx|hx
   ·exact fx.1 h8 x hx
   ·exact fx.1 h3 x hx
  ·rcases List.mem_cons.1 hg with rfl|hg
   ·refine⟨by omega, ?_⟩
    rw[h0,Nat.sub_self,List.drop_zero,←h5,List.take_left]
    exact h6
   ·obtain⟨h9,h10⟩:=h4 g hg
    refine⟨by omega, ?_⟩
    have e1:(ys++xs).drop (g.offset-o)=xs.drop (g.offset-(o+P.cellsOf f.type)):=by
     rw[List.drop_append,List.drop_of_length_le (by omega),List.nil_append]
     congr 1
     omega
    rw[e1]
    exact h10
theorem jn:∀(k fuel:Nat) (t:TypeId) (cs:List Value) (x:DataW H×List MemPlace),parts P k t=true→DataW.trod enc P w 0 spare held fuel t cs=some x→(∀q∈DataW.weights P t x.1,q≤140737488351232)→∃xs:List Cell,xs.map Cell.val=cs∧gz w xs∧Ty P t xs
 |0,fuel,t,cs,x,hp,_,_=>by simp[parts]at hp
 |k+1,fuel,t,cs,x,hp,h,hw=>by
  unfold parts at hp
  split at hp
  ·rename_i q ht
   obtain⟨z,rfl,_,hz⟩:=DataW.trod_int ht h
   exact⟨[.v (.int q z)],rfl,⟨trivial,trivial⟩,.int ht hz⟩
  ·rename_i ht
   obtain⟨b,rfl,_⟩:=DataW.trod_bool ht h
   exact⟨[.v (.bool b)],rfl,⟨trivial,trivial⟩,.bool ht⟩
  ·rename_i ht
   obtain⟨s,rfl,hx,_⟩:=DataW.trod_string ht h
   have h1:=hw s.data.toList.length (by rw[hx];simp[DataW.weights])
   exact⟨[.v (.string s)],rfl,⟨trivial,trivial⟩,.str (s:=bytesOf s) ht h1⟩
  ·rename_i e ht
   simp only[Bool.and_eq_true,decide_eq_true_eq]at hp
   rcases DataW.trod_slice ht h with⟨rfl,rfl⟩|⟨a,len,cap,elems,rest,m,_,rfl,hx,hb,hl,hm,hlen,hel,_,_⟩
   ·exact⟨[.s (P.cellsOf e) none 0 0 []],rfl,⟨⟨Rd.nil _ _ _,Nat.le_refl _,trivial⟩,trivial⟩,.slice ht (Nat.le_refl _) (by simp) (by simp) (fun i hi=>absurd hi (by omega))⟩
   ·have hwe:∀d∈elems.map (·.1),∀q∈DataW.weights P e d,q≤140737488351232:=fun d hd q hq=>hw q (by
     rw[hx]
     simp only[DataW.weights,ht,List.mem_cons,List.mem_append]
     exact .inr (.inl (gQ hd hq)))
    obtain⟨xs,h1,h2,h3⟩:=pieces (w:=w) (sz:=P.cellsOf e) (Q:=Ty P e) (R:=fun i vs=>∀j u,vs[j]? =some u→w.cell? (a.add (i*P.cellsOf e+j))=some u) len (fun i hi=>by
     have h1:=hel i hi
     rw[List.getElem?_eq_getElem (by omega)]at h1
     obtain⟨c,hc1,hc2⟩:=Option.bind_eq_some_iff.1 h1
     obtain⟨hcl,hcc⟩:=xh hc1
     obtain⟨ys,h4,h5,h6⟩:=jn k _ e c _ hp.1 hc2 (fun q hq=>hwe _ (List.mem_map.2 ⟨_,List.getElem_mem _,rfl⟩) q hq)
     refine⟨ys,by rw[←hcl,←h4,List.length_map],h6,fun j u hu=> ?_,h5⟩
     rw[h4]at hu
     have:=hcc j u hu
     rwa [add_add]at this)
    have hR:Rd w (P.cellsOf e) (some a) len (xs.map Cell.val):=⟨by rw[List.length_map,h1],fun _ e=>(by cases e),fun q u hu=>by
     have hq:q<len*P.cellsOf e:=by
      have:=(List.getElem?_eq_some_iff.1 hu).1
      rwa [List.length_map,h1]at this
     have hd:q/P.cellsOf e<len:=(Nat.div_lt_iff_lt_mul hp.2).2 hq
     have hmod:=Nat.mod_lt q hp.2
     have hqe:q/P.cellsOf e*P.cellsOf e+q % P.cellsOf e=q:=by
      have:=Nat.div_add_mod q (P.cellsOf e)
      rw[Nat.mul_comm]at this
      exact this
     have:=(h2 _ hd).2 (q % P.cellsOf e) u (by rw[List.map_take,List.map_drop,mG hmod,hqe];exact hu)
     rw[hqe]at this
     simpa using this⟩
    have hn:len*P.bytesOf e≤140737488351232:=by
     have:=hw ((elems.length+rest.length)*P.bytesOf e) (by rw[hx];simp[DataW.weights,ht])
     rw[hlen,Nat.add_mul]at this
     omega
    exact⟨[.s (P.cellsOf e) (some a) len cap xs],rfl,⟨⟨hR,hl,h3⟩,trivial⟩,.slice ht hl hn h1 (fun i hi=>(h2 i hi).1)⟩
  ·rename_i m e ht
   simp only[Bool.and_eq_true,beq_iff_eq]at hp
   obtain⟨ys,n,_,hx,hlen,hyl,hel⟩:=DataW.trod_array ht h
   have hwe:∀d∈ys.map (·.1),∀q∈DataW.weights P e d,q≤140737488351232:=fun d hd q hq=>hw q (by
    rw[hx]
    simp only[DataW.weights,ht]
    exact gQ hd hq)
   obtain⟨xs,h1,h2,h3⟩:=pieces (w:=w) (sz:=P.cellsOf e) (Q:=Ty P e) (R:=fun i vs=>vs=(cs.drop (i*P.cellsOf e)).take (P.cellsOf e)) m (fun i hi=>by
    have h1:=hel i hi
    rw[List.getElem?_eq_getElem (by omega)]at h1
    obtain⟨zs,h4,h5,h6⟩:=jn k _ e _ _ hp.1 h1 (fun q hq=>hwe _ (List.mem_map.2 ⟨_,List.getElem_mem _,rfl⟩) q hq)
    refine⟨zs, ?_,h6,h4,h5⟩
    have:=congrArg List.length h4
    rw[List.length_map,List.length_take,List.length_drop,hlen,hp.2]at this
    have hle:i*P.cellsOf e+P.cellsOf e≤m*P.cellsOf e:=by
     have:=Nat.mul_le_mul_right (P.cellsOf e) (show i+1≤m by omega)
     rwa [Nat.add_mul,Nat.one_mul]at this
    omega)
   refine⟨xs, ?_,h3,.arr ht (by rw[h1,hp.2]) (fun i hi=>(h2 i hi).1)⟩
   apply List.ext_getElem?
   intro q
   by_cases hq:q<m*P.cellsOf e
   ·have hpos:0<P.cellsOf e:=by
     rcases Nat.eq_zero_or_pos (P.cellsOf e)with h0|h0
     ·rw[h0,Nat.mul_zero]at hq;omega
     ·exact h0
    have hd:q/P.cellsOf e<m:=(Nat.div_lt_iff_lt_mul hpos).2 hq
    have hmod:=Nat.mod_lt q hpos
    have hqe:q/P.cellsOf e*P.cellsOf e+q % P.cellsOf e=q:=by
     have:=Nat.div_add_mod q (P.cellsOf e)
     rw[Nat.mul_comm]at this
     exact this
    have h4:=congrArg (fun l:List Value=>l[q % P.cellsOf e]?) (h2 _ hd).2
    simp only[List.map_take,List.map_drop]at h4
    rwa [mG hmod,mG hmod,hqe]at h4
   ·rw[List.getElem?_eq_none (by rw[List.length_map,h1];omega),List.getElem?_eq_none (by rw[hlen,hp.2];omega)]
  ·rename_i fs ht
   simp only[Bool.and_eq_true,List.all_eq_true]at hp
   obtain⟨ys,n,_,hx,hlen,hyl,hel⟩:=DataW.trod_struct ht h
   have hw2:∀(i:Nat) (f:Field) (d:DataW H),fs[i]? =some f→(ys.map (·.1))[i]? =some d→∀q∈DataW.weights P f.type d,q≤140737488351232:=fun i f d hf hd q hq=>hw q (by
    rw[hx]
    simp only[DataW.weights,ht]
    exact DataW.weights_mem_each (j:=i) (t:=f.type) (d:=d) (by simp[hf]) hd q hq)
   obtain⟨_,xs,h1,h2,h3,h4⟩:=lG (P:=P) (w:=w) (cs:=cs) fs.toList 0 (P.cellsOf t) hp.2 (fun f hf=>by
    obtain⟨i,hi⟩:=List.mem_iff_getElem?.1 hf
    have hi' :fs[i]? =some f:=by simpa using hi
    have h1:=hel i f hi'
    have hlt:i<ys.length:=by
     rw[hyl]
     exact(Array.getElem?_eq_some_iff.1 hi').1
    rw[List.getElem?_eq_getElem hlt]at h1
    obtain⟨zs,h5,h6,h7⟩:=jn k _ f.type _ _ (hp.1 f hf) h1 (fun q hq=>hw2 i f _ hi' (by rw[List.getElem?_map,List.getElem?_eq_getElem hlt];rfl) q hq)
    have hz:zs.length=P.cellsOf f.type:=by
     have hz:=congrArg List.length h5
     rw[List.length_map,List.length_take,List.length_drop,hlen]at hz
     have hin:∀(l:List Field) (o e:Nat),iF P l o e=true→f∈l→f.offset+P.cellsOf f.type≤e∧o≤e:=by
      intro l
      induction l with
      |nil=>intro o e _ hm;cases hm
      |cons g r ih=>
       intro o e hc hm
       simp only[iF,Bool.and_eq_true,beq_iff_eq]at hc
       have hge:∀(l:List Field) (o e:Nat),iF P l o e=true→o≤e:=by
        intro l
        induction l with
        |nil=>intro o e hc;simp[iF]at hc;omega
        |cons g r ih=>intro o e hc;simp only[iF,Bool.and_eq_true,beq_iff_eq]at hc;have:=ih _ _ hc.2;omega
       rcases List.mem_cons.1 hm with rfl|hm
       ·have:=hge _ _ _ hc.2
        omega
       ·have:=ih _ _ hc.2 hm
        omega
     have:=hin _ _ _ hp.2 hf
     omega
    exact⟨zs,hz,h7,h5,h6⟩)
   refine⟨xs, ?_,h3,.struct ht (by rw[h1];omega) (fun i f hf=> ?_)⟩
   ·rw[h2,List.drop_zero,Nat.sub_zero,←hlen,List.take_length]
   ·have:=(h4 f (by rw[Array.mem_toList_iff];exact Array.mem_of_getElem? hf)).2
    rwa [Nat.sub_zero]at this
  ·cases hp
end
section
variable{P:Program}{t e:TypeId}{xs:List Cell}
theorem D4{k:IntKind}(ht:P.underlying t=some (.int k))(h:Ty P t xs):∃z,xs=[.v (.int k z)]∧(Lit.int k z).wf=true:=by
 cases h with
 |int ht' hw=>rw[ht]at ht';cases ht';exact⟨_,rfl,hw⟩
 |bool ht' =>rw[ht]at ht';cases ht'
 |str ht' =>rw[ht]at ht';cases ht'
 |slice ht' =>rw[ht]at ht';cases ht'
 |arr ht' =>rw[ht]at ht';cases ht'
 |struct ht' =>rw[ht]at ht';cases ht'
theorem rq(ht:P.underlying t=some (.int .i64))(h:Ty P t xs):∃z,xs=[.v (.int .i64 z)]∧-9223372036854775808≤z∧z≤9223372036854775807:=by
 obtain⟨z,rfl,hw⟩:=D4 ht h
 refine⟨z,rfl, ?_⟩
 simp only[Lit.wf,IntKind.min,IntKind.max,IntKind.signed,IntKind.bits]at hw
 simp at hw
 omega
theorem so(ht:P.underlying t=some (.slice e))(h:Ty P t xs):∃A n c ys,xs=[.s (P.cellsOf e) A n c ys]∧n≤c∧n*P.bytesOf e≤140737488351232∧ys.length=n*P.cellsOf e∧∀i,i<n→Ty P e ((ys.drop (i*P.cellsOf e)).take (P.cellsOf e)):=by
 cases h with
 |int ht' =>rw[ht]at ht';cases ht'
 |bool ht' =>rw[ht]at ht';cases ht'
 |str ht' =>rw[ht]at ht';cases ht'
 |slice ht' hc hn hl h=>rw[ht]at ht';cases ht';exact⟨_,_,_,_,rfl,hc,hn,hl,h⟩
 |arr ht' =>rw[ht]at ht';cases ht'
 |struct ht' =>rw[ht]at ht';cases ht'
theorem xr{fs:Array Field}(ht:P.underlying t=some (.struct fs))(h:Ty P t xs):xs.length=P.cellsOf t∧∀(i:Nat) (f:Field),fs[i]? =some f→Ty P f.type ((xs.drop f.offset).take (P.cellsOf f.type)):=by
 cases h with
 |int ht' =>rw[ht]at ht';cases ht'
 |bool ht' =>rw[ht]at ht';cases ht'
 |str ht' =>rw[ht]at ht';cases ht'
 |slice ht' =>rw[ht]at ht';cases ht'
 |arr ht' =>rw[ht]at ht';cases ht'
 |struct ht' hl h=>rw[ht]at ht';cases ht';exact⟨hl,h⟩
end
theorem e7{w:World}{sz n i o:Nat}{A:Option Addr}{xs:List Value}{u:Value}(h:Rd w sz A n xs)(hu:xs[i*sz+o]? =some u):w.cell? (((A.getD d0).add (i*sz)).add o)=some u:=by
 rw[add_add]
 exact h.cell hu
theorem View.rowOf{sz n c:Nat}{A:Option Addr}{xs:List Cell}{vs:List Value}(h:xs.map Cell.val=vs):View (wi (.s sz A n c xs)) (cr sz A n vs):=h▸View.Ha
section
variable{H:Type}{enc:TypeId×Value→H}{P:Program}{W:World}{spare:Nat→Bool}{held:Bool}{tss:List TypeId}{dss:List (DataW H)}
theorem pe{t:TypeId}{v:Value}{d:DataW H}{ps:List MemPlace}{j:Nat}(k:Nat)(hp:parts P k t=true)(h:DataW.Trod enc P W 0 spare held t v d ps)(hsz:(DataW.weightsEach P tss dss).all (· ≤reachBytes)=true)(hjt:tss[j]? =some t)(hjd:dss[j]? =some d):
  ∃xs:List Cell,xs.map Cell.val=v.cells.toList∧gz W xs∧Ty P t xs:=by
 obtain⟨fuel,hf⟩:=h
 refine jn k fuel t _ _ hp hf (fun q hq=> ?_)
 have:=List.all_eq_true.1 hsz q (DataW.weights_mem_each hjt hjd q hq)
 have hr:reachBytes=140737488351232:=rfl
 simp at this
 omega
theorem Bt{t e:TypeId}{A:Option Addr}{n c:Nat}{d:DataW H}{ps:List MemPlace}{j:Nat}(k:Nat)(hp:parts P k t=true)(ht:P.underlying t=some (.slice e))(h:DataW.Trod enc P W 0 spare held t (.slice A n c) d ps)(hsz:(DataW.weightsEach P tss dss).all (· ≤reachBytes)=true)(hjt:tss[j]? =some t)(hjd:dss[j]? =some d):
  ∃ys:List Cell,(wi (.s (P.cellsOf e) A n c ys)).holds W∧Ty P t [.s (P.cellsOf e) A n c ys]:=by
 obtain⟨xs,h1,h2,h3⟩:=pe k hp h hsz hjt hjd
 obtain⟨A',n',c',ys,rfl,_⟩:=so ht h3
 have e1:[Cell.val (.s (P.cellsOf e) A' n' c' ys)]=[Value.slice A n c]:=h1
 simp only[Cell.val,List.cons.injEq,Value.slice.injEq,and_true]at e1
 obtain⟨rfl,rfl,rfl⟩:=e1
 exact⟨ys,h2.1,h3⟩
end
end Go.Eng
end
section
namespace Go.Eng
open Go.RowKit Go.ChangeShapes Go.WideShapes
section
variable{H:Type}{enc:TypeId×Value→H}{P:Program}{W:World}{spare:Nat→Bool}{held:Bool}{tss:List TypeId}{dss:List (DataW H)}
theorem yP{r:Reach}{b0:Nat}{t:TypeId}{fs:Array Field}{v:Value}{d:DataW H}{ps:List MemPlace}{j:Nat}(k:Nat)(hp:parts P k t=true)(ht:P.underlying t=some (.struct fs))(hval:Value.okWide P W r b0 t v)(h:DataW.Trod enc P W 0 spare held t v d ps)(hsz:(DataW.weightsEach P tss dss).all (· ≤reachBytes)=true)(hjt:tss[j]? =some t)(hjd:dss[j]? =some d):
  ∃xs:List Cell,v= .agg (xs.map Cell.val).toArray∧gz W xs∧Ty P t xs:=by
 obtain⟨xs,h1,h2,h3⟩:=pe k hp h hsz hjt hjd
 simp only[Value.okWide,ht]at hval
 obtain⟨cs,rfl,_,_⟩:=hval
 refine⟨xs, ?_,h2,h3⟩
 congr 1
 apply Array.toList_inj.1
 simpa[Value.cells]using h1.symm
end
end Go.Eng
end
section
set_option maxRecDepth 20000
namespace Go.Proofs.YtmibdabdlgmafaaGreatDoor
open Go.Eng Go.Hx
def jG(x:UInt32):UInt32:=x*2+x/2147483648
def ln(x:UInt32):Nat→UInt32
 |0=>x
 |k+1=>jG (ln x k)
def CI(x:UInt32):UInt32:=
 let a:=x ^^^ (x*8192)
 let b:=a ^^^ (a/131072)
 b ^^^ (b*32)
def yg:Nat→UInt32
 |0=>2654435769
 |k+1=>CI (yg k)
def lz(i:Nat):List UInt32:=(List.range i).map fun k=>yg (k+1)
theorem qX(i:Nat):(lz i).length=i:=by simp[lz]
theorem pn(i:Nat):lz (i+1)=lz i++[yg (i+1)]:=by simp[lz,List.range_succ]
def bm:List UInt32:=lz 256
theorem bl:bm.length=256:=qX 256
def fq(w:List UInt32)(b:List UInt8):Nat→Nat→UInt32
 |_,0=>0
 |i,k+1=>fq w b i k ^^^ ln (w.getD (b.getD (i+k) 0).toNat 0) (b.length-1-(i+k))
def dU(w:List UInt32)(b:List UInt8):UInt32:=fq w b (b.length-16) (b.length-(b.length-16))
theorem FY{x:UInt32}{n:Nat}(hn:n≤1000000):b6 Tryz.prog 245 [Wd x,.int .i64 (n:Int)] [] [] (fun v_ X_ S_=>v_=(Wd (ln x n))∧X_=[]∧S_=[]):=by
 refine aJ (N:=17) Tryz.func245 rfl rfl (by simp) fun b=> ?_
 refine ah<|aj<|hy (fun _=>ab rfl)<|ai<|ae<|ah<|ah<|aj<|hy (fun _=>ab rfl)<|ai<|ae<|aI<| ?_
 refine cW (fun i=>n-i) (fun i=>[(5,.int .i64 (i:Nat)),(0,Wd (ln x i))]) (fun i=>[]) (fun i=>[]) (fun i=>i≤n) 0 [(4,_),(1,_)] ⟨rfl,rfl,trivial⟩ [] rfl [] rfl (Nat.zero_le _) ⟨rfl,rfl,trivial⟩ (fun i hi=> ?_)
 refine ah<|ah<|aj<|hy (fun _=>aa rfl)<|hy (fun _=>aa rfl)<|hy (fun _=>bu rfl rfl)<|ai<|al (ρ' :=[(8,_),(5,_),(0,_),(4,_),(1,_)]) ⟨rfl,rfl,rfl,rfl,rfl,trivial⟩<|ae<| ?_
 refine cj rfl (fun hlt=> ?_) (fun hlt=> ?_)
 ·refine aA<|ae<|ah<|aI<|aj<|hy (fun _=>aa rfl)<|hy (fun _=>kW (b:=2) rfl rfl)<|hy (fun _=>aa rfl)<|hy (fun _=>mK (b:=2147483648) (by decide) rfl rfl)<|hy (fun _=>cS rfl rfl)<|hy (fun _=>ab rfl)<|ai<|al (ρ' :=[(0,_),(8,_),(5,_),(4,_),(1,_)]) ⟨rfl,rfl,rfl,rfl,rfl,trivial⟩<|aM<|ae<|aj<|hy (fun _=>aa rfl)<|hy (fun _=>aK rfl rfl (bs (by omega) (by omega)))<|hy (fun _=>ab rfl)<|ai<|al (ρ' :=[(5,_),(0,_),(8,_),(4,_),(1,_)]) ⟨rfl,rfl,rfl,rfl,rfl,trivial⟩<| ?_
  refine ct (i+1) ⟨rfl,rfl,rfl,rfl,trivial⟩ [] rfl [] rfl (by omega) (by omega)
 ·obtain rfl:i=n:=by omega
  refine bA<|ao<|ao<|aC<|ae<|ah<|aj<|hy (fun _=>aa rfl)<|hy (fun _=>ab rfl)<|ai<|al (ρ' :=[(4,_),(8,_),(5,_),(0,_),(1,_)]) ⟨rfl,rfl,rfl,rfl,rfl,trivial⟩<|ae<|aU<| ?_
  exact aZ trivial rfl rfl [] rfl [] rfl ⟨rfl,rfl,rfl⟩
theorem Cs:b6 Tryz.prog 136 [] [] [] (fun v_ X_ S_=>∃A c,v_=(.slice A 256 c)∧X_=[aG 166 1 (.slice A 256 c) 256 (dD bm)]∧S_=[]):=by
 refine aJ (N:=25) Tryz.func136 rfl rfl (by simp) fun b=> ?_
 refine ah<|aj<|hy (fun _=>ab rfl)<|ai<|ae<|ah<|aj<|hy (fun _=>ab rfl)<|ai<|ae<|ah<|aj<|hy (fun _=>ab rfl)<|ai<|ae<|ah<|ah<|aj<|hy (fun _=>ab rfl)<|ai<|ae<|aI<| ?_
 refine bg (fun w m=>m.cI (r' :=aG 166 1 (.slice none 0 0) 0 []) (.refl _ _) (Own.nil _ _ _ _) (fun k hk=>hk.elim)) ?_
 refine gg (fun i A1 c1=>256-i) (fun i A1 c1=>[(1,.slice A1 i c1),(2,Wd (yg i)),(3,.int .i64 (i:Nat))]) (fun i A1 c1=>[aG 166 1 (.slice A1 i c1) i (dD (lz i))]) (fun i A1 c1=>[]) (fun i A1 c1=>i≤256) 0 none 0 [(0,_)] ⟨rfl,trivial⟩ [0] rfl [] rfl (Nat.zero_le _) ⟨rfl,rfl,rfl,trivial⟩ (fun i A1 c1 hi=> ?_)
 refine ah<|ah<|aj<|hy (fun _=>aa rfl)<|hy (fun _=>bu rfl rfl)<|ai<|al (ρ' :=[(5,_),(1,_),(2,_),(3,_),(0,_)]) ⟨rfl,rfl,rfl,rfl,rfl,trivial⟩<|ae<| ?_
 refine cj rfl (fun hlt=> ?_) (fun hlt=> ?_)
 ·refine aA<|ae<|ah<|aI<|ah<|aj<|hy (fun _=>aa rfl)<|hy (fun _=>aa rfl)<|hy (fun _=>kW (b:=8192) rfl rfl)<|hy (fun _=>cL rfl rfl)<|hy (fun _=>ab rfl)<|ai<|al (ρ' :=[(2,_),(5,_),(1,_),(3,_),(0,_)]) ⟨rfl,rfl,rfl,rfl,rfl,trivial⟩<|ae<|ah<|aj<|hy (fun _=>aa rfl)<|hy (fun _=>aa rfl)<|hy (fun _=>mK (b:=131072) (by decide) rfl rfl)<|hy (fun _=>cL rfl rfl)<|hy (fun _=>ab rfl)<|ai<|al (ρ' :=[(2,_),(5,_),(1,_),(3,_),(0,_)]) ⟨rfl,rfl,rfl,rfl,rfl,trivial⟩<|ae<|ah<|aj<|hy (fun _=>aa rfl)<|hy (fun _=>aa rfl)<|hy (fun _=>kW (b:=32) rfl rfl)<|hy (fun _=>cL rfl rfl)<|hy (fun _=>ab rfl)<|ai<|al (ρ' :=[(2,_),(5,_),(1,_),(3,_),(0,_)]) ⟨rfl,rfl,rfl,rfl,rfl,trivial⟩<|ae<|aj<|hy (fun _=>aa rfl)<|hy (fun _=>aa rfl)<| ?_
  refine hx (bJ Tryz.underlying215 kM rfl rfl rfl (by simp[Value.cells,B8]) (by decide) (by decide) (fun g22=> ?_))
  have hA_b22:0<1→(some (⟨g22,0,none⟩:Addr))≠none:=fun _ h=>by cases h
  refine aF (fun w m=>m.bq 0 rfl (show _=aG 166 1 (.slice (some ⟨g22,0,none⟩) 1 1) 1 (dD [yg (i+1)])from(by rw[show yg (i+1)=CI (yg i)from rfl];rfl))) ?_
  refine hx (bp 1 rfl rfl rfl Tryz.underlying215 Tryz.underlying215 (by exact .inl rfl) kM rfl (fun m=>Src.bS (m.ord 0 rfl)) fK (by unfold maxLen;omega) (by omega) (fun u=> ?_))
  refine aB (fun m=>(m.own 0 rfl).slice) ?_
  rintro⟨A_o,c_o,rfl,hc_o⟩
  refine aB (fun m=>(m.ord 0 rfl).2.1) fun hA_o=> ?_
  refine aF (fun w m=>m.bq 0 rfl (show _=aG 166 1 (.slice A_o (i+1) c_o) (i+1) (dD (lz (i+1)))from congrArg (aG _ _ _ _) (by rw[pn,k0]))) ?_
  refine hy (fun _=>ab rfl)<|ai<|al (ρ' :=[(1,_),(2,_),(5,_),(3,_),(0,_)]) ⟨rfl,rfl,rfl,rfl,rfl,trivial⟩<|ak (X' :=[_,_]) (S' :=[]) (fun _ m=>m)<|aM<|ae<|aj<|hy (fun _=>aa rfl)<|hy (fun _=>aK rfl rfl (bs (by omega) (by omega)))<|hy (fun _=>ab rfl)<|ai<|al (ρ' :=[(3,_),(1,_),(2,_),(5,_),(0,_)]) ⟨rfl,rfl,rfl,rfl,rfl,trivial⟩<| ?_
  refine gv (i+1) A_o c_o ⟨rfl,rfl,rfl,rfl,trivial⟩ [0] rfl [] rfl (by omega) (by omega)
 ·obtain rfl:i=256:=by omega
  refine bA<|ao<|ao<|aC<|ae<|ah<|aj<|hy (fun _=>aa rfl)<|hy (fun _=>ab rfl)<|ai<|al (ρ' :=[(0,_),(5,_),(1,_),(2,_),(3,_)]) ⟨rfl,rfl,rfl,rfl,rfl,trivial⟩<|ae<|aU<| ?_
  exact aZ trivial rfl rfl [0] rfl [] rfl ⟨_,_,rfl,rfl,rfl⟩
theorem wQ{A B:Option Addr}{c n k:Nat}{w:List UInt32}{l:List UInt8}(hw:w.length=256)(hl:l.length=n)(hn:n≤1000000):b6 Tryz.prog 201 [.slice A 256 c,.slice B n k] [] [cr 1 A 256 (dD w),cr 1 B n (aP l)] (fun v_ X_ S_=>v_=(Wd (dU w l))∧X_=[]∧S_=[]):=by
 refine aJ (N:=35) Tryz.func201 rfl rfl (by simp) fun b=> ?_
 refine aS (fun m=>fv (m.rd 0 rfl)) ?_
 rintro⟨hl_rw,hA_rw⟩
 refine aS (fun m=>dZ (m.rd 1 rfl)) ?_
 rintro⟨hl_rb,hA_rb⟩
 refine ah<|aj<|hy (fun _=>ab rfl)<|ai<|ae<|ah<|aj<|hy (fun _=>ab rfl)<|ai<|ae<|ah<|aj<|hy (fun _=>aa rfl)<|hy (fun _=>aW rfl Tryz.underlying27)<|hy (fun _=>cd rfl rfl (bs (by omega) (by omega)))<|hy (fun _=>yV (Gs rfl rfl) ((show Value.int .i64 (max ((n:Int)-16) 0)= .int .i64 ((n-16:Nat):Int)from by congr 1;omega)))<|hy (fun _=>ab rfl)<|ai<|al (ρ' :=[(6,_),(5,_),(4,_),(0,_),(1,_)]) ⟨rfl,rfl,rfl,rfl,rfl,trivial⟩<|ae<|ah<|ah<|aj<|hy (fun _=>aa rfl)<|hy (fun _=>ab rfl)<|ai<|al (ρ' :=[(7,_),(6,_),(5,_),(4,_),(0,_),(1,_)]) ⟨rfl,rfl,rfl,rfl,rfl,rfl,trivial⟩<|ae<|aI<| ?_
 refine cW (fun k2=>n-(n-16)-k2) (fun k2=>[(7,.int .i64 ((n-16+k2:Nat):Int)),(5,Wd (fq w l (n-16) k2))]) (fun k2=>[]) (fun k2=>[]) (fun k2=>n-16+k2≤n) 0 [(6,_),(4,_),(0,_),(1,_)] ⟨rfl,rfl,rfl,rfl,trivial⟩ [] rfl [] rfl (by omega) ⟨rfl,rfl,trivial⟩ (fun k2 hk=> ?_)
 refine ah<|ah<|aj<|hy (fun _=>aa rfl)<|hy (fun _=>aa rfl)<|hy (fun _=>aW rfl Tryz.underlying27)<|hy (fun _=>bu rfl rfl)<|ai<|al (ρ' :=[(16,_),(7,_),(5,_),(6,_),(4,_),(0,_),(1,_)]) ⟨rfl,rfl,rfl,rfl,rfl,rfl,rfl,trivial⟩<|ae<| ?_
 refine cj rfl (fun hlt=> ?_) (fun hlt=> ?_)
 ·have h8:=UInt8.toNat_lt (l.getD (n-16+k2) 0)
  refine aA<|ae<|ah<|aI<|aj<|hy (fun _=>aa rfl)<|hy (fun _=>aa rfl)<|hy (fun _=>aa rfl)<|hy (fun _=>aa rfl)<|hy (fun _=>aO rfl rfl Tryz.underlying27 dF hA_rb rfl (by omega))<|hy (fun m=>aq rfl iL ((m.rd 1 rfl).cell (bE (by omega))))<|hy (fun _=>aO rfl rfl Tryz.underlying215 br hA_rw rfl (by omega))<|hy (fun m=>aq rfl bC ((m.rd 0 rfl).cell (bj (by omega))))<|hy (fun _=>aa rfl)<|hy (fun _=>aW rfl Tryz.underlying27)<|hy (fun _=>cd rfl rfl (bs (by omega) (by omega)))<|hy (fun _=>aa rfl)<|hy (fun _=>yV (cd rfl rfl (bs (by omega) (by omega))) ((show Value.int .i64 ((n:Int)-1-((n-16+k2:Nat):Int))= .int .i64 ((l.length-1-(n-16+k2):Nat):Int)from by congr 1;omega)))<| ?_
  refine hx (au rfl Tryz.call245 (FY (by omega)) [] rfl [] rfl ?_)
  rintro _ _ _ ⟨rfl,rfl,rfl⟩
  refine hy (fun _=>cL rfl rfl)<|hy (fun _=>ab rfl)<|ai<|al (ρ' :=[(5,_),(16,_),(7,_),(6,_),(4,_),(0,_),(1,_)]) ⟨rfl,rfl,rfl,rfl,rfl,rfl,rfl,trivial⟩<|ak (X' :=[]) (S' :=[_,_]) (fun _ m=>m)<|aM<|ae<|aj<|hy (fun _=>aa rfl)<|hy (fun _=>aK rfl rfl (bs (by omega) (by omega)))<|hy (fun _=>ab rfl)<|ai<|al (ρ' :=[(7,_),(5,_),(16,_),(6,_),(4,_),(0,_),(1,_)]) ⟨rfl,rfl,rfl,rfl,rfl,rfl,rfl,trivial⟩<| ?_
  refine ct (k2+1) ⟨rfl,rfl,rfl,rfl,rfl,rfl,trivial⟩ [] rfl [0,1] rfl (by omega) (by omega)
 ·have hk2:k2=l.length-(l.length-16):=by omega
  subst hk2
  subst hl
  refine bA<|ao<|ao<|aC<|ae<|ah<|aj<|hy (fun _=>aa rfl)<|hy (fun _=>ab rfl)<|ai<|al (ρ' :=[(4,_),(16,_),(7,_),(5,_),(6,_),(0,_),(1,_)]) ⟨rfl,rfl,rfl,rfl,rfl,rfl,rfl,trivial⟩<|ae<|aU<| ?_
  exact aZ trivial rfl rfl [] rfl [] rfl ⟨rfl,rfl,rfl⟩
end Go.Proofs.YtmibdabdlgmafaaGreatDoor
end
section
set_option maxRecDepth 20000
namespace Go.Proofs.YtmibdabdlgmafaaGreatDoor
open Go.Eng Go.Hx
theorem Ei{n:Nat}(hn:n<32):IntKind.u64.wrap (n:Int)=(n:Int):=by
 simp[IntKind.wrap,IntKind.signed,IntKind.bits]
 omega
theorem xb{n:Nat}(hn:n<32):bits .and .u64 (n:Int) 31=(n:Int):=by
 have h:=u64_and_nat n 31 (by omega) (by decide)
 rw[show((31:Nat):Int)=31 from rfl]at h
 rw[h,show(31:Nat)=2 ^ 5-1 from rfl,Nat.and_two_pow_sub_one_eq_mod]
 congr 1
 show n % 32=n
 omega
theorem CW{x:UInt32}{n:Nat}(h0:0<n)(hn:n<32):b6 Tryz.prog 296 [Wd x,.int .i64 (n:Int)] [] [] (fun v_ X_ S_=>v_=(Wd (gX (32-n) x))∧X_=[]∧S_=[]):=by
 refine aJ (N:=17) Tryz.func296 rfl rfl (by simp) fun b=> ?_
 have hs:IntKind.u64.wrap (32-(n:Int))=((32-n:Nat):Int):=by
  rw[show(32:Int)-(n:Int)=((32-n:Nat):Int) by omega]
  simp[IntKind.wrap,IntKind.signed,IntKind.bits]
  omega
 have hr:=qP (x:=x) (n:=32-n) (by omega) (by omega)
 rw[show 32-(32-n)=n by omega]at hr
 refine ah<|aj<|hy (fun _=>ab rfl)<|ai<|ae<|ah<|aj<|hy (fun _=>aa rfl)<|hy (fun _=>bU rfl Tryz.underlying3 Tryz.underlying263 (Ei hn))<|hy (fun _=>gh (by simp) rfl rfl (xb hn))<|hy (fun _=>ab rfl)<|ai<|al (ρ' :=[(5,_),(4,_),(0,_),(1,_)]) ⟨rfl,rfl,rfl,rfl,trivial⟩<|ae<|ah<|aj<|hy (fun _=>aa rfl)<|hy (fun _=>aa rfl)<|hy (fun _=>(r6 (k:=n) (by omega) rfl rfl))<|hy (fun _=>aa rfl)<|hy (fun _=>aa rfl)<|hy (fun _=>cd rfl rfl hs)<|hy (fun _=>(uZ (k:=32-n) (by omega) rfl rfl))<|hy (fun _=>yV (zJ rfl rfl) ((show Wd (UInt32.ofNat (x.toNat*2 ^ n) ||| UInt32.ofNat (x.toNat/2 ^ (32-n)))=Wd (gX (32-n) x) by rw[hr])))<|hy (fun _=>ab rfl)<|ai<|al (ρ' :=[(4,_),(5,_),(0,_),(1,_)]) ⟨rfl,rfl,rfl,rfl,trivial⟩<|ae<|aU<| ?_
 exact aZ trivial rfl rfl [] rfl [] rfl ⟨rfl,rfl,rfl⟩
theorem Ct{X a b c r p q:Nat}(hX:X=2*p*a+b)(hb:b=p*c+r)(hr:r<p)(ha:a<q)(hpq:p*q=2147483648)(hc:c<2)(hp:0<p):
  (a+b*q) % 2147483648*2+(a+b*q)/2147483648=X/p+X % p*(2*q):=by
 have h1:a+b*q=2147483648*c+(r*q+a):=by
  rw[hb,Nat.add_mul,Nat.mul_right_comm,hpq]
  omega
 have h2:r*q+a<2147483648:=by
  have:(r+1)*q≤p*q:=Nat.mul_le_mul_right q hr
  rw[Nat.add_mul,hpq]at this
  omega
 have h3:X=p*(2*a+c)+r:=by
  rw[hX,hb,Nat.mul_add,Nat.mul_assoc 2 p a,Nat.mul_left_comm 2 p a]
  omega
 have h4:X/p=2*a+c:=by
  rw[h3,Nat.mul_add_div hp,Nat.div_eq_of_lt hr]
  omega
 have h5:X % p=r:=by
  rw[h3,Nat.mul_add_mod,Nat.mod_eq_of_lt hr]
 have h6:(a+b*q) % 2147483648=r*q+a:=by rw[h1,Nat.mul_add_mod,Nat.mod_eq_of_lt h2]
 have h7:(a+b*q)/2147483648=c:=by rw[h1,Nat.mul_add_div (by decide),Nat.div_eq_of_lt h2];omega
 rw[h4,h5,h6,h7,Nat.mul_left_comm r 2 q]
 omega
theorem zc(y:UInt32):(jG y).toNat=y.toNat % 2147483648*2+y.toNat/2147483648:=by
 have h:=y.toNat_lt
 unfold jG
 rw[UInt32.toNat_add,UInt32.toNat_mul,UInt32.toNat_div]
 show(y.toNat*2 % 4294967296+y.toNat/2147483648) % 4294967296=_
 omega
theorem sg(x:UInt32):∀(n:Nat),n≤32→(ln x n).toNat=x.toNat/2 ^ (32-n)+x.toNat % 2 ^ (32-n)*2 ^ n
 |0,_=>by
  have h:=x.toNat_lt
  show x.toNat=x.toNat/4294967296+x.toNat % 4294967296*1
  omega
 |n+1,hn=>by
  have h:=x.toNat_lt
  show(jG (ln x n)).toNat=_
  rw[zc,sg x n (by omega)]
  have e1:2 ^ (32-n)=2*2 ^ (32-(n+1)):=by rw[←Nat.pow_succ'];congr 1;omega
  have e2:2 ^ (n+1)=2*2 ^ n:=Nat.pow_succ'
  have hpq:2 ^ (32-(n+1))*2 ^ n=2147483648:=by
   rw[←Nat.pow_add,show 32-(n+1)+n=31 by omega]
  rw[e1,e2]
  have hp:0<2 ^ (32-(n+1)):=Nat.two_pow_pos _
  generalize 2 ^ (32-(n+1))=p at hpq hp ⊢
  generalize 2 ^ n=q at hpq ⊢
  refine Ct (c:=x.toNat % (2*p)/p) (r:=x.toNat % (2*p) % p) (Nat.div_add_mod x.toNat (2*p)).symm (Nat.div_add_mod _ p).symm (Nat.mod_lt _ hp) ?_ hpq ?_ hp
  ·rw[Nat.div_lt_iff_lt_mul (by omega),show q*(2*p)=2*(p*q) by rw[Nat.mul_comm q,Nat.mul_assoc],hpq]
   omega
  ·rw[Nat.div_lt_iff_lt_mul hp]
   exact Nat.mod_lt _ (by omega)
theorem q8{x:UInt32}{n:Nat}(hn:n≤32):gX (32-n) x=ln x n:=by
 apply UInt32.toNat_inj.1
 have h:=(ln x n).toNat_lt
 unfold gX
 rw[sg x n hn]at h ⊢
 rw[UInt32.toNat_ofNat',show 32-(32-n)=n by omega,Nat.mod_eq_of_lt h]
theorem mP(x:UInt32):jG x=(x <<< 1) ||| (x >>> 31):=by
 have h:=q8 (x:=x) (n:=1) (by decide)
 rw[show ln x 1=jG x from rfl]at h
 rw[←h,←qP (n:=32-1) (by decide) (by decide)]
 congr 1
 ·apply UInt32.toNat_inj.1
  rw[UInt32.toNat_shiftLeft,UInt32.toNat_ofNat']
  show x.toNat*2 % 4294967296=x.toNat <<< 1 % 4294967296
  rw[Nat.shiftLeft_eq]
 ·apply UInt32.toNat_inj.1
  rw[UInt32.toNat_shiftRight,UInt32.toNat_ofNat']
  show x.toNat/2147483648 % 4294967296=x.toNat >>> 31
  have:=x.toNat_lt
  rw[Nat.shiftRight_eq_div_pow]
  show x.toNat/2147483648 % 4294967296=x.toNat/2147483648
  omega
theorem sE(x y:UInt32):jG (x ^^^ y)=jG x ^^^ jG y:=by
 rw[mP,mP,mP]
 apply UInt32.toBitVec_inj.1
 simp only[UInt32.toBitVec_or,UInt32.toBitVec_xor,UInt32.toBitVec_shiftLeft,UInt32.toBitVec_shiftRight]
 ext i hi
 simp
 by_cases h1:i=0
 ·simp[h1]
 ·have e:∀z:BitVec 32,z.getLsbD (31+i)=false:=fun z=>BitVec.getLsbD_of_ge z (31+i) (by omega)
  simp[h1,e]
theorem wY:jG 0=0:=by decide
theorem qF{w:List UInt32}{b:List UInt8}{c:UInt8}{i:Nat}:∀(k:Nat),i+k≤b.length→fq w (b++[c]) i k=jG (fq w b i k)
 |0,_=>wY.symm
 |k+1,h=>by
  have e:(b++[c]).getD (i+k) 0=b.getD (i+k) 0:=by rw[List.getD,List.getD,List.getElem?_append_left (by omega)]
  have e2:(b++[c]).length-1-(i+k)=(b.length-1-(i+k))+1:=by rw[List.length_append,List.length_singleton];omega
  rw[fq,fq,qF k (by omega),e,e2,sE]
  rfl
theorem nS{w:List UInt32}{b:List UInt8}{i:Nat}:∀(k:Nat),fq w b i (k+1)=ln (w.getD (b.getD i 0).toNat 0) (b.length-1-i) ^^^ fq w b (i+1) k
 |0=>by rw[fq,fq,fq,Nat.add_zero];exact UInt32.xor_comm ..
 |k+1=>by
  rw[fq,nS k,fq,UInt32.xor_assoc,show i+1+k=i+(k+1) by omega]
theorem ub(w:List UInt32)(b:List UInt8)(c:UInt8):dU w (b++[c])=if 16≤b.length then jG (dU w b) ^^^ w.getD c.toNat 0 ^^^ ln (w.getD (b.getD (b.length-16) 0).toNat 0) 16 else jG (dU w b) ^^^ w.getD c.toNat 0:=by
 have hl:(b++[c]).length=b.length+1:=by simp
 have lD:∀i k,i+k=b.length→fq w (b++[c]) i (k+1)=jG (fq w b i k) ^^^ w.getD c.toNat 0:=fun i k h=>by
  rw[fq,qF k (by omega),h]
  have e:(b++[c]).getD b.length 0=c:=by rw[List.getD,List.getElem?_append_right (Nat.le_refl _),Nat.sub_self];rfl
  rw[e,hl,Nat.add_sub_cancel,Nat.sub_self]
  rfl
 unfold dU
 rw[hl]
 by_cases h:16≤b.length
 ·rw[if_pos h,show b.length+1-16=b.length-16+1 by omega,show b.length+1-(b.length-16+1)=15+1 by omega,lD _ _ (by omega),show b.length-(b.length-16)=15+1 by omega,nS (w:=w) (b:=b) (i:=b.length-16) 15,sE]
  have e:jG (ln (w.getD (b.getD (b.length-16) 0).toNat 0) (b.length-1-(b.length-16)))=ln (w.getD (b.getD (b.length-16) 0).toNat 0) 16:=by
   rw[show b.length-1-(b.length-16)=15 by omega]
   rfl
  rw[e]
  generalize ln (w.getD (b.getD (b.length-16) 0).toNat 0) 16=z
  generalize jG (fq w b (b.length-16+1) 15)=y
  rw[UInt32.xor_comm z y,UInt32.xor_assoc y z,UInt32.xor_comm z,UInt32.xor_assoc,UInt32.xor_assoc,UInt32.xor_self,UInt32.xor_zero]
 ·rw[if_neg h,show b.length+1-16=0 by omega,show b.length-16=0 by omega,Nat.sub_zero,Nat.sub_zero,lD 0 b.length (by omega)]
end Go.Proofs.YtmibdabdlgmafaaGreatDoor
end
section
namespace Go.Proofs.YtmibdabdlgmafaaGreatDoor
abbrev En:Go.Conc.Locks.MuLink:={lock:=119,unlock:=120,ilock:=185,iunlock:=186,lockSlow:=238,unlockSlow:=241,disable:=234,enable:=236,acquire:=237,relMerge:=239,cas32:=235,add32:=240,tMutex:=170,tIMutex:=168,tPMutex:=259,tPIMutex:=327,tPI32:=329,tUP:=331,tNoCopy:=165,tU32:=166}
theorem CU:Go.Conc.Locks.MuLib Tryz.prog En:=by
 constructor <;> first|kernel_rfl|(intro _;kernel_rfl)
end Go.Proofs.YtmibdabdlgmafaaGreatDoor
end
section
set_option maxRecDepth 20000
namespace Go.Proofs.YtmibdabdlgmafaaGreatDoor
open Go.Eng Go.Hx
def fk(d mu:Int)(ws:List UInt32)(ring:List UInt8)(n:Nat)(s:UInt32):List Value:=[.int .u32 d,.int .i32 mu,.int .u32 0]++(dD ws++(aP ring++[.int .i64 (n:Int),Wd s]))
section
variable{d mu:Int}{ws:List UInt32}{ring:List UInt8}{n:Nat}{s:UInt32}
theorem ik(hw:ws.length=256)(hr:ring.length=16):(fk d mu ws ring n s).length=277:=by simp[fk,aT,az,hw,hr]
theorem Cz{j:Nat}(hw:ws.length=256)(hj:j<256):(fk d mu ws ring n s)[3+j]? =some (Wd (ws.getD j 0)):=by
 rw[fk,List.getElem?_append_right (by simp),List.getElem?_append_left (by rw[aT];simp;omega)]
 rw[show 3+j- [Value.int .u32 d,.int .i32 mu,.int .u32 0].length=j by simp]
 exact bj (by omega)
theorem Gd{j:Nat}(hw:ws.length=256)(hr:ring.length=16)(hj:j<16):(fk d mu ws ring n s)[259+j]? =some (B8 (ring.getD j 0)):=by
 rw[fk,List.getElem?_append_right (by simp;omega),List.getElem?_append_right (by rw[aT];simp;omega),List.getElem?_append_left (by rw[aT,az];simp;omega)]
 rw[aT,hw,show 259+j- [Value.int .u32 d,.int .i32 mu,.int .u32 0].length-256=j by simp;omega]
 exact bE (by omega)
theorem wx(hw:ws.length=256)(hr:ring.length=16):(fk d mu ws ring n s)[275]? =some (.int .i64 (n:Int)):=by
 rw[fk,List.getElem?_append_right (by simp),List.getElem?_append_right (by rw[aT];simp;omega),List.getElem?_append_right (by rw[aT,az];simp;omega)]
 rw[aT,az,hw,hr]
 rfl
theorem vT(hw:ws.length=256)(hr:ring.length=16):(fk d mu ws ring n s)[276]? =some (Wd s):=by
 rw[fk,List.getElem?_append_right (by simp),List.getElem?_append_right (by rw[aT];simp;omega),List.getElem?_append_right (by rw[aT,az];simp;omega)]
 rw[aT,az,hw,hr]
 rfl
theorem Ax{j:Nat}{x:UInt32}(hw:ws.length=256)(hj:j<256):(fk d mu ws ring n s).set (3+j) (Wd x)=fk d mu (ws.set j x) ring n s:=by
 rw[fk,List.set_append_right _ _ (by simp),List.set_append_left _ _ (by rw[aT];simp;omega)]
 rw[show 3+j- [Value.int .u32 d,.int .i32 mu,.int .u32 0].length=j by simp,qR]
 rfl
theorem tc{j:Nat}{x:UInt8}(hw:ws.length=256)(hr:ring.length=16)(hj:j<16):(fk d mu ws ring n s).set (259+j) (B8 x)=fk d mu ws (ring.set j x) n s:=by
 rw[fk,List.set_append_right _ _ (by simp;omega),List.set_append_right _ _ (by rw[aT];simp;omega),List.set_append_left _ _ (by rw[aT,az];simp;omega)]
 rw[aT,hw,show 259+j- [Value.int .u32 d,.int .i32 mu,.int .u32 0].length-256=j by simp;omega,show(aP ring).set j (B8 x)=aP (ring.set j x) by simp[aP,List.map_set]]
 rfl
theorem o3{m:Nat}(hw:ws.length=256)(hr:ring.length=16):(fk d mu ws ring n s).set 275 (.int .i64 (m:Int))=fk d mu ws ring m s:=by
 rw[fk,List.set_append_right _ _ (by simp),List.set_append_right _ _ (by rw[aT];simp;omega),List.set_append_right _ _ (by rw[aT,az];simp;omega)]
 rw[aT,az,hw,hr]
 rfl
theorem oC{x:UInt32}(hw:ws.length=256)(hr:ring.length=16):(fk d mu ws ring n s).set 276 (Wd x)=fk d mu ws ring n x:=by
 rw[fk,List.set_append_right _ _ (by simp),List.set_append_right _ _ (by rw[aT];simp;omega),List.set_append_right _ _ (by rw[aT,az];simp;omega)]
 rw[aT,az,hw,hr]
 rfl
end
theorem wM{α:Type}(v:List α)(i:Nat)(x:α)(h:i<v.length):(v.set i x).take (i+1)=v.take i++[x]:=by
 apply List.ext_getElem?
 intro j
 rw[List.getElem?_take,List.getElem?_append,List.getElem?_set,List.getElem?_take,List.length_take]
 by_cases h1:j<i
 ·rw[if_pos (by omega),if_neg (by omega),if_pos (by omega),if_pos h1]
 ·by_cases h2:j=i
  ·subst h2
   rw[if_pos (by omega),if_pos rfl,if_pos h,if_neg (by omega),Nat.min_eq_left (by omega),Nat.sub_self]
   rfl
  ·rw[if_neg (by omega),if_neg (by omega)]
   rw[List.getElem?_eq_none (by simp;omega)]
theorem mr{w:World}{g a c:Nat}{t:TypeId}{cs:List Value}{v:Value}(h:eQ w g t cs)(hv:cs[a+c]? =some v):w.cell? (((⟨g,0,none⟩:Addr).add a).add c)=some v:=by
 rw[eI,eI,Nat.zero_add]
 exact h.cell hv
theorem A9:eC Tryz.prog 396 1=some (0,1,166):=by kernel_rfl
theorem og:eC Tryz.prog 398 1=some (0,1,396):=by kernel_rfl
theorem vb:eC Tryz.prog 398 2=some (1,2,170):=by kernel_rfl
theorem vL:eC Tryz.prog 401 0=some (0,3,398):=by kernel_rfl
theorem rz:eC Tryz.prog 401 1=some (3,256,399):=by kernel_rfl
theorem BK:eC Tryz.prog 404 0=some (0,259,401):=by kernel_rfl
theorem rE:eC Tryz.prog 404 1=some (259,16,402):=by kernel_rfl
theorem jc:eC Tryz.prog 404 2=some (275,1,3):=by kernel_rfl
theorem je:eC Tryz.prog 404 3=some (276,1,166):=by kernel_rfl
theorem Fb:TI Tryz.prog 404 (.agg (fk 0 0 (List.replicate 256 0) (List.replicate 16 0) 0 0).toArray) 277 1072:=by unfold TI;kernel_rfl
section
variable{P:Program}{Q:Exit→Act→World→Prop}{N:Nat}{D:List Deferred}{ρ:Env}{b:b9}{X S:List bc}{ty:TypeId}{K:Value→List bc→List bc→Prop}{fn:Func}{R:Value→List bc→List bc→Prop}
theorem Aw{f g o:Nat}{t:TypeId}{cs:List Value}{x:Int}{l:List Operand}{tys:Array TypeId}(i:Nat)(hi:X[i]? =some (aE g t cs))(hc:cs[o]? =some (.int .u32 x))(hx:mo ρ l=some [.pointer (some ⟨g,o,none⟩)])
  (hrun:∀(w:World) (a:Addr) (x:Int),w.cell? a=some (.int .u32 x)→(callFunc f #[.pointer (some a)]).run P w= .ok (.value (.int .u32 x)) w) (k:K (.int .u32 x) X S):XH P Q N D ρ b X S (.call ⟨.value (.func f),l.toArray,tys⟩) ty K:=fun w m=>by
 refine cM (v' :=.int .u32 x) (w' :=w) (fun a _ _ _ _ ha=> ?_) ⟨X,S,m,k⟩
 have h:=hrun w ⟨g,o,none⟩ x ((m.aN i hi).cell hc)
 simp[execOp,resolve,Deferred.ofValue,Act.eval,invoke,ha.gy hx,h]
theorem BB{f g o:Nat}{t:TypeId}{cs:List Value}{x:Value}(i:Nat)(hi:X[i]? =some (aE g t cs))(hc:cs[o]? =some x)(hcall:∀args w,(callFunc f args).run P w= .ok (.enter f args) w)
  (hst:∀(a:Addr) (x:Value) (u:FrameMode) (w:World),w.cell? a=some x→w.frozen? a=false→CallsD P f #[.pointer (some a),.bool true] u w fun e u' w' =>u' =u∧(e= .returned (.tuple #[])∧w' =w.drew.setCell a (.int .u32 1)))
  (k:HE P fn b R N D ρ (aE g t (cs.set o (.int .u32 1))::X.eraseIdx i) S):HE P fn b R N (⟨.fn (.func f) #[], #[.pointer (some ⟨g,o,none⟩),.bool true]⟩::D) ρ X S:=fun w m tmps ht=>by
 have hb:=m.aN i hi
 have hlt:=(List.getElem?_eq_some_iff.1 hc).1
 refine⟨by simp,.func f, #[],f, #[.pointer (some ⟨g,o,none⟩),.bool true],rfl, ?_, ?_⟩
 ·simp[invoke,hcall]
 ·refine CallsD.mono (hst ⟨g,o,none⟩ x .returning w (hb.cell hc) (hb.frozen hlt)) ?_
  rintro e u' w' ⟨rfl,rfl,rfl⟩
  have m1:=m.lift (Fr.drew w)
  have hb1:=m1.aN i hi
  have m' :=m1.perm (ar [i] X [aE g t cs] (X.eraseIdx i) (by simp[bI,hi]))
  exact k _ (m'.change (r' :=aE g t (cs.set o (.int .u32 1))) (Fr.setCell w.drew ⟨g,o,none⟩ _) (hb1.set o _) (fun k hk=>.inl hk)) tmps ht
end
theorem Bp(a:Addr)(x:Value)(u:FrameMode)(w:World)(hc:w.cell? a=some x)(hz:w.frozen? a=false):
  CallsD Tryz.prog 315 #[.pointer (some a),.bool true] u w fun e u' w' =>u' =u∧(e= .returned (.tuple #[])∧w' =w.drew.setCell a (.int .u32 1)):=by
 have hc' :w.drew.cell? a=some x:=by go_simp
 have hz' :w.drew.frozen? a=false:=by go_simp
 have hst:=run_call_store (P:=Tryz.prog) Tryz.func316 (by kernel_rfl) (by kernel_rfl) (by kernel_rfl) (by kernel_rfl) (k:=.u32) (y:=1) hc' hz'
 go_enter_d Tryz.func315,Tryz.ntmps315
 go_wp2
 go_region_calls
 all_goals (go_end0;exact⟨rfl,rfl⟩)
theorem uc{g n:Nat}{d mu:Int}{ws:List UInt32}{ring:List UInt8}{s:UInt32}:b6 Tryz.prog 312 [.pointer (some ⟨g,0,none⟩)] [aE g 404 (fk d mu ws ring n s)] [] (fun v_ X_ S_=>v_=(.bool (decide (¬d=0)))∧X_=[aE g 404 (fk d mu ws ring n s)]∧S_=[]):=by
 refine aJ (N:=8) Tryz.func312 rfl rfl (by simp) fun b=> ?_
 refine ah<|aj<|hy (fun _=>ab rfl)<|ai<|ae<|ah<|aj<|hy (fun _=>aa rfl)<|hy (fun _=>aL rfl)<|hy (fun _=>aD rfl A9 (by decide))<| ?_
 refine hx (Aw 0 rfl rfl rfl (fun w a x hc=>run_call_load (P:=Tryz.prog) Tryz.func314 (by kernel_rfl) (by kernel_rfl) (by kernel_rfl) .u32 (by kernel_rfl) hc) ?_)
 refine hy (fun _=>dx rfl rfl)<|hy (fun _=>ab rfl)<|ai<|al (ρ' :=[(2,_),(0,_)]) ⟨rfl,rfl,trivial⟩<|ak (X' :=[_]) (S' :=[]) (fun _ m=>m)<|ae<|aU<| ?_
 exact aZ trivial rfl rfl [0] rfl [] rfl ⟨rfl,rfl,rfl⟩
theorem EX{g n:Nat}{d mu:Int}{ws:List UInt32}{ring:List UInt8}{s:UInt32}(hw:ws.length=256):b6 Tryz.prog 311 [.pointer (some ⟨g,0,none⟩)] [aE g 404 (fk d mu ws ring n s)] [] (fun v_ X_ S_=>v_=(.tuple #[])∧X_=[aE g 404 (fk d mu bm ring n s)]∧S_=[]):=by
 refine aJ (N:=26) Tryz.func311 rfl rfl (by simp) fun b=> ?_
 refine ah<|aj<|hy (fun _=>ab rfl)<|ai<|ae<|ah<|aj<|hy (fun _=>aa rfl)<|ai<|ae<|aI<| ?_
 refine jU (fun i v=>256-i) (fun i v=>[(4,.int .i64 (i:Nat)),(2,Wd (yg i))]) (fun i v=>[aE g 404 (fk d mu v ring n s)]) (fun i v=>[]) (fun i v=>i≤256∧v.length=256∧v.take i=lz i) 0 ws [(0,_)] ⟨rfl,trivial⟩ [0] rfl [] rfl (⟨by omega,hw,rfl⟩) ⟨rfl,rfl,trivial⟩ (fun i v ⟨hi,hv,ht⟩=> ?_)
 refine ah<|aj<|hy (fun _=>bu rfl rfl)<|ai<|ae<|ah<| ?_
 refine cj rfl (fun hlt=> ?_) (fun hlt=> ?_)
 ·have hi2:i<256:=by omega
  refine aA<|ae<|ah<|aI<|ah<|aj<|hy (fun _=>aa rfl)<|hy (fun _=>ab rfl)<|ai<|al (ρ' :=[(3,_),(5,_),(4,_),(2,_),(0,_)]) ⟨rfl,rfl,rfl,rfl,rfl,trivial⟩<|ae<|ah<|aj<|hy (fun _=>aa rfl)<|hy (fun _=>aa rfl)<|hy (fun _=>rn (k:=13) (b:=8192) (by decide) rfl rfl rfl)<|hy (fun _=>cL rfl rfl)<|hy (fun _=>ab rfl)<|ai<|al (ρ' :=[(2,_),(3,_),(5,_),(4,_),(0,_)]) ⟨rfl,rfl,rfl,rfl,rfl,trivial⟩<|ae<|ah<|aj<|hy (fun _=>aa rfl)<|hy (fun _=>aa rfl)<|hy (fun _=>ku (k:=17) (b:=131072) (by decide) rfl rfl rfl)<|hy (fun _=>cL rfl rfl)<|hy (fun _=>ab rfl)<|ai<|al (ρ' :=[(2,_),(3,_),(5,_),(4,_),(0,_)]) ⟨rfl,rfl,rfl,rfl,rfl,trivial⟩<|ae<|ah<|aj<|hy (fun _=>aa rfl)<|hy (fun _=>aa rfl)<|hy (fun _=>rn (k:=5) (b:=32) (by decide) rfl rfl rfl)<|hy (fun _=>cL rfl rfl)<|hy (fun _=>ab rfl)<|ai<|al (ρ' :=[(2,_),(3,_),(5,_),(4,_),(0,_)]) ⟨rfl,rfl,rfl,rfl,rfl,trivial⟩<|ae<|aj<|hy (fun _=>aa rfl)<|hy (fun _=>aa rfl)<|hy (fun _=>aa rfl)<|hy (fun _=>aL rfl)<|hy (fun _=>aD rfl rz (by decide))<|hy (fun _=>bR rfl rfl Tryz.underlying399 br rfl (by omega))<| ?_
  refine cB (bX 0 rfl rfl rfl br rfl (by simp[fk,aT,az,hv];omega) ?_)
  refine ai<|al (ρ' :=[(2,_),(3,_),(5,_),(4,_),(0,_)]) ⟨rfl,rfl,rfl,rfl,rfl,trivial⟩<|ak (X' :=[_]) (S' :=[]) (fun _ m=>m)<|aM<|ae<|aj<|hy (fun _=>aK rfl rfl (bs (by omega) (by omega)))<|hy (fun _=>aa rfl)<|ai<|al (ρ' :=[(4,_),(2,_),(3,_),(5,_),(0,_)]) ⟨rfl,rfl,rfl,rfl,rfl,trivial⟩<| ?_
  refine ak (fun w m=>m.bq 0 rfl (show _=aE g 404 (fk d mu (v.set i (yg (i+1))) ring n s)from congrArg (aE _ _) (show(fk d mu v ring n s).set (3+i) (Wd (yg (i+1)))=_ from Ax hv hi2))) ?_
  refine gk (i+1) (v.set i (yg (i+1))) ⟨rfl,rfl,rfl,trivial⟩ [0] rfl [] rfl (⟨by omega,by rw[List.length_set];exact hv,by rw[wM _ _ _ (by omega),ht,pn]⟩) (by omega)
 ·obtain rfl:i=256:=by omega
  have hv2:v=bm:=by rw[←List.take_of_length_le (l:=v) (i:=256) (by omega),ht];rfl
  subst hv2
  refine bA<|ao<|ao<|aC<| ?_
  exact fj trivial rfl [0] rfl [] rfl ⟨rfl,rfl,rfl⟩
theorem D0{g n:Nat}{d:Int}{ws:List UInt32}{ring:List UInt8}{s:UInt32}:b6 Tryz.prog 119 [.pointer (some ⟨g,1,none⟩)] [aE g 404 (fk d 0 ws ring n s)] [] (fun v_ X_ S_=>v_=(.tuple #[])∧X_=[aE g 404 (fk d 1 ws ring n s)]∧S_=[]):=by
 exact E6 CU rfl
theorem GI{g n:Nat}{ws:List UInt32}{ring:List UInt8}{s:UInt32}(hw:ws.length=256):b6 Tryz.prog 313 [.pointer (some ⟨g,0,none⟩),.func (.func 311) #[.pointer (some ⟨g,0,none⟩)] #[]] [aE g 404 (fk 0 0 ws ring n s)] [] (fun v_ X_ S_=>v_=(.tuple #[])∧X_=[aE g 404 (fk 1 0 bm ring n s)]∧S_=[]):=by
 refine vo (N:=21) Tryz.func313 rfl rfl (by simp) fun b=> ?_
 refine ah<|aj<|hy (fun _=>aa rfl)<|hy (fun _=>aL rfl)<|hy (fun _=>aD rfl vb (by decide))<| ?_
 refine hx (au rfl Tryz.call119 (D0) [0] rfl [] rfl ?_)
 rintro _ _ _ ⟨rfl,rfl,rfl⟩
 refine ai<|al (ρ' :=[(0,_),(1,_)]) ⟨rfl,rfl,trivial⟩<|ak (X' :=[_]) (S' :=[]) (fun _ m=>m)<|ae<|ah<|aj<|hy (fun _=>aa rfl)<|hy (fun _=>aL rfl)<|hy (fun _=>aD rfl vb (by decide))<|x6 rfl<|ai<|al (ρ' :=[(0,_),(1,_)]) ⟨rfl,rfl,trivial⟩<|ae<|ah<|aj<|hy (fun _=>aa rfl)<|hy (fun _=>aL rfl)<|hy (fun _=>aD rfl og (by decide))<| ?_
 refine hx (au rfl Tryz.call312 (uc) [0] rfl [] rfl ?_)
 rintro _ _ _ ⟨rfl,rfl,rfl⟩
 refine hy (fun _=>eE rfl)<|ai<|al (ρ' :=[(15,_),(0,_),(1,_)]) ⟨rfl,rfl,rfl,trivial⟩<|ak (X' :=[_]) (S' :=[]) (fun _ m=>m)<|ae<| ?_
 refine gj rfl (rfl) ?_
 refine ah<|aj<|hy (fun _=>aa rfl)<|hy (fun _=>aL rfl)<|hy (fun _=>aD rfl og (by decide))<|x6 rfl<|ai<|al (ρ' :=[(15,_),(0,_),(1,_)]) ⟨rfl,rfl,rfl,trivial⟩<|ae<|aj<|hy (fun _=>aa rfl)<| ?_
 refine hx (ej rfl rfl Tryz.call311 (EX hw) [0] rfl [] rfl ?_)
 rintro _ _ _ ⟨rfl,rfl,rfl⟩
 refine ai<|al (ρ' :=[(15,_),(0,_),(1,_)]) ⟨rfl,rfl,rfl,trivial⟩<|ak (X' :=[_]) (S' :=[]) (fun _ m=>m)<| ?_
 refine yn trivial ?_
 refine BB 0 rfl rfl Tryz.call315 Bp ?_
 refine Bo CU 0 rfl rfl Tryz.call120 ?_
 exact lD (v:=.tuple #[]) (fun _ _ _=>by simp[results,Tryz.results313]) [0] rfl [] rfl ⟨rfl,rfl,rfl⟩
theorem Gj{g n:Nat}{ws:List UInt32}{ring:List UInt8}{s:UInt32}(hw:ws.length=256):b6 Tryz.prog 310 [.pointer (some ⟨g,0,none⟩),.func (.func 311) #[.pointer (some ⟨g,0,none⟩)] #[]] [aE g 404 (fk 0 0 ws ring n s)] [] (fun v_ X_ S_=>v_=(.tuple #[])∧X_=[aE g 404 (fk 1 0 bm ring n s)]∧S_=[]):=by
 refine aJ (N:=12) Tryz.func310 rfl rfl (by simp) fun b=> ?_
 refine ah<|aj<|hy (fun _=>aa rfl)<|hy (fun _=>aL rfl)<|hy (fun _=>aD rfl og (by decide))<| ?_
 refine hx (au rfl Tryz.call312 (uc) [0] rfl [] rfl ?_)
 rintro _ _ _ ⟨rfl,rfl,rfl⟩
 refine hy (fun _=>eE rfl)<|ai<|al (ρ' :=[(8,_),(0,_),(1,_)]) ⟨rfl,rfl,rfl,trivial⟩<|ak (X' :=[_]) (S' :=[]) (fun _ m=>m)<|ae<| ?_
 refine gj rfl (rfl) ?_
 refine aj<|hy (fun _=>aa rfl)<|hy (fun _=>aa rfl)<| ?_
 refine hx (au rfl Tryz.call313 (GI hw) [0] rfl [] rfl ?_)
 rintro _ _ _ ⟨rfl,rfl,rfl⟩
 refine ai<|al (ρ' :=[(8,_),(0,_),(1,_)]) ⟨rfl,rfl,rfl,trivial⟩<|ak (X' :=[_]) (S' :=[]) (fun _ m=>m)<| ?_
 exact fj trivial rfl [0] rfl [] rfl ⟨rfl,rfl,rfl⟩
theorem Dq{g n:Nat}{v:Value}{ws:List UInt32}{ring:List UInt8}{s:UInt32}:b6 Tryz.prog 310 [.pointer (some ⟨g,0,none⟩),v] [aE g 404 (fk 1 0 ws ring n s)] [] (fun v_ X_ S_=>v_=(.tuple #[])∧X_=[aE g 404 (fk 1 0 ws ring n s)]∧S_=[]):=by
 refine aJ (N:=12) Tryz.func310 rfl rfl (by simp) fun b=> ?_
 refine ah<|aj<|hy (fun _=>aa rfl)<|hy (fun _=>aL rfl)<|hy (fun _=>aD rfl og (by decide))<| ?_
 refine hx (au rfl Tryz.call312 (uc) [0] rfl [] rfl ?_)
 rintro _ _ _ ⟨rfl,rfl,rfl⟩
 refine hy (fun _=>eE rfl)<|ai<|al (ρ' :=[(8,_),(0,_),(1,_)]) ⟨rfl,rfl,rfl,trivial⟩<|ak (X' :=[_]) (S' :=[]) (fun _ m=>m)<|ae<| ?_
 refine cZ rfl (rfl) ?_
 refine aA<| ?_
 exact fj trivial rfl [0] rfl [] rfl ⟨rfl,rfl,rfl⟩
theorem Hi{g n:Nat}{ws:List UInt32}{ring:List UInt8}{s:UInt32}{c:UInt8}(hw:ws.length=256):b6 Tryz.prog 309 [.pointer (some ⟨g,0,none⟩),B8 c] [aE g 404 (fk 0 0 ws ring n s)] [] (fun v_ X_ S_=>v_=(Wd (bm.getD c.toNat 0))∧X_=[aE g 404 (fk 1 0 bm ring n s)]∧S_=[]):=by
 have hc:=UInt8.toNat_lt c
 refine aJ (N:=17) Tryz.func309 rfl rfl (by simp) fun b=> ?_
 refine ah<|aj<|hy (fun _=>ab rfl)<|ai<|ae<|ah<|aj<|hy (fun _=>aa rfl)<|hy (fun _=>aL rfl)<|hy (fun _=>aD rfl vL (by decide))<|hy (fun _=>aa rfl)<|hy (fun _=>e8 rfl rfl)<| ?_
 refine hx (au rfl Tryz.call310 (Gj hw) [0] rfl [] rfl ?_)
 rintro _ _ _ ⟨rfl,rfl,rfl⟩
 refine ai<|al (ρ' :=[(4,_),(0,_),(1,_)]) ⟨rfl,rfl,rfl,trivial⟩<|ak (X' :=[_]) (S' :=[]) (fun _ m=>m)<|ae<|ah<|aj<|hy (fun _=>aa rfl)<|hy (fun _=>aa rfl)<|hy (fun _=>aL rfl)<|hy (fun _=>aD rfl rz (by decide))<|hy (fun _=>bR rfl rfl Tryz.underlying399 br rfl (by omega))<|hy (fun m=>aq rfl bC (mr (m.aN 0 rfl) (Cz bl (by omega))))<|hy (fun _=>ab rfl)<|ai<|al (ρ' :=[(4,_),(0,_),(1,_)]) ⟨rfl,rfl,rfl,trivial⟩<|ae<|aU<| ?_
 exact aZ trivial rfl rfl [0] rfl [] rfl ⟨rfl,rfl,rfl⟩
theorem CL{g n:Nat}{ring:List UInt8}{s:UInt32}{c:UInt8}:b6 Tryz.prog 309 [.pointer (some ⟨g,0,none⟩),B8 c] [aE g 404 (fk 1 0 bm ring n s)] [] (fun v_ X_ S_=>v_=(Wd (bm.getD c.toNat 0))∧X_=[aE g 404 (fk 1 0 bm ring n s)]∧S_=[]):=by
 have hc:=UInt8.toNat_lt c
 refine aJ (N:=17) Tryz.func309 rfl rfl (by simp) fun b=> ?_
 refine ah<|aj<|hy (fun _=>ab rfl)<|ai<|ae<|ah<|aj<|hy (fun _=>aa rfl)<|hy (fun _=>aL rfl)<|hy (fun _=>aD rfl vL (by decide))<|hy (fun _=>aa rfl)<|hy (fun _=>e8 rfl rfl)<| ?_
 refine hx (au rfl Tryz.call310 (Dq) [0] rfl [] rfl ?_)
 rintro _ _ _ ⟨rfl,rfl,rfl⟩
 refine ai<|al (ρ' :=[(4,_),(0,_),(1,_)]) ⟨rfl,rfl,rfl,trivial⟩<|ak (X' :=[_]) (S' :=[]) (fun _ m=>m)<|ae<|ah<|aj<|hy (fun _=>aa rfl)<|hy (fun _=>aa rfl)<|hy (fun _=>aL rfl)<|hy (fun _=>aD rfl rz (by decide))<|hy (fun _=>bR rfl rfl Tryz.underlying399 br rfl (by omega))<|hy (fun m=>aq rfl bC (mr (m.aN 0 rfl) (Cz bl (by omega))))<|hy (fun _=>ab rfl)<|ai<|al (ρ' :=[(4,_),(0,_),(1,_)]) ⟨rfl,rfl,rfl,trivial⟩<|ae<|aU<| ?_
 exact aZ trivial rfl rfl [0] rfl [] rfl ⟨rfl,rfl,rfl⟩
end Go.Proofs.YtmibdabdlgmafaaGreatDoor
end
section
set_option maxRecDepth 20000
namespace Go.Proofs.YtmibdabdlgmafaaGreatDoor
open Go.Eng Go.Hx
def jW(ring l:List UInt8):Prop:=ring.length=16∧∀i,i<l.length→l.length≤i+16→ring.getD (i % 16) 0=l.getD i 0
theorem jW.snoc{ring l:List UInt8}(h:jW ring l)(c:UInt8):jW (ring.set (l.length % 16) c) (l++[c]):=by
 refine⟨by rw[List.length_set];exact h.1,fun i hi hi2=> ?_⟩
 rw[List.length_append,List.length_singleton]at hi hi2
 have h1:=h.1
 by_cases e:i=l.length
 ·subst e
  rw[List.getD,List.getElem?_set_self (by omega),List.getD,List.getElem?_append_right (Nat.le_refl _),Nat.sub_self]
  rfl
 ·have hne:l.length % 16≠i % 16:=by omega
  have h2:=h.2 i (by omega) (by omega)
  rw[List.getD]at h2
  rw[List.getD,List.getElem?_set_ne hne,h2,List.getD,List.getD,List.getElem?_append_left (by omega)]
theorem jW.nil{ring:List UInt8}(h:ring.length=16):jW ring []:=⟨h,fun i hi=>absurd hi (by simp)⟩
theorem jW.last{ring l:List UInt8}(h:jW ring l)(hl:16≤l.length):ring.getD (l.length % 16) 0=l.getD (l.length-16) 0:=by
 have:=h.2 (l.length-16) (by omega) (by omega)
 rwa [show(l.length-16) % 16=l.length % 16 by omega]at this
structure fg where
 d:Int
 ws:List UInt32
 ring:List UInt8
structure fg.ok(s:fg)(l:List UInt8):Prop where
 ws:(s.d=0∧s.ws.length=256)∨(s.d=1∧s.ws=bm)
 ring:jW s.ring l
theorem fg.ok.wl{s:fg}{l:List UInt8}(h:s.ok l):s.ws.length=256:=by
 rcases h.ws with h|h
 ·exact h.2
 ·rw[h.2];exact bl
theorem fg.ok.clear{s:fg}{l:List UInt8}(h:s.ok l):s.ok []:=⟨h.ws,.nil h.ring.1⟩
abbrev jN(g:Nat)(s:fg)(l:List UInt8):bc:=aE g 404 (fk s.d 0 s.ws s.ring l.length (dU bm l))
def kj:fg:=⟨0,List.replicate 256 0,List.replicate 16 0⟩
theorem uQ:kj.ok []:=⟨.inl ⟨rfl,List.length_replicate ..⟩,.nil (List.length_replicate ..)⟩
theorem FK{g n:Nat}{d:Int}{ws:List UInt32}{ring:List UInt8}{s:UInt32}{c:UInt8}(hd:(d=0∧ws.length=256)∨(d=1∧ws=bm)):b6 Tryz.prog 309 [.pointer (some ⟨g,0,none⟩),B8 c] [aE g 404 (fk d 0 ws ring n s)] [] (fun v_ X_ S_=>v_=(Wd (bm.getD c.toNat 0))∧X_=[aE g 404 (fk 1 0 bm ring n s)]∧S_=[]):=by
 rcases hd with⟨rfl,h⟩|⟨rfl,rfl⟩
 ·exact Hi h
 ·exact CL
theorem wZ:b6 Tryz.prog 303 [] [] [] (fun v_ X_ S_=>∃g,v_=(.pointer (some ⟨g,0,none⟩))∧X_=[jN g kj []]∧S_=[]):=by
 refine aJ (N:=3) Tryz.func303 rfl rfl (by simp) fun b=> ?_
 refine ah<|aj<|hy (fun _=>ab rfl)<|ai<|ae<|ah<|aj<|hy (fun _=>dV Fb rfl (by kernel_rfl))<| ?_
 refine hx (bn rfl (fun g2=> ?_))
 refine hy (fun _=>ab rfl)<|ai<|al (ρ' :=[(0,_)]) ⟨rfl,trivial⟩<|ak (X' :=[_]) (S' :=[]) (fun _ m=>m)<|ae<|aU<| ?_
 refine ak (fun w m=>m.bq 0 rfl (show _=aE g2 404 (fk kj.d 0 kj.ws kj.ring ([]:List UInt8).length (dU bm []))from congrArg (aE _ _) (aR _))) ?_
 exact aZ trivial rfl rfl [0] rfl [] rfl ⟨_,rfl,rfl,rfl⟩
theorem Gr{g:Nat}{s:fg}{l:List UInt8}{c:UInt8}(hs:s.ok l)(hn:l.length≤1000000):b6 Tryz.prog 304 [.pointer (some ⟨g,0,none⟩),B8 c] [jN g s l] [] (fun v_ X_ S_=>∃s1,v_=(Wd (dU bm (l++[c])))∧X_=[jN g s1 (l++[c])]∧S_=[]∧(s1.ok (l++[c]))):=by
 have hw:=hs.wl
 have hr:=hs.ring.1
 have hsn:=ub bm l c
 refine aJ (N:=66) Tryz.func304 rfl rfl (by simp) fun b=> ?_
 refine ah<|aj<|hy (fun _=>ab rfl)<|ai<|ae<|ah<|aj<|hy (fun _=>aa rfl)<|hy (fun _=>aL rfl)<|hy (fun _=>aD rfl BK (by decide))<|hy (fun _=>e8 rfl rfl)<|hy (fun _=>ab rfl)<|ai<|al (ρ' :=[(5,_),(4,_),(0,_),(1,_)]) ⟨rfl,rfl,rfl,rfl,trivial⟩<|ae<|ah<|aj<|hy (fun _=>aa rfl)<|hy (fun _=>aL rfl)<|hy (fun _=>aD rfl jc (by decide))<|hy (fun m=>aq rfl dr ((m.aN 0 rfl).cell (wx hw hr)))<|hy (fun _=>yV (gK rfl rfl (by omega) (by omega)) ((show Value.int .i64 ((l.length:Int) % 16)= .int .i64 ((l.length % 16:Nat):Int) by rw[Int.natCast_emod];rfl)))<|hy (fun _=>ab rfl)<|ai<|al (ρ' :=[(6,_),(5,_),(4,_),(0,_),(1,_)]) ⟨rfl,rfl,rfl,rfl,rfl,trivial⟩<|ae<|ah<|aj<|hy (fun _=>aa rfl)<|hy (fun _=>aa rfl)<|hy (fun _=>aL rfl)<|hy (fun _=>aD rfl je (by decide))<|hy (fun m=>aq rfl bC ((m.aN 0 rfl).cell (vT hw hr)))<| ?_
 refine hx (au rfl Tryz.call296 (CW (by decide) (by decide) (n:=1) (x:=(dU bm l))) [] rfl [] rfl ?_)
 rintro _ _ _ ⟨rfl,rfl,rfl⟩
 refine hy (fun _=>aa rfl)<|hy (fun _=>aa rfl)<| ?_
 have e1:gX (32-1) (dU bm l)=jG (dU bm l):=q8 (n:=1) (by decide)
 rw[e1]
 refine hx (ej rfl rfl Tryz.call309 (FK hs.ws (c:=c)) [0] rfl [] rfl ?_)
 rintro _ _ _ ⟨rfl,rfl,rfl⟩
 refine hy (fun _=>cL rfl rfl)<|hy (fun _=>aL rfl)<|hy (fun _=>aD rfl je (by decide))<| ?_
 refine cB (bX 0 rfl rfl rfl br rfl (by(rw[ik bl hr];try dsimp only);omega) ?_)
 refine aF (fun w m=>m.bq 0 rfl (show _=aE g 404 (fk 1 0 bm s.ring l.length (jG (dU bm l) ^^^ bm.getD c.toNat 0))from congrArg (aE _ _) (oC bl hr))) ?_
 refine ai<|al (ρ' :=[(6,_),(5,_),(4,_),(0,_),(1,_)]) ⟨rfl,rfl,rfl,rfl,rfl,trivial⟩<|ak (X' :=[_]) (S' :=[]) (fun _ m=>m)<|ae<|ah<|ah<|aj<|hy (fun _=>aa rfl)<|hy (fun _=>aL rfl)<|hy (fun _=>aD rfl jc (by decide))<|hy (fun m=>aq rfl dr ((m.aN 0 rfl).cell (wx bl hr)))<|hy (fun _=>ee rfl rfl)<|ai<|al (ρ' :=[(32,_),(6,_),(5,_),(4,_),(0,_),(1,_)]) ⟨rfl,rfl,rfl,rfl,rfl,rfl,trivial⟩<|ae<| ?_
 refine cj rfl (fun hge=> ?_) (fun hge=> ?_)
 ·have hl16:16≤l.length:=by omega
  rw[if_pos hl16]at hsn
  refine qx [0] [] rfl rfl [11,12,16] [(0,some 2),(1,some 2),(2,some 2),(3,some 2),(4,some 0),(5,some 2),(6,some 0),(7,some 2),(8,some 0),(9,some 0),(10,some 0),(11,none),(12,none),(13,some 2),(14,some 2),(15,some 2),(16,none)] (by kernel_rfl) (by kernel_rfl) rfl 2<|an (aa rfl)<|an (aL rfl)<|an (aD rfl je (by decide))<|bY (fun m=>aq rfl bC ((m.aN 0 rfl).cell (vT bl hr)))<|an (aa rfl)<|an (aa rfl)<|an (aa rfl)<|an (aL rfl)<|an (aD rfl rE (by decide))<|an (bR rfl rfl Tryz.underlying402 dF rfl (by omega))<|bY (fun m=>aq rfl iL (mr (m.aN 0 rfl) (Gd bl hr (by omega))))<| ?_
  refine dq (ej rfl rfl Tryz.call309 (CL (c:=(s.ring.getD (l.length % 16) 0))) [0] rfl [] rfl ?_)
  rintro _ _ _ ⟨rfl,rfl,rfl⟩
  refine⟨(fun _=>wk [0] [] rfl rfl), ?_⟩
  refine dq (au rfl Tryz.call296 (CW (by decide) (by decide) (n:=16) (x:=(bm.getD (s.ring.getD (l.length % 16) 0).toNat 0))) [] rfl [] rfl ?_)
  rintro _ _ _ ⟨rfl,rfl,rfl⟩
  refine⟨(fun _=>wk [0] [] rfl rfl), ?_⟩
  have e2:gX (32-16) (bm.getD (s.ring.getD (l.length % 16) 0).toNat 0)=ln (bm.getD (l.getD (l.length-16) 0).toNat 0) 16:=by rw[q8 (n:=16) (by decide),hs.ring.last hl16]
  rw[e2]
  refine an (cL rfl rfl)<|an (aL rfl)<|an (aD rfl je (by decide))<| ?_
  refine fS (bX 0 rfl rfl rfl br rfl (by(rw[ik bl hr];try dsimp only);omega) ⟨(fun h=>absurd h (by decide)), ?_⟩)
  refine dQ (fun w m=>m.bq 0 rfl (show _=aE g 404 (fk 1 0 bm s.ring l.length (dU bm (l++[c])))from congrArg (aE _ _) (by rw[hsn];exact oC bl hr))) ?_
  refine bk<|al (ρ' :=[(32,_),(6,_),(5,_),(4,_),(0,_),(1,_)]) ⟨rfl,rfl,rfl,rfl,rfl,rfl,trivial⟩<|ak (X' :=[_]) (S' :=[]) (fun _ m=>m)<|ae<|ah<|aj<|hy (fun _=>aa rfl)<|hy (fun _=>aa rfl)<|hy (fun _=>aa rfl)<|hy (fun _=>aL rfl)<|hy (fun _=>aD rfl rE (by decide))<|hy (fun _=>bR rfl rfl Tryz.underlying402 dF rfl (by omega))<| ?_
  refine cB (bX 0 rfl rfl rfl dF rfl (by(rw[ik bl hr];try dsimp only);omega) ?_)
  refine aF (fun w m=>m.bq 0 rfl (show _=aE g 404 (fk 1 0 bm (s.ring.set (l.length % 16) c) l.length (dU bm (l++[c])))from congrArg (aE _ _) (show(fk 1 0 bm s.ring l.length (dU bm (l++[c]))).set (259+l.length % 16) (B8 c)=_ from tc bl hr (by omega)))) ?_
  have hr2:(s.ring.set (l.length % 16) c).length=16:=by rw[List.length_set];exact hr
  refine ai<|al (ρ' :=[(32,_),(6,_),(5,_),(4,_),(0,_),(1,_)]) ⟨rfl,rfl,rfl,rfl,rfl,rfl,trivial⟩<|ak (X' :=[_]) (S' :=[]) (fun _ m=>m)<|ae<|ah<|aj<|hy (fun _=>aa rfl)<|hy (fun _=>aL rfl)<|hy (fun _=>aD rfl jc (by decide))<|hy (fun m=>aq rfl dr ((m.aN 0 rfl).cell (wx bl hr2)))<|hy (fun _=>aK rfl rfl (bs (by omega) (by omega)))<|hy (fun _=>aL rfl)<|hy (fun _=>aD rfl jc (by decide))<| ?_
  refine cB (bX 0 rfl rfl rfl tR rfl (by(rw[ik bl hr2];try dsimp only);omega) ?_)
  refine aF (fun w m=>m.bq 0 rfl (show _=aE g 404 (fk 1 0 bm (s.ring.set (l.length % 16) c) (l++[c]).length (dU bm (l++[c])))from congrArg (aE _ _) (by rw[List.length_append];exact o3 (m:=l.length+1) bl hr2))) ?_
  refine ai<|al (ρ' :=[(32,_),(6,_),(5,_),(4,_),(0,_),(1,_)]) ⟨rfl,rfl,rfl,rfl,rfl,rfl,trivial⟩<|ak (X' :=[_]) (S' :=[]) (fun _ m=>m)<|ae<|ah<|aj<|hy (fun _=>aa rfl)<|hy (fun _=>aL rfl)<|hy (fun _=>aD rfl je (by decide))<|hy (fun m=>aq rfl bC ((m.aN 0 rfl).cell (vT bl hr2)))<|hy (fun _=>ab rfl)<|ai<|al (ρ' :=[(4,_),(32,_),(6,_),(5,_),(0,_),(1,_)]) ⟨rfl,rfl,rfl,rfl,rfl,rfl,trivial⟩<|ae<|aU<| ?_
  exact aZ trivial rfl rfl [0] rfl [] rfl ⟨(⟨1,bm,s.ring.set (l.length % 16) c⟩:fg),rfl,rfl,rfl,⟨.inr ⟨rfl,rfl⟩,hs.ring.snoc c⟩⟩
 ·have hl16:¬16≤l.length:=by omega
  rw[if_neg hl16]at hsn
  rw[←hsn]
  refine aA<|ae<|ah<|aj<|hy (fun _=>aa rfl)<|hy (fun _=>aa rfl)<|hy (fun _=>aa rfl)<|hy (fun _=>aL rfl)<|hy (fun _=>aD rfl rE (by decide))<|hy (fun _=>bR rfl rfl Tryz.underlying402 dF rfl (by omega))<| ?_
  refine cB (bX 0 rfl rfl rfl dF rfl (by(rw[ik bl hr];try dsimp only);omega) ?_)
  refine aF (fun w m=>m.bq 0 rfl (show _=aE g 404 (fk 1 0 bm (s.ring.set (l.length % 16) c) l.length (dU bm (l++[c])))from congrArg (aE _ _) (show(fk 1 0 bm s.ring l.length (dU bm (l++[c]))).set (259+l.length % 16) (B8 c)=_ from tc bl hr (by omega)))) ?_
  have hr2:(s.ring.set (l.length % 16) c).length=16:=by rw[List.length_set];exact hr
  refine ai<|al (ρ' :=[(32,_),(6,_),(5,_),(4,_),(0,_),(1,_)]) ⟨rfl,rfl,rfl,rfl,rfl,rfl,trivial⟩<|ak (X' :=[_]) (S' :=[]) (fun _ m=>m)<|ae<|ah<|aj<|hy (fun _=>aa rfl)<|hy (fun _=>aL rfl)<|hy (fun _=>aD rfl jc (by decide))<|hy (fun m=>aq rfl dr ((m.aN 0 rfl).cell (wx bl hr2)))<|hy (fun _=>aK rfl rfl (bs (by omega) (by omega)))<|hy (fun _=>aL rfl)<|hy (fun _=>aD rfl jc (by decide))<| ?_
  refine cB (bX 0 rfl rfl rfl tR rfl (by(rw[ik bl hr2];try dsimp only);omega) ?_)
  refine aF (fun w m=>m.bq 0 rfl (show _=aE g 404 (fk 1 0 bm (s.ring.set (l.length % 16) c) (l++[c]).length (dU bm (l++[c])))from congrArg (aE _ _) (by rw[List.length_append];exact o3 (m:=l.length+1) bl hr2))) ?_
  refine ai<|al (ρ' :=[(32,_),(6,_),(5,_),(4,_),(0,_),(1,_)]) ⟨rfl,rfl,rfl,rfl,rfl,rfl,trivial⟩<|ak (X' :=[_]) (S' :=[]) (fun _ m=>m)<|ae<|ah<|aj<|hy (fun _=>aa rfl)<|hy (fun _=>aL rfl)<|hy (fun _=>aD rfl je (by decide))<|hy (fun m=>aq rfl bC ((m.aN 0 rfl).cell (vT bl hr2)))<|hy (fun _=>ab rfl)<|ai<|al (ρ' :=[(4,_),(32,_),(6,_),(5,_),(0,_),(1,_)]) ⟨rfl,rfl,rfl,rfl,rfl,rfl,trivial⟩<|ae<|aU<| ?_
  exact aZ trivial rfl rfl [0] rfl [] rfl ⟨(⟨1,bm,s.ring.set (l.length % 16) c⟩:fg),rfl,rfl,rfl,⟨.inr ⟨rfl,rfl⟩,hs.ring.snoc c⟩⟩
theorem Bj{g:Nat}{s:fg}{l:List UInt8}(hs:s.ok l):b6 Tryz.prog 305 [.pointer (some ⟨g,0,none⟩)] [jN g s l] [] (fun v_ X_ S_=>v_=(.tuple #[])∧X_=[jN g s []]∧S_=[]):=by
 have hw:=hs.wl
 have hr:=hs.ring.1
 refine aJ (N:=8) Tryz.func305 rfl rfl (by simp) fun b=> ?_
 refine bg (fun w m=>m.bq 0 rfl (show _=aE g 404 (fk s.d 0 s.ws s.ring l.length (dU bm l))from rfl)) ?_
 refine aj<|hy (fun _=>aa rfl)<|hy (fun _=>aa rfl)<|hy (fun _=>aL rfl)<|hy (fun _=>aD rfl jc (by decide))<| ?_
 refine cB (bX 0 rfl rfl rfl tR rfl (by(rw[ik hw hr];try dsimp only);omega) ?_)
 refine aF (fun w m=>m.bq 0 rfl (show _=aE g 404 (fk s.d 0 s.ws s.ring 0 (dU bm l))from congrArg (aE _ _) (o3 (m:=0) hw hr))) ?_
 refine hy (fun _=>aL rfl)<|hy (fun _=>aD rfl je (by decide))<| ?_
 refine cB (bX 0 rfl rfl rfl br rfl (by(rw[ik hw hr];try dsimp only);omega) ?_)
 refine aF (fun w m=>m.bq 0 rfl (show _=aE g 404 (fk s.d 0 s.ws s.ring ([]:List UInt8).length (dU bm []))from congrArg (aE _ _) (oC (x:=0) hw hr))) ?_
 refine ai<|al (ρ' :=[(0,_)]) ⟨rfl,trivial⟩<|ak (X' :=[_]) (S' :=[]) (fun _ m=>m)<| ?_
 exact fj trivial rfl [0] rfl [] rfl ⟨rfl,rfl,rfl⟩
end Go.Proofs.YtmibdabdlgmafaaGreatDoor
end
section
set_option maxRecDepth 20000
namespace Go.Proofs.YtmibdabdlgmafaaGreatDoor
open Go.Eng Go.Hx Go.Extern
theorem text(A:Option Addr)(n c:Nat)(l:List UInt8)(w:World)(hr:Rd w 1 A n (aP l))(hn:n≤70368744177664):
  Calls Tryz.prog 177 #[.slice A n c] w fun e w' =>e= .returned (.string (strOf (cx l)))∧Fr No w w' :=by
 have hl:l.length=n:=by have:=hr.1;rw[az]at this;omega
 refine enter (N:=28) Tryz.func177 rfl rfl (by simp) ?_
 refine bB<|bP<|nq (ab rfl)<|bQ<|bd<|bB<|bP<|nq (ab rfl)<|bQ<|bd<|bB<|bB<|bP<|nq (aa rfl)<|nq (aW rfl Tryz.underlying27)<|nq (aa rfl)<|bQ<|cu (ag (t:=7) rfl<|ag (t:=6) rfl<|ag (t:=3) rfl<|ag (t:=2) rfl<|ag (t:=0) rfl<|aV)<|bd<|dM<| ?_
 refine um (fun k _=>n-k) (fun k v=>[(0,.slice A n c),(3,v),(6,.int .i64 n),(7,.int .i64 (k:Nat))]) (fun k v w' =>k≤n∧Go.Eng.Own w' w.heap.size 5 1 v (2*k) (aP (cx (l.take k)))∧Fr No w w') 0 (.slice none 0 0) (⟨Nat.zero_le _,Own.nil w w.heap.size _ 1,Fr.refl _ _⟩) (ag (t:=0) rfl<|ag (t:=3) rfl<|ag (t:=6) rfl<|ag (t:=7) rfl<|aV) (fun k v w1 ⟨hk,ho,hf⟩=> ?_)
 refine bB<|bP<|nq (bu rfl rfl)<|bQ<|bd<|bB<| ?_
 refine xD rfl (fun h=> ?_) (fun h=> ?_)
 ·have hkn:k<n:=by omega
  have hb:=(l.getD k 0).toNat_lt
  refine iv<|bd<|bB<|dM<|bB<|bP<|nq (aa rfl)<|nq (ab rfl)<|bQ<|cu (ag (t:=4) rfl<|ag (t:=8) rfl<|ag (t:=0) rfl<|ag (t:=3) rfl<|ag (t:=6) rfl<|ag (t:=7) rfl<|aV)<|bd<| ?_
  refine Gh [(0,false),(1,false),(2,false),(3,false),(4,false),(5,false),(6,false),(7,false),(8,false),(9,false),(10,false),(11,false),(12,false),(13,true),(14,true),(15,false)] (by kernel_rfl) (by kernel_rfl) rfl (fun w' =>Fr No w w') (hf.eH (Fr.drew _)) (fun w2 hf2 hS2=> ?_)
  refine sq (fun w_ hS_=>aa rfl)<|sq (fun w_ hS_=>aa rfl)<|sq (fun w_ hS_=>aa rfl)<|sq (fun w_ hS_=>aO rfl rfl Tryz.underlying27 dF hr.2.1 rfl (by omega))<|sq (fun w_ hS_=>aq rfl iL (((hr.xA hS_).cell (bE (by omega)))))<|sq (fun w_ hS_=>lr (p:=16) rfl rfl (by decide) (by decide) (by decide))<|sq (fun w_ hS_=>iR rfl rfl Tryz.underlying9 rfl ((AG _)))<|sq (fun w_ hS_=>aa rfl)<|sq (fun w_ hS_=>aa rfl)<|sq (fun w_ hS_=>aO rfl rfl Tryz.underlying27 dF hr.2.1 rfl (by omega))<|sq (fun w_ hS_=>aq rfl iL (((hr.xA hS_).cell (bE (by omega)))))<|sq (fun w_ hS_=>gh (by simp) rfl rfl ((FO _)))<|sq (fun w_ hS_=>iR rfl rfl Tryz.underlying9 rfl ((AQ _)))<| ?_
  refine sx (sv Tryz.underlying27 eT rfl rfl rfl (by simp[Value.cells,B8]) (by decide) (by decide) fun g w3 hg hf3 hb3=> ?_)
  have hS3:Fr No w w3:=hS2.eH hf3
  refine⟨hS3, ?_⟩
  refine sx (oM rfl rfl Tryz.underlying27 Tryz.underlying27 (by exact .inl rfl) eT rfl (ho.xA (hf2.eH hf3)) (Src.bS (Own.rd (Own.made hb3 (Nat.le_refl _) (Nat.le_refl _) (by decide) (by rfl))).2.2) (by simp[Value.cells];exact⟨rfl,rfl⟩) (by unfold maxLen;omega) (by omega) hS3.size fun v4 w4 ho4 hf4 hv4=> ?_)
  have hS4:Fr No w w4:=hS3.new hf4 (fun i hi=>(ho.from hi).1)
  refine⟨hS4, ?_⟩
  refine sq (fun w_ hS_=>ab rfl)<|send<|cu (ag (t:=3) rfl<|ag (t:=4) rfl<|ag (t:=8) rfl<|ag (t:=0) rfl<|ag (t:=6) rfl<|ag (t:=7) rfl<|aV)<|ju<|bd<|bP<|nq (aK rfl rfl (bs (by omega) (by omega)))<|nq (aa rfl)<|bQ<|cu (ag (t:=7) rfl<|ag (t:=3) rfl<|ag (t:=4) rfl<|ag (t:=8) rfl<|ag (t:=0) rfl<|ag (t:=6) rfl<|aV)<| ?_
  refine uP (k+1) v4 (ag (t:=0) rfl<|ag (t:=3) rfl<|ag (t:=6) rfl<|ag (t:=7) rfl<|aV) (⟨by omega, ?_,hS4⟩) (by omega)
  have e1:2*k+2=2*(k+1):=by omega
  have e2:cx (l.take (k+1))=cx (l.take k)++uu (l.getD k 0):=qn (by omega)
  rw[e1]at ho4
  rw[e2,bK]
  exact ho4
 ·obtain rfl:k=n:=by omega
  obtain⟨A',c',rfl,hc'⟩:=ho.slice
  have hro:=(Own.rd ho).2.2
  rw[List.take_of_length_le (by omega)]at hro
  refine lZ<|cz<|cz<|dH<|bd<|bB<|bP<|nq (aa rfl)<|nq (lT rfl Tryz.underlying27 Tryz.underlying5 Tryz.underlying9 hro)<|nq (ab rfl)<|bQ<|cu (ag (t:=2) rfl<|ag (t:=8) rfl<|ag (t:=0) rfl<|ag (t:=3) rfl<|ag (t:=6) rfl<|ag (t:=7) rfl<|aV)<|bd<|ix<| ?_
  exact iD trivial rfl rfl ⟨rfl,hf⟩
theorem Fq(A:Option Addr)(n c:Nat)(l:List UInt8)(w:World)(hr:Rd w 1 A n (aP l))(hn:n≤70368744177664):
  Calls Tryz.prog 182 #[.slice A n c] w fun e w' =>e= .returned (.string (strOf (cx l)))∧Fr No w w' :=by
 have hl:l.length=n:=by have:=hr.1;rw[az]at this;omega
 refine enter (N:=40) Tryz.func182 rfl rfl (by simp) ?_
 refine bB<|bP<|nq (ab rfl)<|bQ<|bd<|bB<|bP<|nq (ab rfl)<|bQ<|bd<|bB<|bP<|nq (ab rfl)<|bQ<|bd<|bB<|bB<|bP<|nq (ab rfl)<|bQ<|bd<|dM<| ?_
 refine my (fun k=>n-k) (fun k=>[(0,.slice A n c),(3,.string ⟨#[48,49,50,51,52,53,54,55,56,57,97,98,99,100,101,102]⟩),(4,.string (strOf (cx (l.take k)))),(5,.int .i64 (k:Nat))]) (fun k w' =>k≤n∧Fr No w w') 0 (⟨Nat.zero_le _,Fr.refl _ _⟩) (ag (t:=0) rfl<|ag (t:=3) rfl<|ag (t:=4) rfl<|ag (t:=5) rfl<|aV) (fun k w1 ⟨hk,hf⟩=> ?_)
 refine bB<|bB<|bP<|nq (aa rfl)<|nq (aa rfl)<|nq (aW rfl Tryz.underlying27)<|nq (bu rfl rfl)<|bQ<|cu (ag (t:=11) rfl<|ag (t:=0) rfl<|ag (t:=3) rfl<|ag (t:=4) rfl<|ag (t:=5) rfl<|aV)<|bd<| ?_
 refine xD rfl (fun h=> ?_) (fun h=> ?_)
 ·have hkn:k<n:=by omega
  have hb:=(l.getD k 0).toNat_lt
  have hr1:=hr.xA hf
  refine iv<|bd<|bB<|dM<|bB<|bP<|nq (aa rfl)<|nq (aa rfl)<|nq (aO rfl rfl Tryz.underlying27 dF hr.2.1 rfl (by omega))<|nq (aq rfl iL (hr1.cell (bE (by omega))))<|nq (bU rfl Tryz.underlying5 Tryz.underlying3 ((AE _)))<|nq (j0 rfl rfl (by omega) (by omega) (bs (by omega) (by omega)))<|nq (ab rfl)<|bQ<|cu (ag (t:=6) rfl<|ag (t:=11) rfl<|ag (t:=0) rfl<|ag (t:=3) rfl<|ag (t:=4) rfl<|ag (t:=5) rfl<|aV)<|bd<|bB<|bP<|nq (aa rfl)<|nq (aa rfl)<|nq (aO rfl rfl Tryz.underlying27 dF hr.2.1 rfl (by omega))<|nq (aq rfl iL (hr1.cell (bE (by omega))))<|nq (bU rfl Tryz.underlying5 Tryz.underlying3 ((AE _)))<|nq (gK rfl rfl (by omega) (by omega))<|nq (ab rfl)<|bQ<|cu (ag (t:=7) rfl<|ag (t:=6) rfl<|ag (t:=11) rfl<|ag (t:=0) rfl<|ag (t:=3) rfl<|ag (t:=4) rfl<|ag (t:=5) rfl<|aV)<|bd<| ?_
  have hll:=dN (l.take k)
  have htl:(l.take k).length≤k:=List.length_take_le _ _
  refine Gh [(0,false),(1,false),(2,false),(3,false),(4,false),(5,false),(6,false),(7,false),(8,false),(9,false),(10,false),(11,false),(12,false),(13,false)] (by kernel_rfl) (by kernel_rfl) rfl (fun w' =>Fr No w w') (hf.eH (Fr.drew _)) (fun w2 hf2 hS2=> ?_)
  refine sq (fun w_ hS_=>aa rfl)<|sq (fun w_ hS_=>aa rfl)<|sq (fun w_ hS_=>aa rfl)<|sq (fun w_ hS_=>aa rfl)<|sq (fun w_ hS_=>aK rfl rfl (bs (by omega) (by omega)))<|sq (fun w_ hS_=>pZ rfl rfl rfl Tryz.underlying9 (show(((l.getD k 0).toNat/16:Nat):Int)=_ by omega) (show(((l.getD k 0).toNat/16+1:Nat):Int)=_ by omega) ((by omega)) ((by show _≤16;omega)))<|sq (fun w_ hS_=>iH rfl rfl ((by simp[dR];omega)))<|sq (fun w_ hS_=>aa rfl)<|sq (fun w_ hS_=>aa rfl)<|sq (fun w_ hS_=>aa rfl)<|sq (fun w_ hS_=>aK rfl rfl (bs (by omega) (by omega)))<|sq (fun w_ hS_=>pZ rfl rfl rfl Tryz.underlying9 (show(((l.getD k 0).toNat % 16:Nat):Int)=_ by omega) (show(((l.getD k 0).toNat % 16+1:Nat):Int)=_ by omega) ((by omega)) ((by show _≤16;omega)))<|sq (fun w_ hS_=>yV (iH rfl rfl ((by simp[dR,ByteArray.size_append];omega))) (congrArg Value.string (xe (by omega))))<|sq (fun w_ hS_=>ab rfl)<|send<|cu (ag (t:=4) rfl<|ag (t:=7) rfl<|ag (t:=6) rfl<|ag (t:=11) rfl<|ag (t:=0) rfl<|ag (t:=3) rfl<|ag (t:=5) rfl<|aV)<|ju<|bd<|bP<|nq (aa rfl)<|nq (aK rfl rfl (bs (by omega) (by omega)))<|nq (ab rfl)<|bQ<|cu (ag (t:=5) rfl<|ag (t:=4) rfl<|ag (t:=7) rfl<|ag (t:=6) rfl<|ag (t:=11) rfl<|ag (t:=0) rfl<|ag (t:=3) rfl<|aV)<| ?_
  refine na (k+1) (ag (t:=0) rfl<|ag (t:=3) rfl<|ag (t:=4) rfl<|ag (t:=5) rfl<|aV) (⟨by omega,hS2⟩) (by omega)
 ·obtain rfl:k=n:=by omega
  refine lZ<|cz<|cz<|dH<|bd<|bB<|bP<|nq (aa rfl)<|nq (ab rfl)<|bQ<|cu (ag (t:=2) rfl<|ag (t:=11) rfl<|ag (t:=0) rfl<|ag (t:=3) rfl<|ag (t:=4) rfl<|ag (t:=5) rfl<|aV)<|bd<|ix<| ?_
  refine iD trivial rfl rfl ⟨?_,hf⟩
  rw[List.take_of_length_le (by omega)]
theorem name(a:List UInt8)(w:World)(ha:a.length=32):
  Calls Tryz.prog 104 #[.agg (aP a).toArray] w fun e w' =>e= .returned (.string (strOf (cx a)))∧Fr No w w' :=by
 refine enter (N:=5) Tryz.func104 rfl rfl (by simp) ?_
 refine bB<|bP<| ?_
 refine nx (sQ rfl fun g1 w1 hg1 hf1 hb1=> ?_)
 rw[aR]at hb1
 refine nq (ab rfl)<|bQ<|bd<|bB<|bP<|nq (BC rfl Tryz.underlying53 dF)<| ?_
 refine nx (jg rfl Tryz.call177 (text _ _ _ a _ (Rd.lh hb1 (by rw[az];omega)) (by omega)) ?_)
 rintro e_ w2 ⟨rfl,hf2⟩
 refine⟨_,rfl, ?_⟩
 refine nq (ab rfl)<|bQ<|cu (ag (t:=2) rfl<|ag (t:=1) rfl<|ag (t:=0) rfl<|aV)<|bd<|ix<| ?_
 exact iD trivial rfl rfl ⟨rfl,hf1.eH hf2⟩
theorem Ak(v:Value)(w:World):(Extern.ReflectliteType.typeOf #[.iface 47 v]).run Tryz.prog w= .ok (.iface 312 (.agg #[.pointer (some ⟨2,47,none⟩)])) w:=by kernel_rfl
theorem rW (w : World) : ((Extern.ReflectliteType.method fun t => do Rtype.noPackHeld "Comparable" t; pure (.bool (← typeInfo t).comparable)) #[.agg #[.pointer (some ⟨2, 47, none⟩)]]).run Tryz.prog w = .ok (.bool true) w := by kernel_rfl
theorem k5 (v : Value) (w : World) : (Go.method (Tryz.prog.types.size + Made.depth) 312 v "Comparable").run Tryz.prog w = .ok (341, v) w := by kernel_rfl
theorem Hd(v:Value)(xT:TypeId)(w:World):(Instr.typeAssert (.iface 47 v) xT 314 true).run Tryz.prog w= .ok (.tuple #[.nilIface,.bool false]) w:=run_typeAssert_lacksB Tryz.underlying314 (by kernel_rfl) (by kernel_rfl) v xT w
theorem yQ(v:Value)(xT:TypeId)(w:World):(Instr.typeAssert (.iface 47 v) xT 317 true).run Tryz.prog w= .ok (.tuple #[.nilIface,.bool false]) w:=run_typeAssert_lacksB Tryz.underlying317 (by kernel_rfl) (by kernel_rfl) v xT w
theorem xp(v:Value)(xT:TypeId)(w:World):(Instr.typeAssert (.iface 47 v) xT 319 true).run Tryz.prog w= .ok (.tuple #[.nilIface,.bool false]) w:=run_typeAssert_lacksB Tryz.underlying319 (by kernel_rfl) (by kernel_rfl) v xT w
theorem Gw(k m:Int)(w:World):
  Calls Tryz.prog 176 #[.iface 47 (.int .i64 k),.iface 47 (.int .i64 m),.bool true] w fun e w' =>e= .returned (.bool (decide (k=m)))∧w=w' :=by
 refine enter (N:=54) Tryz.func176 rfl rfl (by simp) ?_
 refine bB<|bP<|nq (ab rfl)<|bQ<|bd<|dM<| ?_
 refine my (fun _=>0) (fun _=>[(0,.iface 47 (.int .i64 k)),(1,.iface 47 (.int .i64 m)),(2,.bool true)]) (fun _ w' =>w=w') 0 (rfl) (ag (t:=0) rfl<|ag (t:=1) rfl<|ag (t:=2) rfl<|aV) (fun i w1 hw=> ?_)
 obtain rfl:=hw
 refine dM<|bB<|bB<|bP<|nq (aa rfl)<|nq (aa rfl)<|ng rfl rfl rfl (aa rfl)<|ng rfl rfl rfl (aa rfl)<|ng rfl rfl rfl (((Eh rfl rfl Tryz.underlying247 (by kernel_rfl) Tryz.underlying47)))<|nq (bT rfl rfl)<|bQ<|cu (ag (t:=19) rfl<|ag (t:=0) rfl<|ag (t:=1) rfl<|ag (t:=2) rfl<|aV)<|bd<| ?_
 refine xD rfl (fun h=> ?_) (fun h=> ?_)
 ·refine bB<|bP<|nq (ab rfl)<|bQ<|bd<|ix<|kd<|gU<|kd<|gU<| ?_
  refine iD trivial rfl rfl ⟨?_,rfl⟩
  rw[decide_eq_true h]
 ·refine iv<|bd<|bB<|bB<|bP<|nq (aa rfl)<|nq (pW rfl ((Hd _ _ _)))<|nq (aa rfl)<|nq (aH rfl rfl)<|nq (aH rfl rfl)<|nq (ab rfl)<|nq (ab rfl)<|bQ<|cu (ag (t:=8) rfl<|ag (t:=7) rfl<|ag (t:=19) rfl<|ag (t:=0) rfl<|ag (t:=1) rfl<|ag (t:=2) rfl<|aV)<|bd<|bB<|bP<|nq (aa rfl)<|nq (aa rfl)<|vD rfl rfl rfl (by decide)<|vD rfl rfl rfl (by decide)<|vD rfl rfl rfl (by decide)<|nq (bo rfl rfl)<|bQ<|cu (ag (t:=30) rfl<|ag (t:=8) rfl<|ag (t:=7) rfl<|ag (t:=19) rfl<|ag (t:=0) rfl<|ag (t:=1) rfl<|ag (t:=2) rfl<|aV)<|bd<| ?_
  refine xg rfl (rfl) ?_
  refine iv<|bd<|bB<|bP<|nq (aa rfl)<|bQ<|bd<|dM<|bB<|bP<|nq (pW rfl ((yQ _ _ _)))<|nq (aH rfl rfl)<|nq (aH rfl rfl)<|bQ<|cu (ag (t:=34) rfl<|ag (t:=33) rfl<|ag (t:=31) rfl<|ag (t:=30) rfl<|ag (t:=8) rfl<|ag (t:=7) rfl<|ag (t:=19) rfl<|ag (t:=0) rfl<|ag (t:=1) rfl<|ag (t:=2) rfl<|aV)<|bd<| ?_
  refine xg rfl (rfl) ?_
  refine bB<|bP<|nq (pW rfl ((xp _ _ _)))<|nq (aH rfl rfl)<|nq (aH rfl rfl)<|bQ<|cu (ag (t:=41) rfl<|ag (t:=40) rfl<|ag (t:=34) rfl<|ag (t:=33) rfl<|ag (t:=31) rfl<|ag (t:=30) rfl<|ag (t:=8) rfl<|ag (t:=7) rfl<|ag (t:=19) rfl<|ag (t:=0) rfl<|ag (t:=1) rfl<|ag (t:=2) rfl<|aV)<|bd<| ?_
  refine xg rfl (rfl) ?_
  refine bB<|bP<|nq (ab rfl)<|bQ<|cu (ag (t:=41) rfl<|ag (t:=40) rfl<|ag (t:=34) rfl<|ag (t:=33) rfl<|ag (t:=31) rfl<|ag (t:=30) rfl<|ag (t:=8) rfl<|ag (t:=7) rfl<|ag (t:=19) rfl<|ag (t:=0) rfl<|ag (t:=1) rfl<|ag (t:=2) rfl<|aV)<|bd<|bB<|bP<|nq (ab rfl)<|bQ<|bd<|ix<|gU<|gU<|kd<|gU<| ?_
  refine iD trivial rfl rfl ⟨?_,rfl⟩
  rw[decide_eq_false h]
theorem yY(k m:Int)(w:World):
    Calls Tryz.prog 103 #[.iface 47 (.int .i64 k),.iface 47 (.int .i64 m)] w fun e w' =>e= .returned (.bool (decide (k=m)))∧w=w' :=by
  refine enter (N:=22) Tryz.func103 rfl rfl (by simp) ?_
  refine bB<|bP<|nq (ab rfl)<|bQ<|bd<|bB<|bB<|bP<|nq (aa rfl)<|nq (((yH rfl rfl (by kernel_rfl))))<|nq (aa rfl)<|ng rfl rfl rfl (aa rfl)<|ng rfl rfl rfl (((yH rfl rfl (by kernel_rfl))))<|nq (bo rfl rfl)<|bQ<|cu (ag (t:=11) rfl<|ag (t:=4) rfl<|ag (t:=0) rfl<|ag (t:=1) rfl<|aV)<|bd<| ?_
  refine xg rfl (rfl) ?_
  refine iv<|bd<|bB<|bP<|nq (aa rfl)<| ?_
  refine nq (CF rfl Tryz.func175 (by kernel_rfl) (by kernel_rfl) (by kernel_rfl) (show _=some Extern.ReflectliteType.typeOf by kernel_rfl) (Ak _ _)) ?_
  refine nq (Dx rfl rfl (k5 _ _) Tryz.func341 (by kernel_rfl) (by kernel_rfl) (by kernel_rfl) (g := Extern.ReflectliteType.method fun t => do Rtype.noPackHeld "Comparable" t; pure (.bool (← typeInfo t).comparable)) (by kernel_rfl) (rW _)) ?_
  refine nq (ab rfl)<|bQ<|cu (ag (t:=5) rfl<|ag (t:=11) rfl<|ag (t:=4) rfl<|ag (t:=0) rfl<|ag (t:=1) rfl<|aV)<|bd<|bB<|bP<|nq (aa rfl)<|nq (aa rfl)<|nq (aa rfl)<| ?_
  refine nx (jg rfl Tryz.call176 (Gw k m w) ?_)
  rintro e_ w1 ⟨rfl,rfl⟩
  refine⟨_,rfl, ?_⟩
  refine nq (ab rfl)<|bQ<|cu (ag (t:=4) rfl<|ag (t:=5) rfl<|ag (t:=11) rfl<|ag (t:=0) rfl<|ag (t:=1) rfl<|aV)<|bd<|ix<| ?_
  exact iD trivial rfl rfl ⟨rfl,rfl⟩
theorem GF(a:List UInt8)(w:World)(ha:a.length=32):
  Calls Tryz.prog 111 #[.agg (aP a).toArray] w fun e w' =>e= .returned (.string (strOf (cx a)))∧Fr No w w' :=by
 refine enter (N:=6) Tryz.func111 rfl rfl (by simp) ?_
 refine bB<|bP<| ?_
 refine nx (sQ rfl fun g1 w1 hg1 hf1 hb1=> ?_)
 rw[aR]at hb1
 refine nq (ab rfl)<|bQ<|bd<|bB<|bP<|nq (aQ rfl cf bL ((by rw[az];exact ha)) hb1.aw)<| ?_
 refine nx (jg rfl Tryz.call183 (bytes a _ ha) ?_)
 rintro e_ w2 ⟨v,rfl,hv,hf2⟩
 refine⟨_,rfl, ?_⟩
 obtain⟨Av,cv,rfl,hcv⟩:=hv.slice
 refine nx (jg rfl Tryz.call182 (Fq Av _ cv a _ ((Own.rd hv).2.2) (by omega)) ?_)
 rintro e_ w3 ⟨rfl,hf3⟩
 refine⟨_,rfl, ?_⟩
 refine nq (ab rfl)<|bQ<|cu (ag (t:=2) rfl<|ag (t:=1) rfl<|ag (t:=0) rfl<|aV)<|bd<|ix<| ?_
 exact iD trivial rfl rfl ⟨rfl,(hf1.eH hf2).eH hf3⟩
end Go.Proofs.YtmibdabdlgmafaaGreatDoor
end
section
set_option maxRecDepth 20000
namespace Go.Proofs.YtmibdabdlgmafaaGreatDoor
open Go.Eng Go.Hx
theorem x3{a:List UInt8}(ha:a.length=32):b6 Tryz.prog 104 [.agg (aP a).toArray] [] [] (fun v_ X_ S_=>v_=(.string (strOf (cx a)))∧X_=[]∧S_=[]):=by
 exact iT fun m=>Calls.mono (name a _ ha) (fun e w' ⟨h,hf⟩=>⟨_,h,⟨rfl,rfl,rfl⟩,hf⟩)
theorem vp{a:List UInt8}(ha:a.length=32):b6 Tryz.prog 111 [.agg (aP a).toArray] [] [] (fun v_ X_ S_=>v_=(.string (strOf (cx a)))∧X_=[]∧S_=[]):=by
 exact iT fun m=>Calls.mono (GF a _ ha) (fun e w' ⟨h,hf⟩=>⟨_,h,⟨rfl,rfl,rfl⟩,hf⟩)
theorem Dl{k q:Int}:b6 Tryz.prog 103 [.iface 47 (.int .i64 k),.iface 47 (.int .i64 q)] [] [] (fun v_ X_ S_=>v_=(.bool (decide (k=q)))∧X_=[]∧S_=[]):=by
 exact iT fun m=>Calls.mono (yY k q _) (fun e w' ⟨h,hw⟩=>⟨_,h,⟨rfl,rfl,rfl⟩,hw▸Fr.refl _ _⟩)
end Go.Proofs.YtmibdabdlgmafaaGreatDoor
end
