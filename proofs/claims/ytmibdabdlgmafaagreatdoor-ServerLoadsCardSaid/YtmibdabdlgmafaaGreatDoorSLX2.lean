/- Part. -/
import Derived.Test.YtmibdabdlgmafaaGreatDoorSLX1
import Derived.Laws.BitsAllLaws
import Derived.Test.YtmibdabdlgmafaaGreatDoorProg
import Derived.KernelRfl
import Derived.Lib.Bytealg
import Derived.Test.YtmibdabdlgmafaaGreatDoorRows
import Derived.ProofKit
import Derived.LaidMore
import Derived.OpenShut
import Derived.MakeChecks
import Derived.LaidHandle
import Derived.LaidLaws
import Derived.Lib.BytesEntry
import Derived.Lib.IndexAny
import Derived.ShutString
import Derived.ChangeOld
import Derived.SizedLaws
import Derived.ChangeSame
set_option linter.all false
section
namespace Go.Eng
open Go.RowKit
abbrev Wd(x:UInt32):Value:=.int .u32 (x.toNat:Int)
def ea(l:List UInt32):List Value:=l.map Wd
theorem bs(l:List UInt32):(ea l).length=l.length:=by simp[ea]
theorem gO{l:List UInt32}:∀u∈ea l,u.oneCell' =true:=by
 intro u hu
 obtain⟨x,_,rfl⟩:=List.mem_map.1 hu
 rfl
theorem pr{l:List UInt32}:∀u∈ea l,u.cells.toList=[u]:=by
 intro u hu
 obtain⟨x,_,rfl⟩:=List.mem_map.1 hu
 rfl
theorem rD{l:List UInt32}:∀u∈ea l,u.cells.size=1:=by
 intro u hu
 obtain⟨x,_,rfl⟩:=List.mem_map.1 hu
 rfl
theorem bg{l:List UInt32}{i:Nat}(h:i<l.length):(ea l)[i]? =some (Wd (l.getD i 0)):=by simp[ea,List.getElem?_map,List.getElem?_eq_getElem h,List.getD]
theorem ov(a b:List UInt32):ea (a++b)=ea a++ea b:=by simp[ea]
theorem u9(l:List UInt32)(i:Nat)(x:UInt32):(ea l).set i (Wd x)=ea (l.set i x):=by simp[ea,List.map_set]
theorem wrap32(n:Nat):IntKind.u32.wrap (n:Int)=((n % 4294967296:Nat):Int):=by
 simp[IntKind.wrap,IntKind.signed,IntKind.bits]
section
variable{P:Program}{N:Nat}{D:List Deferred}{ρ:Env}{w:World}{x y:Operand}{ty t t' e:TypeId}{a b:UInt32}
theorem dr(hx:ev ρ x=some (Wd a))(hy:ev ρ y=some (Wd b)):Yl P N D ρ w (.binOp .add t x y t') ty (Wd (a+b)):=aM hx hy (by
 rw[←Int.natCast_add,wrap32,UInt32.toNat_add])
theorem ra(hx:ev ρ x=some (Wd a))(hy:ev ρ y=some (Wd b)):Yl P N D ρ w (.binOp .mul t x y t') ty (Wd (a*b)):=fv hx hy (by
 rw[←Int.natCast_mul,wrap32,UInt32.toNat_mul])
theorem iY(hx:ev ρ x=some (Wd a))(hy:ev ρ y=some (Wd b)):Yl P N D ρ w (.binOp .and t x y t') ty (Wd (a &&& b)):=fX (by simp) hx hy (by
 rw[u32_and_nat _ _ a.toNat_lt b.toNat_lt,UInt32.toNat_and])
theorem A0(hx:ev ρ x=some (Wd a))(hy:ev ρ y=some (Wd b)):Yl P N D ρ w (.binOp .or t x y t') ty (Wd (a ||| b)):=fX (by simp) hx hy (by
 rw[u32_or_nat _ _ a.toNat_lt b.toNat_lt,UInt32.toNat_or])
theorem ee(hx:ev ρ x=some (Wd a))(hy:ev ρ y=some (Wd b)):Yl P N D ρ w (.binOp .xor t x y t') ty (Wd (a ^^^ b)):=fX (by simp) hx hy (by
 rw[u32_xor_nat _ _ a.toNat_lt b.toNat_lt,UInt32.toNat_xor])
theorem qu(h0:b.toNat≠0)(hx:ev ρ x=some (Wd a))(hy:ev ρ y=some (Wd b)):Yl P N D ρ w (.binOp .quo t x y t') ty (Wd (a/b)):=jF hx hy (by omega) (by omega) (by
 rw[←Int.natCast_ediv,wrap32,UInt32.toNat_div]
 have:=a.toNat_lt
 have h2:=Nat.div_le_self a.toNat b.toNat
 rw[Nat.mod_eq_of_lt (by omega)])
theorem wM(h0:b.toNat≠0)(hx:ev ρ x=some (Wd a))(hy:ev ρ y=some (Wd b)):Yl P N D ρ w (.binOp .rem t x y t') ty (Wd (a % b)):=by
 have h:=gr (P:=P) (N:=N) (D:=D) (w:=w) (ty:=ty) (t:=t) (t' :=t') hx hy (by omega) (by omega)
 have e:((a.toNat:Int) % (b.toNat:Int))=((a % b).toNat:Int):=by rw[UInt32.toNat_mod];rfl
 rwa [e]at h
theorem wE{k:Nat}{k' :IntKind}(hk:k<32)(hx:ev ρ x=some (Wd a))(hy:ev ρ y=some (.int k' (k:Int))):Yl P N D ρ w (.binOp .shr t x y t') ty (Wd (.ofNat (a.toNat/2 ^ k))):=by
 have h:=kO (P:=P) (N:=N) (D:=D) (w:=w) (ty:=ty) (t:=t) (t' :=t') (p:=((2 ^ k:Nat):Int)) hx hy (by omega) (by simp[IntKind.bits];omega) (by simp)
 have e:((a.toNat:Int)/((2 ^ k:Nat):Int))=((UInt32.ofNat (a.toNat/2 ^ k)).toNat:Int):=by
  rw[UInt32.toNat_ofNat',←Int.natCast_ediv]
  have:=a.toNat_lt
  have h2:=Nat.div_le_self a.toNat (2 ^ k)
  rw[Nat.mod_eq_of_lt (by omega)]
 rwa [e]at h
theorem x7{k:Nat}{k' :IntKind}(hk:k<32)(hx:ev ρ x=some (Wd a))(hy:ev ρ y=some (.int k' (k:Int))):Yl P N D ρ w (.binOp .shl t x y t') ty (Wd (.ofNat (a.toNat*2 ^ k))):=by
 refine qc (p:=((2 ^ k:Nat):Int)) hx hy (by omega) (by simp[IntKind.bits];omega) (by simp) ?_
 rw[←Int.natCast_mul,wrap32,UInt32.toNat_ofNat']
theorem lN{k:Nat}{k' :IntKind}(hk:k<32)(hb:b.toNat=2 ^ k)(hx:ev ρ x=some (Wd a))(hy:ev ρ y=some (.int k' (k:Int))):Yl P N D ρ w (.binOp .shr t x y t') ty (Wd (a/b)):=by
 have h:=wE (P:=P) (N:=N) (D:=D) (w:=w) (ty:=ty) (t:=t) (t' :=t') hk hx hy
 have e:UInt32.ofNat (a.toNat/2 ^ k)=a/b:=by
  apply UInt32.toNat_inj.1
  have:=a.toNat_lt
  have h2:=Nat.div_le_self a.toNat (2 ^ k)
  rw[UInt32.toNat_ofNat',UInt32.toNat_div,hb,Nat.mod_eq_of_lt (by omega)]
 rwa [e]at h
theorem Az{k:Nat}{k' :IntKind}(hk:k<32)(hb:b.toNat=2 ^ k)(hx:ev ρ x=some (Wd a))(hy:ev ρ y=some (.int k' (k:Int))):Yl P N D ρ w (.binOp .shl t x y t') ty (Wd (a*b)):=by
 have h:=x7 (P:=P) (N:=N) (D:=D) (w:=w) (ty:=ty) (t:=t) (t' :=t') hk hx hy
 have e:UInt32.ofNat (a.toNat*2 ^ k)=a*b:=by
  apply UInt32.toNat_inj.1
  rw[UInt32.toNat_ofNat',UInt32.toNat_mul,hb]
 rwa [e]at h
theorem AU(hx:ev ρ x=some (.int .u32 4294967295))(hy:ev ρ y=some (Wd b)):Yl P N D ρ w (.binOp .sub t x y t') ty (Wd (~~~b)):=b6 hx hy (by
 have:=b.toNat_lt
 rw[UInt32.toNat_not,show(4294967295:Int)-(b.toNat:Int)=((4294967295-b.toNat:Nat):Int) by omega,wrap32,Nat.mod_eq_of_lt (by omega)]
 rfl)
theorem Cg(hx:ev ρ x=some (Wd a)):Yl P N D ρ w (.unOp .xor t x) ty (Wd (~~~a)):=by
 have h:=qm (P:=P) (N:=N) (D:=D) (w:=w) (ty:=ty) (t:=t) hx a.toNat_lt
 have e:4294967295 ^^^ a.toNat=(~~~a).toNat:=by
  have h1:(BitVec.allOnes 32 ^^^ BitVec.ofNat 32 a.toNat)= ~~~ BitVec.ofNat 32 a.toNat:=BitVec.allOnes_xor
  have h2:=congrArg BitVec.toNat h1
  rw[BitVec.toNat_xor,BitVec.toNat_not,BitVec.toNat_allOnes,BitVec.toNat_ofNat,Nat.mod_eq_of_lt a.toNat_lt]at h2
  rw[UInt32.toNat_not]
  exact h2
 rwa [e]at h
theorem xa{c:UInt8}{k:TypeDesc}(hx:ev ρ x=some (B8 c))(ht:P.underlying t=some k)(ht' :P.underlying t' =some (.int .u32)):Yl P N D ρ w (.convert t t' x) ty (Wd c.toUInt32):=bJ hx ht ht' (by
 have:=c.toNat_lt
 rw[wrap32,Nat.mod_eq_of_lt (by omega),UInt8.toNat_toUInt32])
theorem yU{k:TypeDesc}(hx:ev ρ x=some (Wd a))(ht:P.underlying t=some k)(ht' :P.underlying t' =some (.int .u8)):Yl P N D ρ w (.convert t t' x) ty (B8 (UInt8.ofNat a.toNat)):=bJ hx ht ht' (by
 simp[IntKind.wrap,IntKind.signed,IntKind.bits])
end
theorem uf{P:Program}{pl:Nat→Option (Nat×Nat)}:∀(vs:List Value) (k:Nat) (d r:List Value),d.length=k→r.length=vs.length→(∀i,i<k+vs.length→pl i=some (i,1))→(∀v∈vs,v.cells.toList=[v])→sX P pl (d++r) ((List.range' k vs.length).zip vs) (d++vs)
 | [],k,d,r,hd,hr,hp,h1=>by
  obtain rfl:=List.eq_nil_of_length_eq_zero hr
  exact .nil
 |v::vs,k,d,r,hd,hr,hp,h1=>by
  match r,hr with
  |x::r,hr=>
   have hs:bR (d++x::r) k [v]=(d++[v])++r:=by
    subst hd
    simp[bR]
   have ih:=uf (P:=P) (pl:=pl) vs (k+1) (d++[v]) r (by simp[hd]) (by simpa using hr) (fun i hi=>hp i (by simp at hi ⊢;omega)) (fun u hu=>h1 u (List.mem_cons_of_mem _ hu))
   rw[List.length_cons,List.range'_succ,List.zip_cons_cons]
   refine .cons (hp k (by simp)) (h1 v (List.mem_cons_self ..)) rfl (by simp[hd]) ?_
   rw[hs,show d++v::vs=(d++[v])++vs by simp]
   exact ih
theorem rr{P:Program}{N:Nat}{D:List Deferred}{ρ:Env}{w:World}{t ty:TypeId}{parts:List (Nat×Operand)}{vs:List Value}{z:Value}{sz bytes n:Nat}(hT:TI P t z sz bytes)(hz:z.cells.toList.length=n)(hv:nv ρ (parts.map (·.2))=some vs)(hp:(pc P t 0).isSome=true)(hn:vs.length=n)
  (hi:parts.map (·.1)=List.range' 0 n) (hpl:((List.range n).all fun i=>pc P t i == some (i,1))=true) (h1:∀v∈vs,v.cells.toList=[v]):Yl P N D ρ w (.build t parts.toArray) ty (.agg vs.toArray):=by
 refine cD hT rfl hv hp ?_
 rw[hi,←hn]
 have h:=uf (P:=P) (pl:=pc P t) vs 0 [] z.cells.toList rfl (by omega) (fun i hi=> ?_) h1
 ·exact h
 ·have:=List.all_eq_true.1 hpl i (by rw[List.mem_range];omega)
  simpa using this
theorem Own.drop{w:World}{b:Nat}{e:TypeId}{sz n c k:Nat}{A:Option Addr}{xs:List Value}(h:Own w b e sz (.slice A n c) n xs)(hk:k≤n)(hz:k≤c):Own w b e sz (.slice (if c=k then A else A.map (·.add (k*sz))) (n-k) (c-k)) (n-k) (xs.drop (k*sz)):=by
 obtain⟨hl,hx⟩:=h
 refine⟨by rw[List.length_drop,hl,Nat.sub_mul], ?_⟩
 rcases hx with⟨hv,hn⟩|⟨g,o,cap,cur,hv,hb,hB,hnc,hcm,hfit,hcs⟩
 ·cases hv
  obtain rfl:k=0:=by omega
  exact .inl ⟨rfl,rfl⟩
 ·cases hv
  by_cases hck:c=k
  ·subst hck
   obtain rfl:n=c:=by omega
   rw[if_pos rfl]
   refine .inr ⟨g,o,n-n,cur,rfl,hb,hB,by omega,by omega,by rw[Nat.sub_self,Nat.zero_mul];omega, ?_⟩
   rw[Nat.sub_self,Nat.zero_mul,List.take_zero,List.drop_of_length_le (by omega)]
  ·rw[if_neg hck]
   refine .inr ⟨g,o+k*sz,c-k,cur, ?_,hb,hB,by omega,by omega, ?_, ?_⟩
   ·simp[Addr.add]
   ·have:(c-k)*sz+k*sz=c*sz:=by rw[←Nat.add_mul];congr 1;omega
    omega
   ·rw[←hcs,List.drop_take,List.drop_drop,Nat.sub_mul]
theorem View.qW{e:TypeId}{sz n c k:Nat}{A:Option Addr}{xs:List Value}(hk:k≤n)(hz:n≤c):View (aF e sz (.slice A n c) n xs) (aF e sz (.slice (if c=k then A else A.map (·.add (k*sz))) (n-k) (c-k)) (n-k) (xs.drop (k*sz))):=
 .of (fun w h=>Own.drop h hk (by omega)) (fun i hi=>by
  cases A with
  |none=>by_cases hc:c=k <;> simp[aF,jL,hc]at hi
  |some a=>
   by_cases hc:c=k
   ·simpa[aF,jL,hc]using hi
   ·have h2:i=(a.add (k*sz)).block:=by simpa[aF,jL,hc]using hi
    show i=a.block
    rw[h2,jl])
theorem Mem.xl{b:cG}{X S:List bf}{w:World}{r r' :bf}(m:Mem b (r::X) S w)(v:View r r'):Mem b (r' ::X) S w:=m.Ep (v.ok.1 w) v.ok.2
end Go.Eng
end
section
namespace Go.Hx
open Go.Eng
def j2(n:Nat)(x:UInt32):UInt32:=.ofNat (x.toNat/2 ^ n+x.toNat % 2 ^ n*2 ^ (32-n))
theorem lX{n:Nat}(hn:n≤32)(x:UInt32):(j2 n x).toNat=x.toNat/2 ^ n+x.toNat % 2 ^ n*2 ^ (32-n):=by
 rw[j2,UInt32.toNat_ofNat',Nat.mod_eq_of_lt]
 have h1:=x.toNat_lt
 have h2:2 ^ n*2 ^ (32-n)=2 ^ 32:=by rw[←Nat.pow_add];congr 1;omega
 have h3:x.toNat % 2 ^ n<2 ^ n:=Nat.mod_lt _ (Nat.two_pow_pos n)
 have h4:x.toNat/2 ^ n<2 ^ (32-n):=Nat.div_lt_of_lt_mul (by omega)
 have h5:x.toNat % 2 ^ n*2 ^ (32-n)≤(2 ^ n-1)*2 ^ (32-n):=Nat.mul_le_mul_right _ (by omega)
 have h6:(2 ^ n-1)*2 ^ (32-n)+2 ^ (32-n)=2 ^ 32:=by
  rw[←h2,Nat.sub_mul,Nat.one_mul]
  have:=Nat.le_mul_of_pos_left (2 ^ (32-n)) (Nat.two_pow_pos n)
  omega
 omega
def r7(x:UInt32):UInt32:=x/2+x % 2*2147483648
theorem vy(x:UInt32):(r7 x).toNat=x.toNat/2+x.toNat % 2*2147483648:=by
 have h1:=x.toNat_lt
 rw[r7,UInt32.toNat_add,UInt32.toNat_mul,UInt32.toNat_div,UInt32.toNat_mod]
 show(x.toNat/2+x.toNat % 2*2147483648 % 4294967296) % 4294967296=_
 have:x.toNat % 2<2:=Nat.mod_lt _ (by decide)
 omega
theorem vC(x:UInt32):j2 0 x=x:=by
 apply UInt32.toNat_inj.1
 rw[lX (by decide)]
 simp[Nat.mod_one]
theorem wg{n:Nat}(hn:n<32)(x:UInt32):j2 (n+1) x=r7 (j2 n x):=by
 apply UInt32.toNat_inj.1
 rw[vy,lX (by omega),lX (by omega)]
 obtain⟨k,hk⟩:∃k,32-n=k+1:=⟨31-n,by omega⟩
 have hk2:32-(n+1)=k:=by omega
 rw[hk,hk2,Nat.pow_succ 2 k,Nat.pow_succ 2 n]
 have hq:x.toNat/(2 ^ n*2)=x.toNat/2 ^ n/2:=(Nat.div_div_eq_div_mul ..).symm
 have hm:x.toNat % (2 ^ n*2)=x.toNat % 2 ^ n+2 ^ n*(x.toNat/2 ^ n % 2):=Nat.mod_mul ..
 rw[hq,hm]
 generalize x.toNat/2 ^ n=q
 generalize x.toNat % 2 ^ n=m
 have h31:2 ^ n*2 ^ k=2147483648:=by rw[←Nat.pow_add,show n+k=31 by omega]
 have e1:(q+m*(2 ^ k*2))/2=q/2+m*2 ^ k:=by
  rw[show m*(2 ^ k*2)=(m*2 ^ k)*2 by rw[Nat.mul_assoc]];omega
 have e2:(q+m*(2 ^ k*2)) % 2=q % 2:=by
  rw[show m*(2 ^ k*2)=(m*2 ^ k)*2 by rw[Nat.mul_assoc]];omega
 rw[e1,e2,Nat.add_mul,Nat.mul_right_comm (2 ^ n),h31]
 omega
theorem AW{n:Nat}(h0:0<n)(hn:n<32)(x:UInt32):UInt32.ofNat (x.toNat*2 ^ (32-n)) ||| UInt32.ofNat (x.toNat/2 ^ n)=j2 n x:=by
 apply UInt32.toNat_inj.1
 have h1:=x.toNat_lt
 rw[lX (by omega),UInt32.toNat_or,UInt32.toNat_ofNat',UInt32.toNat_ofNat']
 have h2:2 ^ n*2 ^ (32-n)=2 ^ 32:=by rw[←Nat.pow_add];congr 1;omega
 have h4:x.toNat/2 ^ n<2 ^ (32-n):=Nat.div_lt_of_lt_mul (by omega)
 have h5:x.toNat/2 ^ n≤x.toNat:=Nat.div_le_self ..
 rw[Nat.mod_eq_of_lt (a:=x.toNat/2 ^ n) (by omega)]
 have h6:x.toNat*2 ^ (32-n) % 2 ^ 32=2 ^ (32-n)*(x.toNat % 2 ^ n):=by
  rw[←h2,Nat.mul_mod_mul_right,Nat.mul_comm]
 rw[h6,←Nat.two_pow_add_eq_or_of_lt h4,Nat.mul_comm,Nat.add_comm]
def gC:List UInt32:=[1116352408,1899447441,3049323471,3921009573,961987163,1508970993,2453635748,2870763221,3624381080,310598401,607225278,1426881987,1925078388,2162078206,2614888103,3248222580,3835390401,4022224774,264347078,604807628,770255983,1249150122,1555081692,1996064986,2554220882,2821834349,2952996808,3210313671,3336571891,3584528711,113926993,338241895,666307205,773529912,1294757372,1396182291,1695183700,1986661051,2177026350,2456956037,2730485921,2820302411,3259730800,3345764771,3516065817,3600352804,4094571909,275423344,430227734,506948616,659060556,883997877,958139571,1322822218,1537002063,1747873779,1955562222,2024104815,2227730452,2361852424,2428436474,2756734187,3204031479,3329325298]
def oY:List UInt32:=[1779033703,3144134277,1013904242,2773480762,1359893119,2600822924,528734635,1541459225]
def turns(a b c:Nat)(x:UInt32):UInt32:=j2 a x ^^^ j2 b x ^^^ j2 c x
def at8(b:List UInt8)(i:Nat):Nat:=(b.getD i 0).toNat
def lY(b:List UInt8)(i:Nat):UInt32:=.ofNat (at8 b i*16777216+at8 b (i+1)*65536+at8 b (i+2)*256+at8 b (i+3))
def wp(b:List UInt8)(i:Nat):Nat→Nat
 |0=>0
 |j+1=>wp b i j*256+at8 b (i+j)
theorem mr(b:List UInt8)(i:Nat):at8 b i<256:=(b.getD i 0).toNat_lt
theorem A6(b:List UInt8)(i:Nat):∀j,wp b i j<256 ^ j
 |0=>Nat.one_pos
 |j+1=>by
  have h1:=A6 b i j
  have h2:=mr b (i+j)
  rw[wp,Nat.pow_succ]
  omega
theorem AT{b:List UInt8}{i j:Nat}(hj:j<4):(UInt32.ofNat (wp b i j)*256) ||| (b.getD (i+j) 0).toUInt32=UInt32.ofNat (wp b i (j+1)):=by
 apply UInt32.toNat_inj.1
 have h1:=A6 b i j
 have h0:256 ^ j≤256 ^ 3:=Nat.pow_le_pow_right (by decide) (by omega)
 have h2:=mr b (i+j)
 have h3:wp b i j<16777216:=Nat.lt_of_lt_of_le h1 h0
 rw[UInt32.toNat_or,UInt32.toNat_mul,UInt32.toNat_ofNat',UInt8.toNat_toUInt32,UInt32.toNat_ofNat',wp]
 show(wp b i j % 4294967296*256 % 4294967296 ||| at8 b (i+j))=_
 rw[Nat.mod_eq_of_lt (a:=wp b i j) (by omega),Nat.mod_eq_of_lt (a:=wp b i j*256) (by omega),Nat.mod_eq_of_lt (a:=wp b i j*256+_) (by omega),show wp b i j*256=2 ^ 8*wp b i j by omega,Nat.two_pow_add_eq_or_of_lt (i:=8) h2]
theorem Ct(b:List UInt8)(i:Nat):wp b i 4=at8 b i*16777216+at8 b (i+1)*65536+at8 b (i+2)*256+at8 b (i+3):=by
 have e1:wp b i 1=wp b i 0*256+at8 b (i+0):=rfl
 have e2:wp b i 2=wp b i 1*256+at8 b (i+1):=rfl
 have e3:wp b i 3=wp b i 2*256+at8 b (i+2):=rfl
 have e4:wp b i 4=wp b i 3*256+at8 b (i+3):=rfl
 have e0:wp b i 0=0:=rfl
 rw[Nat.add_zero]at e1
 rw[e4,e3,e2,e1,e0]
 generalize at8 b i=p
 generalize at8 b (i+1)=q
 generalize at8 b (i+2)=r
 generalize at8 b (i+3)=s
 omega
theorem zZ(b:List UInt8)(i:Nat):UInt32.ofNat (wp b i 4)=lY b i:=congrArg UInt32.ofNat (Ct b i)
theorem vq(b:List UInt8)(i:Nat):(b.getD i 0).toUInt32*16777216+(b.getD (i+1) 0).toUInt32*65536+(b.getD (i+2) 0).toUInt32*256+(b.getD (i+3) 0).toUInt32=lY b i:=by
 apply UInt32.toNat_inj.1
 have h0:(b.getD i 0).toNat<256:=mr b i
 have h1:(b.getD (i+1) 0).toNat<256:=mr b (i+1)
 have h2:(b.getD (i+2) 0).toNat<256:=mr b (i+2)
 have h3:(b.getD (i+3) 0).toNat<256:=mr b (i+3)
 have k1:(16777216:UInt32).toNat=16777216:=rfl
 have k2:(65536:UInt32).toNat=65536:=rfl
 have k3:(256:UInt32).toNat=256:=rfl
 simp only[lY,at8,UInt32.toNat_add,UInt32.toNat_mul,UInt8.toNat_toUInt32,UInt32.toNat_ofNat',k1,k2,k3]
 generalize(b.getD i 0).toNat=p at*
 generalize(b.getD (i+1) 0).toNat=q at*
 generalize(b.getD (i+2) 0).toNat=r at*
 generalize(b.getD (i+3) 0).toNat=s at*
 omega
def Ey(x:UInt32):UInt32:=j2 7 x ^^^ j2 18 x ^^^ (x/8)
def DI(x:UInt32):UInt32:=j2 17 x ^^^ j2 19 x ^^^ (x/1024)
def p4(w:List UInt32)(i:Nat):UInt32:=w.getD (i-16) 0+Ey (w.getD (i-15) 0)+w.getD (i-7) 0+DI (w.getD (i-2) 0)
def wl(b:List UInt8):Nat→List UInt32
 |0=>[]
 |i+1=>wl b i++[if i<16 then lY b (4*i)else p4 (wl b i) i]
theorem fp(b:List UInt8):∀i,(wl b i).length=i
 |0=>rfl
 |i+1=>by rw[wl,List.length_append,fp b i];rfl
def v_(v:List UInt32)(i:Nat):UInt32:=v.getD i 0
def rt(v:List UInt32)(k w:UInt32):UInt32:=v_ v 7+turns 6 11 25 (v_ v 4)+((v_ v 4 &&& v_ v 5) ^^^ (~~~(v_ v 4) &&& v_ v 6))+k+w
def ru(v:List UInt32):UInt32:=turns 2 13 22 (v_ v 0)+((v_ v 0 &&& v_ v 1) ^^^ (v_ v 0 &&& v_ v 2) ^^^ (v_ v 1 &&& v_ v 2))
def E2(v:List UInt32)(k w:UInt32):List UInt32:=[rt v k w+ru v,v_ v 0,v_ v 1,v_ v 2,v_ v 3+rt v k w,v_ v 4,v_ v 5,v_ v 6]
def mE(w v:List UInt32):Nat→List UInt32
 |0=>v
 |i+1=>E2 (mE w v i) (gC.getD i 0) (w.getD i 0)
theorem jP{w v:List UInt32}(h:v.length=8):∀i,(mE w v i).length=8
 |0=>h
 |i+1=>rfl
def fU(v h:List UInt32)(i:Nat):List UInt32:=(List.range v.length).map fun j=>if j<i then v_ v j+v_ h j else v_ v j
def eS(h:List UInt32)(b:List UInt8):List UInt32:=fU (mE (wl b 64) h 64) h 8
theorem iV{h:List UInt32}(hl:h.length=8)(b:List UInt8):(eS h b).length=8:=by simp[eS,fU,jP hl]
theorem qa{v h:List UInt32}:fU v h 0=v:=by
 apply List.ext_getElem?
 intro i
 simp only[fU,Nat.not_lt_zero,if_false,List.getElem?_map]
 by_cases hi:i<v.length
 ·simp[hi,v_,List.getD]
 ·rw[List.getElem?_eq_none (by simpa using hi),List.getElem?_eq_none (by omega)];rfl
theorem pL{v h:List UInt32}{i:Nat}(hi:i<v.length):fU v h (i+1)=(fU v h i).set i (v_ (fU v h i) i+v_ h i):=by
 apply List.ext_getElem?
 intro j
 have e:v_ (fU v h i) i=v_ v i:=by simp[fU,v_,List.getD,hi]
 rw[e]
 by_cases hj:j<v.length
 ·by_cases hij:i=j
  ·subst hij
   simp[fU,hi]
  ·rw[List.getElem?_set_ne hij]
   simp only[fU,List.getElem?_map,List.getElem?_range hj,Option.map_some]
   congr 1
   by_cases h1:j<i
   ·rw[if_pos h1,if_pos (by omega)]
   ·rw[if_neg h1,if_neg (by omega)]
 ·rw[List.getElem?_eq_none (by simp[fU];omega),List.getElem?_eq_none (by simp[fU];omega)]
def nW:Nat→List UInt32→List UInt8→List UInt32
 |0,h,_=>h
 |n+1,h,l=>nW n (eS h (l.take 64)) (l.drop 64)
def fL(h:List UInt32)(l:List UInt8):List UInt32:=nW (l.length/64) h l
theorem oE:∀(n:Nat) (h:List UInt32) (l b:List UInt8),l.length=64*n→b.length=64→nW (n+1) h (l++b)=eS (nW n h l) b
 |0,h,l,b,hl,hb=>by
  obtain rfl:=List.eq_nil_of_length_eq_zero hl
  simp only[nW,List.nil_append]
  rw[List.take_of_length_le (by omega)]
 |n+1,h,l,b,hl,hb=>by
  have h1:(l++b).take 64=l.take 64:=by rw[List.take_append_of_le_length (by omega)]
  have h2:(l++b).drop 64=l.drop 64++b:=by rw[List.drop_append_of_le_length (by omega)]
  rw[nW,h1,h2,oE n _ (l.drop 64) b (by rw[List.length_drop];omega) hb]
  rfl
theorem ot{h:List UInt32}{l b:List UInt8}(hl:l.length % 64=0)(hb:b.length=64):fL h (l++b)=eS (fL h l) b:=by
 unfold fL
 rw[List.length_append,hb,show(l.length+64)/64=l.length/64+1 by omega]
 exact oE _ h l b (by omega) hb
theorem lV:∀(n:Nat) (h:List UInt32) (l:List UInt8),h.length=8→(nW n h l).length=8
 |0,h,l,hl=>hl
 |n+1,h,l,hl=>lV n _ _ (iV hl _)
theorem ly{h:List UInt32}(l:List UInt8)(hl:h.length=8):(fL h l).length=8:=lV _ _ _ hl
def y5(x:UInt32):List UInt8:=[.ofNat (x/16777216).toNat,.ofNat (x/65536).toNat,.ofNat (x/256).toNat,.ofNat x.toNat]
def eO(h:List UInt32):List UInt8:=h.flatMap y5
def rn(n:Nat):List UInt8:=(List.range 8).map fun i=>.ofNat (n/256 ^ (7-i))
def iw(n:Nat):Nat:=(119-n % 64) % 64
def jb(b:List UInt8):List UInt8:=b++(128::List.replicate (iw b.length) 0)++rn (8*b.length)
theorem mU(b:List UInt8):(jb b).length % 64=0:=by
 simp only[jb,List.length_append,List.length_cons,List.length_replicate,rn,List.length_map,List.length_range,iw]
 omega
def bF(b:List UInt8):List UInt8:=eO (fL oY (jb b))
theorem lB{h:List UInt32}(hl:h.length=8):(eO h).length=32:=by
 match h,hl with
 | [a,b,c,d,e,f,g,i],_=>rfl
theorem bh(b:List UInt8):(bF b).length=32:=lB (ly _ rfl)
end Go.Hx
end
section
namespace Go.Proofs.YtmibdabdlgmafaaGreatDoor
open Go.Eng
theorem dV:dG Tryz.prog 3=some false:=by kernel_rfl
theorem rl:fF Tryz.prog 3=some 1:=by kernel_rfl
theorem Ee:TI Tryz.prog 3 (.int .i64 0) 1 8:=by unfold TI;kernel_rfl
theorem iy:dG Tryz.prog 5=some false:=by kernel_rfl
theorem dE:fF Tryz.prog 5=some 1:=by kernel_rfl
theorem ey:TI Tryz.prog 5 (.int .u8 0) 1 1:=by unfold TI;kernel_rfl
theorem kL:dG Tryz.prog 9=some false:=by kernel_rfl
theorem E4:fF Tryz.prog 9=some 1:=by kernel_rfl
theorem EJ:TI Tryz.prog 9 (.string ⟨#[]⟩) 1 16:=by unfold TI;kernel_rfl
theorem dO:dG Tryz.prog 27=some false:=by kernel_rfl
theorem mq:fF Tryz.prog 27=some 1:=by kernel_rfl
theorem qK:TI Tryz.prog 27 (.slice none 0 0) 1 24:=by unfold TI;kernel_rfl
theorem xP:dG Tryz.prog 35=some false:=by kernel_rfl
theorem o6:dG Tryz.prog 36=some false:=by kernel_rfl
theorem C5:fF Tryz.prog 36=some 1:=by kernel_rfl
theorem EL:dG Tryz.prog 37=some false:=by kernel_rfl
theorem DX:fF Tryz.prog 37=some 1:=by kernel_rfl
theorem cz:dG Tryz.prog 39=some true:=by kernel_rfl
theorem bp:fF Tryz.prog 39=some 5:=by kernel_rfl
theorem fB:TI Tryz.prog 39 (.agg (([.int .i64 0])++([.slice none 0 0])++([.slice none 0 0])++([.slice none 0 0])++([.int .i64 0]):List Value).toArray) 5 88:=by unfold TI;kernel_rfl
theorem xp:iN Tryz.prog 39 0=some (0,1,3):=by kernel_rfl
theorem iv:iN Tryz.prog 39 1=some (1,1,36):=by kernel_rfl
theorem BN:iN Tryz.prog 39 2=some (2,1,36):=by kernel_rfl
theorem tf:iN Tryz.prog 39 3=some (3,1,37):=by kernel_rfl
theorem jD:iN Tryz.prog 39 4=some (4,1,3):=by kernel_rfl
theorem BQ:TI Tryz.prog 44 (.slice none 0 0) 1 24:=by unfold TI;kernel_rfl
theorem kE:dG Tryz.prog 47=some false:=by kernel_rfl
theorem vA:fF Tryz.prog 47=some 1:=by kernel_rfl
theorem Es:TI Tryz.prog 47 (.int .i64 0) 1 8:=by unfold TI;kernel_rfl
theorem b5:dG Tryz.prog 53=some true:=by kernel_rfl
theorem bj:fF Tryz.prog 53=some 32:=by kernel_rfl
theorem cX:TI Tryz.prog 53 (.agg (aK (List.replicate 32 0):List Value).toArray) 32 32:=by unfold TI;kernel_rfl
theorem tW{l:List UInt8}(h:l.length=32):Tryz.prog.keyLits 2 53 (aK l)=some (l.map fun b=>Lit.int .u8 (b.toNat:Int)):=fi (D:=0) Tryz.underlying53 Tryz.underlying5 (by kernel_rfl) (by kernel_rfl) h
theorem qJ{N:Nat}{D:List Deferred}{ρ:Env}{w:World}{ty t' :TypeId}{x y:Operand}{l m:List UInt8}(hx:ev ρ x=some (.agg (aK l).toArray))(hy:ev ρ y=some (.agg (aK m).toArray))(hl:l.length=32)(hm:m.length=32):Yl Tryz.prog N D ρ w (.binOp .eql 53 x y t') ty (.bool (decide (l=m))):=
 Dw (m:=5) hx hy (by decide) (by kernel_rfl) (by kernel_rfl) b5 (by rw[ax,hl];kernel_rfl) (by rw[ax,hm];kernel_rfl) (tW hl) (tW hm) iC
theorem u4{N:Nat}{D:List Deferred}{ρ:Env}{w:World}{ty t' :TypeId}{x y:Operand}{l m:List UInt8}(hx:ev ρ x=some (.agg (aK l).toArray))(hy:ev ρ y=some (.agg (aK m).toArray))(hl:l.length=32)(hm:m.length=32):Yl Tryz.prog N D ρ w (.binOp .neq 53 x y t') ty (.bool (decide (¬l=m))):=
 Ec (m:=5) hx hy (by decide) (by kernel_rfl) (by kernel_rfl) b5 (by rw[ax,hl];kernel_rfl) (by rw[ax,hm];kernel_rfl) (tW hl) (tW hm) iC
theorem Eh:fF Tryz.prog 72=some 33:=by kernel_rfl
theorem zr:TI Tryz.prog 72 (.agg ((aK (List.replicate 32 0))++([.string ⟨#[]⟩]):List Value).toArray) 33 48:=by unfold TI;kernel_rfl
theorem yt:iN Tryz.prog 72 0=some (0,32,53):=by kernel_rfl
theorem B0:pc Tryz.prog 72 0=some (0,32):=by kernel_rfl
theorem CA:pc Tryz.prog 72 1=some (32,1):=by kernel_rfl
theorem pJ:dG Tryz.prog 156=some true:=by kernel_rfl
theorem eR:fF Tryz.prog 156=some 2:=by kernel_rfl
theorem iD:TI Tryz.prog 156 (.agg (([.string ⟨#[]⟩])++([.string ⟨#[]⟩]):List Value).toArray) 2 32:=by unfold TI;kernel_rfl
theorem eJ:iN Tryz.prog 156 0=some (0,1,9):=by kernel_rfl
theorem nL:iN Tryz.prog 156 1=some (1,1,9):=by kernel_rfl
theorem yc:dG Tryz.prog 163=some false:=by kernel_rfl
theorem bU:dG Tryz.prog 166=some false:=by kernel_rfl
theorem bL:fF Tryz.prog 166=some 1:=by kernel_rfl
theorem mR:TI Tryz.prog 166 (.int .u32 0) 1 4:=by unfold TI;kernel_rfl
theorem mP:dG Tryz.prog 174=some false:=by kernel_rfl
theorem DW:fF Tryz.prog 174=some 1:=by kernel_rfl
theorem Bb:dG Tryz.prog 175=some false:=by kernel_rfl
theorem xd:fF Tryz.prog 175=some 1:=by kernel_rfl
theorem Ei:TI Tryz.prog 177 (.agg (([.int .i64 0])++([.map none])++([.map none])++([.slice none 0 0])++([.int .i64 0]):List Value).toArray) 5 56:=by unfold TI;kernel_rfl
theorem zF:iN Tryz.prog 177 0=some (0,1,3):=by kernel_rfl
theorem iB:iN Tryz.prog 177 1=some (1,1,174):=by kernel_rfl
theorem AS:iN Tryz.prog 177 2=some (2,1,174):=by kernel_rfl
theorem l0:iN Tryz.prog 177 3=some (3,1,175):=by kernel_rfl
theorem nR:iN Tryz.prog 177 4=some (4,1,3):=by kernel_rfl
theorem Br:dG Tryz.prog 186=some true:=by kernel_rfl
theorem Bt:fF Tryz.prog 186=some 4:=by kernel_rfl
theorem pV:TI Tryz.prog 186 (.agg (([.int .i64 0])++([.string ⟨#[]⟩])++([.string ⟨#[]⟩])++([.string ⟨#[]⟩]):List Value).toArray) 4 56:=by unfold TI;kernel_rfl
theorem ub:iN Tryz.prog 186 0=some (0,1,3):=by kernel_rfl
theorem nS:iN Tryz.prog 186 1=some (1,1,9):=by kernel_rfl
theorem Ay:iN Tryz.prog 186 2=some (2,1,9):=by kernel_rfl
theorem y7:iN Tryz.prog 186 3=some (3,1,9):=by kernel_rfl
theorem DN:TI Tryz.prog 189 (.agg (([.string ⟨#[]⟩])++([.slice none 0 0]):List Value).toArray) 2 40:=by unfold TI;kernel_rfl
theorem zc:iN Tryz.prog 189 0=some (0,1,9):=by kernel_rfl
theorem Ai:iN Tryz.prog 189 1=some (1,1,27):=by kernel_rfl
theorem Ek:TI Tryz.prog 196 (.agg (([.int .i64 0])++([.int .i64 0])++(aK (List.replicate 32 0))++([.string ⟨#[]⟩]):List Value).toArray) 35 64:=by unfold TI;kernel_rfl
theorem zt:iN Tryz.prog 196 0=some (0,1,3):=by kernel_rfl
theorem AR:iN Tryz.prog 196 1=some (1,1,3):=by kernel_rfl
theorem zG:iN Tryz.prog 196 2=some (2,32,53):=by kernel_rfl
theorem zV:iN Tryz.prog 196 3=some (34,1,9):=by kernel_rfl
theorem dP:dG Tryz.prog 198=some true:=by kernel_rfl
theorem cB:fF Tryz.prog 198=some 35:=by kernel_rfl
theorem fD:TI Tryz.prog 198 (.agg (([.int .i64 0])++([.int .i64 0])++(aK (List.replicate 32 0))++([.slice none 0 0]):List Value).toArray) 35 72:=by unfold TI;kernel_rfl
theorem de:iN Tryz.prog 198 0=some (0,1,3):=by kernel_rfl
theorem uR:pc Tryz.prog 198 0=some (0,1):=by kernel_rfl
theorem gh:iN Tryz.prog 198 1=some (1,1,3):=by kernel_rfl
theorem zo:pc Tryz.prog 198 1=some (1,1):=by kernel_rfl
theorem qT:iN Tryz.prog 198 2=some (2,32,53):=by kernel_rfl
theorem u7:pc Tryz.prog 198 2=some (2,32):=by kernel_rfl
theorem iK:iN Tryz.prog 198 3=some (34,1,27):=by kernel_rfl
theorem uF:TI Tryz.prog 232 (.nilIface) 1 16:=by unfold TI;kernel_rfl
theorem Eb:TI Tryz.prog 257 (.agg (([.string ⟨#[]⟩])++([.string ⟨#[]⟩]):List Value).toArray) 2 32:=by unfold TI;kernel_rfl
theorem qz:iN Tryz.prog 257 0=some (0,1,9):=by kernel_rfl
theorem zz:iN Tryz.prog 257 1=some (1,1,9):=by kernel_rfl
theorem Bj:fF Tryz.prog 288=some 1:=by kernel_rfl
theorem uP:TI Tryz.prog 288 (.agg (([.int .i64 0]):List Value).toArray) 1 8:=by unfold TI;kernel_rfl
theorem AO:iN Tryz.prog 288 0=some (0,1,47):=by kernel_rfl
theorem pR:dG Tryz.prog 295=some true:=by kernel_rfl
theorem jj:fF Tryz.prog 295=some 3:=by kernel_rfl
theorem mQ:TI Tryz.prog 295 (.agg (([.slice none 0 0])++([.int .i64 0])++([.int .i64 0]):List Value).toArray) 3 40:=by unfold TI;kernel_rfl
theorem AF:iN Tryz.prog 295 0=some (0,1,27):=by kernel_rfl
theorem AN:iN Tryz.prog 295 2=some (2,1,47):=by kernel_rfl
theorem uk:dG Tryz.prog 298=some true:=by kernel_rfl
theorem kP:fF Tryz.prog 298=some 2:=by kernel_rfl
theorem p8:TI Tryz.prog 298 (.agg (([.int .i64 0])++([.int .i64 0]):List Value).toArray) 2 16:=by unfold TI;kernel_rfl
theorem kg:iN Tryz.prog 298 0=some (0,1,3):=by kernel_rfl
theorem vf:iN Tryz.prog 298 1=some (1,1,3):=by kernel_rfl
theorem pz:dG Tryz.prog 306=some true:=by kernel_rfl
theorem kG:fF Tryz.prog 306=some 8:=by kernel_rfl
theorem uc:TI Tryz.prog 306 (.agg ((List.replicate 8 ([.int .u32 0])).flatten:List Value).toArray) 8 32:=by unfold TI;kernel_rfl
theorem Bw:TI Tryz.prog 308 (.agg (((List.replicate 8 ([.int .u32 0])).flatten)++([.int .i64 0])++([.slice none 0 0]):List Value).toArray) 10 64:=by unfold TI;kernel_rfl
theorem nK:iN Tryz.prog 308 0=some (0,8,306):=by kernel_rfl
theorem lT:iN Tryz.prog 308 1=some (8,1,3):=by kernel_rfl
theorem jx:iN Tryz.prog 308 2=some (9,1,27):=by kernel_rfl
theorem m9:dG Tryz.prog 322=some false:=by kernel_rfl
theorem A7:dG Tryz.prog 354=some true:=by kernel_rfl
theorem uq:fF Tryz.prog 354=some 64:=by kernel_rfl
theorem xh:TI Tryz.prog 354 (.agg ((List.replicate 64 ([.int .u32 0])).flatten:List Value).toArray) 64 256:=by unfold TI;kernel_rfl
theorem xD:dG Tryz.prog 357=some false:=by kernel_rfl
theorem C8:TI Tryz.prog 359 (.agg (([.slice none 0 0])++([.map none])++([.int .i64 0]):List Value).toArray) 3 40:=by unfold TI;kernel_rfl
theorem jo:iN Tryz.prog 359 0=some (0,1,27):=by kernel_rfl
theorem qo:iN Tryz.prog 359 1=some (1,1,357):=by kernel_rfl
theorem gM:iN Tryz.prog 359 2=some (2,1,3):=by kernel_rfl
theorem ux:dG Tryz.prog 364=some true:=by kernel_rfl
theorem r5:fF Tryz.prog 364=some 4:=by kernel_rfl
theorem DM:TI Tryz.prog 364 (.agg (aK (List.replicate 4 0):List Value).toArray) 4 4:=by unfold TI;kernel_rfl
end Go.Proofs.YtmibdabdlgmafaaGreatDoor
end
section
namespace Go.Hx
open Go.Eng
def l5(x:Nat):Nat:=if x % 2=1 then(x/2) ^^^ 2197175160 else x/2
theorem wO{x:Nat}(h:x<4294967296):l5 x<4294967296:=by
 unfold l5
 split
 ·exact Nat.xor_lt_two_pow (n:=32) (by omega) (by decide)
 ·omega
def fT:Nat→Nat→Nat
 |0,x=>x
 |n+1,x=>l5 (fT n x)
theorem kr{x:Nat}(h:x<4294967296):∀n,fT n x<4294967296
 |0=>h
 |n+1=>wO (kr h n)
def jI(n:Nat)(l:List UInt8):Nat:=l.foldl (fun n b=>fT 8 (n ^^^ b.toNat)) n
theorem lx{n:Nat}(h:n<4294967296):∀l:List UInt8,jI n l<4294967296:=by
 intro l
 induction l generalizing n with
 |nil=>exact h
 |cons a r ih=>exact ih (kr (Nat.xor_lt_two_pow (n:=32) h (by have:=a.toNat_lt;omega)) 8)
theorem oQ(n:Nat)(l:List UInt8)(b:UInt8):jI n (l++[b])=fT 8 (jI n l ^^^ b.toNat):=by simp[jI]
theorem sG{m:Nat}(h:m<4294967296):4294967295 ^^^ m=4294967295-m:=by
 have h1:(BitVec.allOnes 32 ^^^ BitVec.ofNat 32 m)= ~~~ BitVec.ofNat 32 m:=BitVec.allOnes_xor
 have h2:=congrArg BitVec.toNat h1
 rw[BitVec.toNat_xor,BitVec.toNat_not,BitVec.toNat_allOnes,BitVec.toNat_ofNat,Nat.mod_eq_of_lt h]at h2
 exact h2
def db(l:List UInt8):Nat:=4294967295-jI 4294967295 l
theorem gT(l:List UInt8):db l<4294967296:=by unfold db;omega
def gx(n:Nat):List UInt8:=[UInt8.ofNat n,UInt8.ofNat (n/256),UInt8.ofNat (n/65536),UInt8.ofNat (n/16777216)]
def j9:Nat→Nat→Nat
 |0,n=>n
 |k+1,n=>j9 k n/256
def ud(k n:Nat):List UInt8:=(List.range k).map fun i=>UInt8.ofNat (j9 i n)
theorem oI(k n:Nat):ud (k+1) n=ud k n++[UInt8.ofNat (j9 k n)]:=by simp[ud,List.range_succ]
theorem nX(n:Nat):ud 4 n=gx n:=by
 simp only[ud,List.range_succ,List.range_zero,List.nil_append,List.cons_append,List.map_cons,List.map_nil,j9,gx,Nat.div_div_eq_div_mul]
theorem qy{n b:Nat}(h:n<b):∀k,j9 k n<b
 |0=>h
 |k+1=>by have:=qy h k;simp only[j9];omega
theorem dN(n:Nat):(gx n).length=4:=rfl
def gy(l:List UInt8):List UInt8:=l++gx (db l)
theorem iF(l:List UInt8):(gy l).length=l.length+4:=by simp[gy,dN]
theorem vp(x:Nat)(h:x<4294967296):(x/2) ^^^ (2197175160*(x % 2))=l5 x:=by
 unfold l5
 split
 ·rename_i h1;rw[h1]
 ·rename_i h1
  have:x % 2=0:=by omega
  rw[this];simp
theorem fl(n:Nat):IntKind.u8.wrap (n:Int)=((UInt8.ofNat n).toNat:Int):=by
 simp[IntKind.wrap,IntKind.signed,IntKind.bits]
theorem EE(x:Nat)(h:x<4294967296):bits .and .u32 (x:Int) 1=((x % 2:Nat):Int):=by
 have:=u32_and_nat x 1 h (by decide)
 rw[Nat.and_one_is_mod]at this
 exact this
theorem yq(x:Nat)(h:x<4294967296):bits .xor .u32 ((x:Int)/2) (2197175160*((x % 2:Nat):Int))=((l5 x:Nat):Int):=by
 have h2:x % 2=0∨x % 2=1:=by omega
 have h3:2197175160*(x % 2)<4294967296:=by rcases h2 with h2|h2 <;> rw[h2] <;> decide
 have:=u32_xor_nat (x/2) (2197175160*(x % 2)) (by omega) h3
 rw[vp x h]at this
 rw[←this]
 congr 1
theorem rZ(x:Nat)(h:x<4294967296)(b:UInt8):bits .xor .u32 (x:Int) (b.toNat:Int)=((x ^^^ b.toNat:Nat):Int):=u32_xor_nat x b.toNat h (by have:=b.toNat_lt;omega)
theorem xM(x:Nat)(h:x<4294967296):bits .xor .u32 ((x:Int)/2) 2197175160=(((x/2) ^^^ 2197175160:Nat):Int):=u32_xor_nat (x/2) 2197175160 (by omega) (by decide)
theorem nj{x:Nat}(h:x<4294967296)(b:UInt8):x ^^^ b.toNat<4294967296:=Nat.xor_lt_two_pow (n:=32) h (by have:=b.toNat_lt;omega)
end Go.Hx
end
section
namespace Go.Hx
open Go.Eng
def jN:List UInt8:=[48,49,50,51,52,53,54,55,56,57,97,98,99,100,101,102]
def o9(b:UInt8):List UInt8:=[jN.getD (b.toNat/16) 0,jN.getD (b.toNat % 16) 0]
def b8(l:List UInt8):List UInt8:=l.flatMap o9
theorem dI(l:List UInt8):(b8 l).length=2*l.length:=by
 induction l with
 |nil=>rfl
 |cons a r ih=>simp only[b8,List.flatMap_cons,List.length_append,List.length_cons]at ih ⊢;rw[ih];simp[o9];omega
theorem sR(l m:List UInt8):b8 (l++m)=b8 l++b8 m:=by simp[b8]
theorem ep{l:List UInt8}{k:Nat}(h:k<l.length):l.take (k+1)=l.take k++[l.getD k 0]:=by
 rw[List.take_succ_eq_append_getElem h];simp[List.getD,List.getElem?_eq_getElem h]
theorem ph{l:List UInt8}{k:Nat}(h:k<l.length):b8 (l.take (k+1))=b8 (l.take k)++o9 (l.getD k 0):=by
 rw[ep h,sR];simp[b8]
theorem sL(j:Nat)(h:j<16):((bytesOf ⟨#[48,49,50,51,52,53,54,55,56,57,97,98,99,100,101,102]⟩).take (j+1)).drop j=[jN.getD j 0]:=by
 revert j;decide
theorem vS{l:List UInt8}{k:Nat}(h:k<l.length):strOf (b8 (l.take k))++strOf (((bytesOf ⟨#[48,49,50,51,52,53,54,55,56,57,97,98,99,100,101,102]⟩).take ((l.getD k 0).toNat/16+1)).drop ((l.getD k 0).toNat/16))++
  strOf (((bytesOf ⟨#[48,49,50,51,52,53,54,55,56,57,97,98,99,100,101,102]⟩).take ((l.getD k 0).toNat % 16+1)).drop ((l.getD k 0).toNat % 16))=strOf (b8 (l.take (k+1))):=by
 have hb:=(l.getD k 0).toNat_lt
 rw[sL _ (by omega),sL _ (by omega),dk,dk,ph h]
 simp[o9]
theorem ua(i:Int)(h0:0≤i)(h:i<16):(#[48,49,50,51,52,53,54,55,56,57,97,98,99,100,101,102]:Array UInt8)[i.toNat]? =some (jN.getD i.toNat 0):=by
 have:i.toNat<16:=by omega
 generalize i.toNat=j at this
 revert j
 decide
theorem AL(x:UInt8):(#[48,49,50,51,52,53,54,55,56,57,97,98,99,100,101,102]:Array UInt8)[((x.toNat:Int)/16).toNat]? =some (jN.getD (x.toNat/16) 0):=by
 have h:=x.toNat_lt
 rw[ua _ (by omega) (by omega)]
 rfl
theorem zU(x:UInt8):(#[48,49,50,51,52,53,54,55,56,57,97,98,99,100,101,102]:Array UInt8)[((x.toNat % 16:Nat):Int).toNat]? =some (jN.getD (x.toNat % 16) 0):=by
 rw[ua _ (by omega) (by omega)]
 rfl
theorem DR(x:UInt8):bits .and .u8 (x.toNat:Int) 15=((x.toNat % 16:Nat):Int):=by
 have:=u8_and_nat x.toNat 15 (by have:=x.toNat_lt;omega) (by decide)
 rw[show((15:Nat):Int)=15 from rfl]at this
 rw[this]
 congr 1
 exact Nat.and_two_pow_sub_one_eq_mod x.toNat 4
end Go.Hx
end
section
namespace Go.Hx
open Go.Eng
def jM(c:UInt8):Int:=if 48≤c.toNat∧c.toNat≤57 then(c.toNat:Int)-48 else if 97≤c.toNat∧c.toNat≤102 then(c.toNat:Int)-87 else-1
theorem gQ(c:UInt8):-1≤jM c∧jM c≤15:=by unfold jM;split <;> (try split) <;> omega
def unhex:List UInt8→Option (List UInt8)
 | []=>some []
 | [_]=>none
 |a::b::r=>if jM a<0∨jM b<0 then none else(unhex r).map (UInt8.ofNat (16*(jM a).toNat+(jM b).toNat)::·)
theorem kX:∀(l:List UInt8) (n:Nat) (a b:UInt8) (x:List UInt8),l.length=2*n→unhex l=some x→unhex (l++[a,b])=if jM a<0∨jM b<0 then none else some (x++[UInt8.ofNat (16*(jM a).toNat+(jM b).toNat)])
 | [],n,a,b,x,_,h=>by
  simp only[unhex,Option.some.injEq]at h
  subst h
  simp[unhex]
 | [c],n,a,b,x,hl,h=>by simp at hl;omega
 |c::d::r,n,a,b,x,hl,h=>by
  simp only[unhex]at h
  simp only[List.cons_append,unhex]
  split at h
  ·cases h
  ·rename_i hcd
   rw[if_neg hcd]
   simp only[Option.map_eq_some_iff]at h
   obtain⟨y,hy,rfl⟩:=h
   rw[kX r (n-1) a b y (by simp at hl;omega) hy]
   split <;> simp
theorem fE:∀(l m:List UInt8) (n:Nat),l.length=2*n→unhex l=none→unhex (l++m)=none
 | [],m,n,_,h=>by simp[unhex]at h
 | [c],m,n,hl,h=>by simp at hl;omega
 |c::d::r,m,n,hl,h=>by
  simp only[unhex]at h
  simp only[List.cons_append,unhex]
  split at h
  ·rename_i hcd;rw[if_pos hcd]
  ·rename_i hcd
   rw[if_neg hcd]
   simp only[Option.map_eq_none_iff]at h
   rw[fE r m (n-1) (by simp at hl;omega) h]
   rfl
theorem mJ:∀(l:List UInt8),l.length % 2=1→unhex l=none
 | [],h=>by simp at h
 | [_],_=>rfl
 |a::b::r,h=>by
  simp only[unhex]
  split
  ·rfl
  ·rw[mJ r (by simp at h;omega)];rfl
theorem fC:∀(l x:List UInt8),unhex l=some x→l.length=2*x.length
 | [],x,h=>by simp[unhex]at h;subst h;rfl
 | [_],x,h=>by simp[unhex]at h
 |a::b::r,x,h=>by
  simp only[unhex]at h
  split at h
  ·cases h
  ·simp only[Option.map_eq_some_iff]at h
   obtain⟨y,hy,rfl⟩:=h
   have:=fC r y hy
   simp;omega
theorem rW(k:Nat)(h:k<16):jM (jN.getD k 0)=k:=by
 revert k;decide
theorem oK:∀(l:List UInt8),unhex (b8 l)=some l
 | []=>rfl
 |a::r=>by
  have ih:=oK r
  have ha:=a.toNat_lt
  have h1:=rW (a.toNat/16) (by omega)
  have h2:=rW (a.toNat % 16) (by omega)
  have e:b8 (a::r)=jN.getD (a.toNat/16) 0::jN.getD (a.toNat % 16) 0::b8 r:=by simp[b8,o9]
  rw[e,unhex,h1,h2,if_neg (by omega),ih]
  simp only[Option.map_some,Int.toNat_natCast]
  congr 2
  have e2:16*(a.toNat/16)+a.toNat % 16=a.toNat:=by omega
  rw[e2]
  simp
theorem xr(a b:UInt8)(ha:0≤jM a)(hb:0≤jM b):16*jM a+jM b=((UInt8.ofNat (16*(jM a).toNat+(jM b).toNat)).toNat:Int):=by
 have h1:=gQ a
 have h2:=gQ b
 rw[UInt8.toNat_ofNat',Nat.mod_eq_of_lt (by omega)]
 omega
theorem rM{l:List UInt8}{k:Nat}(h:2*k+1<l.length):l.take (2*(k+1))=l.take (2*k)++[l.getD (2*k) 0,l.getD (2*k+1) 0]:=by
 have e:2*(k+1)=2*k+1+1:=by omega
 rw[e,ep h,ep (by omega)]
 simp
theorem oC(c:UInt8):Lib.indexByte jN c=jM c:=by
 have h:∀n,n<256→Lib.indexByte jN (UInt8.ofNat n)=jM (UInt8.ofNat n):=by decide+kernel
 have:=h c.toNat c.toNat_lt
 rwa [UInt8.ofNat_toNat]at this
theorem BJ(a b:Int)(ha:0≤a)(ha' :a<16)(hb:0≤b)(hb' :b<16):bits .or .i64 (a*16) b=16*a+b:=by
 have h:∀n,n<16→∀m,m<16→bits .or .i64 (((n:Nat):Int)*16) ((m:Nat):Int)=16*((n:Nat):Int)+((m:Nat):Int):=by decide+kernel
 have:=h a.toNat (by omega) b.toNat (by omega)
 rwa [Int.toNat_of_nonneg ha,Int.toNat_of_nonneg hb]at this
end Go.Hx
end
section
set_option maxRecDepth 20000
namespace Go.Proofs.YtmibdabdlgmafaaGreatDoor
open Go.Eng Go.Hx
theorem zY(g:Nat)(bt:TypeId)(x:Nat)(hx:x<4294967296)(w:World)(hb:eP w g bt [.int .u32 (x:Int)]):
  Calls Tryz.prog 298 #[.pointer (some ⟨g,0,none⟩)] w fun e w' =>e= .returned (.tuple #[])∧Fr (fun i=>i=g) w w' ∧eP w' g bt [.int .u32 (l5 x:Nat)]:=by
 have hc:w.cell? ⟨g,0,none⟩=some (.int .u32 (x:Int)):=hb.cell rfl
 have h3:(0:Int)≤2197175160*((x % 2:Nat):Int)∧2197175160*((x % 2:Nat):Int)<4294967296:=by omega
 refine enter (N:=9) Tryz.func298 rfl rfl (by simp) ?_
 refine aP<|aZ<|nq (av rfl bU hc)<|nq (fX (by simp) rfl rfl (EE x hx))<|nq (ab rfl)<|aY<|br (ae (t:=1) rfl<|ae (t:=0) rfl<|aA)<|aD<|aZ<|nq (av rfl bU hc)<|nq (kO (p:=2) rfl rfl (by decide) (by decide) (by decide))<|nq (aa rfl)<|nq (fv rfl rfl (uu h3.1 h3.2))<|nq (fX (by simp) rfl rfl (yq x hx))<| ?_
 refine y6 (uz rfl rfl bL rfl hb (by simp) fun w1 hf1 hb1 hs1=> ?_)
 refine aY<|br (ae (t:=1) rfl<|ae (t:=0) rfl<|aA)<| ?_
 exact Dt trivial rfl ⟨rfl,hf1,hb1⟩
theorem wY(x n:Nat)(hx:x<4294967296)(hn:n≤1000000)(w:World):
  Calls Tryz.prog 273 #[.int .u32 (x:Int),.int .i64 (n:Int)] w fun e w' =>e= .returned (.int .u32 (fT n x:Nat))∧Fr No w w' :=by
 refine enter (N:=14) Tryz.func273 rfl rfl (by simp) ?_
 refine aP<|aZ<| ?_
 refine nx (ox rfl fun g w1 hg hf1 hb1=> ?_)
 refine nq (ab rfl)<|aY<|aD<|aP<|aZ<|nq (j1 rfl rfl)<|nq (ab rfl)<|aY<|br (ae (t:=5) rfl<|ae (t:=4) rfl<|ae (t:=2) rfl<|ae (t:=0) rfl<|ae (t:=1) rfl<|aA)<|aD<|aP<|aP<|aZ<|nq (aa rfl)<|nq (aa rfl)<|aY<|aD<|cJ<| ?_
 refine jS (fun k=>n-k) (fun k=>[(2,.pointer (some ⟨g,0,none⟩)),(5,.func (.func 298) #[] #[.pointer (some ⟨g,0,none⟩)]),(7,.int .i64 (n:Int)),(8,.int .i64 (k:Nat))]) (fun k w' =>k≤n∧Fr No w w' ∧eP w' g 166 [.int .u32 (fT k x:Nat)]) 0 (⟨Nat.zero_le _,hf1,hb1⟩) (ae (t:=2) rfl<|ae (t:=5) rfl<|ae (t:=7) rfl<|ae (t:=8) rfl<|aA) (fun k w2 ⟨hk,hf2,hb2⟩=> ?_)
 refine aP<|aZ<|nq (bk rfl rfl)<|aY<|aD<|aP<| ?_
 refine lC rfl (fun h=> ?_) (fun h=> ?_)
 ·refine dy<|aD<|aP<|cJ<|aZ<|nq (aa rfl)<| ?_
  refine nx (uN rfl rfl Tryz.call298 (first:=[]) (cap:=[_]) (zY g _ _ (kr hx k) _ hb2) ?_)
  rintro e_ w3 ⟨rfl,hf3,hb3⟩
  refine⟨_,rfl, ?_⟩
  refine aY<|br (ae (t:=9) rfl<|ae (t:=2) rfl<|ae (t:=5) rfl<|ae (t:=7) rfl<|ae (t:=8) rfl<|aA)<|eA<|aD<|aZ<|nq (aM rfl rfl (bB (by omega) (by omega)))<|nq (aa rfl)<|aY<|br (ae (t:=8) rfl<|ae (t:=9) rfl<|ae (t:=2) rfl<|ae (t:=5) rfl<|ae (t:=7) rfl<|aA)<| ?_
  refine jV (k+1) (ae (t:=2) rfl<|ae (t:=5) rfl<|ae (t:=7) rfl<|ae (t:=8) rfl<|aA) (⟨by omega,hf2.new hf3 (fun i hi=>by omega),hb3⟩) (by omega)
 ·obtain rfl:k=n:=by omega
  refine im<|bG<|bG<|cH<|aD<|aP<|aZ<|nq (av rfl bU ((hb2.cell rfl)))<|nq (ab rfl)<|aY<|br (ae (t:=4) rfl<|ae (t:=9) rfl<|ae (t:=2) rfl<|ae (t:=5) rfl<|ae (t:=7) rfl<|ae (t:=8) rfl<|aA)<|aD<|dK<| ?_
  exact eW trivial rfl rfl ⟨rfl,hf2⟩
theorem Ac(A:Option Addr)(n c:Nat)(l:List UInt8)(s:Nat)(hs:s<4294967296)(w:World)(hr:Rd w 1 A n (aK l))(hn:n≤140737488351232):
  Calls Tryz.prog 232 #[.int .u32 (s:Int),.slice A n c] w fun e w' =>e= .returned (.int .u32 (4294967295-jI (4294967295-s) l:Nat))∧Fr No w w' :=by
 have hl:l.length=n:=by have:=hr.1;rw[ax]at this;omega
 refine enter (N:=25) Tryz.func232 rfl rfl (by simp) ?_
 refine aP<|aZ<|nq (ab rfl)<|aY<|aD<|aP<|aZ<|nq (aa rfl)<|nq (yV (qm rfl hs) (congrArg (fun n:Nat=>Value.int .u32 (n:Int)) (sG hs)))<|nq (ab rfl)<|aY<|br (ae (t:=5) rfl<|ae (t:=4) rfl<|ae (t:=0) rfl<|ae (t:=1) rfl<|aA)<|aD<|aP<|aP<|aZ<|nq (aa rfl)<|nq (aX rfl Tryz.underlying27)<|nq (aa rfl)<|aY<|br (ae (t:=11) rfl<|ae (t:=10) rfl<|ae (t:=5) rfl<|ae (t:=4) rfl<|ae (t:=0) rfl<|ae (t:=1) rfl<|aA)<|aD<|cJ<| ?_
 refine jS (fun k=>n-k) (fun k=>[(1,.slice A n c),(5,.int .u32 (jI (4294967295-s) (l.take k):Nat)),(10,.int .i64 (n:Int)),(11,.int .i64 (k:Nat))]) (fun k w' =>k≤n∧Fr No w w') 0 (⟨Nat.zero_le _,Fr.refl _ _⟩) (ae (t:=1) rfl<|ae (t:=5) rfl<|ae (t:=10) rfl<|ae (t:=11) rfl<|aA) (fun k w2 ⟨hk,hf2⟩=> ?_)
 refine aP<|aZ<|nq (bk rfl rfl)<|aY<|aD<|aP<| ?_
 refine lC rfl (fun h=> ?_) (fun h=> ?_)
 ·have hkn:k<l.length:=by omega
  have hm:=lx (n:=4294967295-s) (by omega) (l.take k)
  have hbt:=(l.getD k 0).toNat_lt
  have r2:=hr.l9 hf2
  refine dy<|aD<|aP<|cJ<|aP<|aZ<|nq (aa rfl)<|nq (ab rfl)<|aY<|br (ae (t:=6) rfl<|ae (t:=12) rfl<|ae (t:=1) rfl<|ae (t:=5) rfl<|ae (t:=10) rfl<|ae (t:=11) rfl<|aA)<|aD<|aZ<|nq (aa rfl)<|nq (aa rfl)<|nq (aa rfl)<|nq (aL rfl rfl Tryz.underlying27 dE r2.2.1 rfl (by omega))<|nq (av rfl iy (r2.cell (bC hkn)))<|nq (bJ rfl Tryz.underlying5 Tryz.underlying166 ((uu (by omega) (by omega))))<|nq (fX (by simp) rfl rfl (rZ _ hm _))<| ?_
  refine nx (dY rfl Tryz.call273 (wY _ 8 (nj hm _) (by decide) _) ?_)
  rintro e_ w3 ⟨rfl,hf3⟩
  refine⟨_,rfl, ?_⟩
  rw[←oQ,←Go.Hx.ep hkn]
  refine nq (ab rfl)<|aY<|br (ae (t:=5) rfl<|ae (t:=6) rfl<|ae (t:=12) rfl<|ae (t:=1) rfl<|ae (t:=10) rfl<|ae (t:=11) rfl<|aA)<|eA<|aD<|aZ<|nq (aM rfl rfl (bB (by omega) (by omega)))<|nq (aa rfl)<|aY<|br (ae (t:=11) rfl<|ae (t:=5) rfl<|ae (t:=6) rfl<|ae (t:=12) rfl<|ae (t:=1) rfl<|ae (t:=10) rfl<|aA)<| ?_
  refine jV (k+1) (ae (t:=1) rfl<|ae (t:=5) rfl<|ae (t:=10) rfl<|ae (t:=11) rfl<|aA) (⟨by omega,hf2.b9 hf3⟩) (by omega)
 ·obtain rfl:k=n:=by omega
  have hm:=lx (n:=4294967295-s) (by omega) (l.take k)
  refine im<|bG<|bG<|cH<|aD<|aP<|aZ<|nq (aa rfl)<|nq (qm rfl hm)<|nq (ab rfl)<|aY<|br (ae (t:=4) rfl<|ae (t:=12) rfl<|ae (t:=1) rfl<|ae (t:=5) rfl<|ae (t:=10) rfl<|ae (t:=11) rfl<|aA)<|aD<|dK<| ?_
  rw[List.take_of_length_le (by omega)]at hm ⊢
  rw[sG hm]
  exact eW trivial rfl rfl ⟨rfl,hf2⟩
theorem rL(A:Option Addr)(n c:Nat)(l:List UInt8)(w:World)(hr:Rd w 1 A n (aK l))(hn:n≤140737488351232):
  Calls Tryz.prog 180 #[.slice A n c] w fun e w' =>e= .returned (.int .u32 (db l:Nat))∧Fr No w w' :=by
 refine enter (N:=5) Tryz.func180 rfl rfl (by simp) ?_
 refine aP<|aZ<|nq (ab rfl)<|aY<|aD<|aP<|aZ<|nq (aa rfl)<| ?_
 refine nx (dY rfl Tryz.call232 (Ac A n c l 0 (by decide) w hr hn) ?_)
 rintro e_ w1 ⟨rfl,hf1⟩
 refine⟨_,rfl, ?_⟩
 refine nq (ab rfl)<|aY<|br (ae (t:=2) rfl<|ae (t:=0) rfl<|aA)<|aD<|dK<| ?_
 exact eW trivial rfl rfl ⟨rfl,hf1⟩
theorem clone(A:Option Addr)(n c:Nat)(l:List UInt8)(w:World)(hr:Rd w 1 A n (aK l))(hn:n≤140737488351232):
  Calls Tryz.prog 117 #[.slice A n c] w fun e w' =>∃v,e= .returned v∧Go.Eng.Own w' w.heap.size 5 1 v n (aK l)∧Fr No w w' :=by
 have hl:l.length=n:=by have:=hr.1;rw[ax]at this;omega
 refine enter (N:=8) Tryz.func117 rfl rfl (by simp) ?_
 refine aP<|aZ<|nq (ab rfl)<|aY<|aD<|aP<|aP<|aZ<|nq (aa rfl)<|nq (CL rfl rfl Tryz.underlying27)<|aY<|br (ae (t:=4) rfl<|ae (t:=2) rfl<|ae (t:=0) rfl<|aA)<|aD<| ?_
 cases A with
 |none=>
  have h0:n=0:=by
   rcases Nat.eq_zero_or_pos n with h|h
   ·exact h
   ·exact absurd rfl (hr.2.1 h)
  subst h0
  obtain rfl:l=[]:=List.eq_nil_of_length_eq_zero hl
  refine vG rfl (rfl) ?_
  refine aP<|aZ<|nq (ab rfl)<|aY<|aD<|dK<|bA<| ?_
  exact eW trivial rfl rfl ⟨_,rfl,Own.nil _ _ _ _,Fr.refl _ _⟩
 |some a=>
  refine oU rfl (rfl) ?_
  refine dy<|aD<|aP<|aZ<| ?_
  refine nx (BA Tryz.underlying27 ey fun g w1 hg hf1 hb1=> ?_)
  refine nq (aa rfl)<| ?_
  refine nx (jJ rfl rfl Tryz.underlying27 Tryz.underlying27 (by exact .inl rfl) ey rfl (Own.Dr hb1 hg) (Src.bN (hr.l9 hf1)) gk (by unfold maxLen;omega) (by omega) hf1.size fun v w2 ho hf2 hv=> ?_)
  refine nq (ab rfl)<|aY<|br (ae (t:=2) rfl<|ae (t:=4) rfl<|ae (t:=0) rfl<|aA)<|aD<|dK<| ?_
  refine eW trivial rfl rfl ⟨v,rfl, ?_,hf1.new hf2 (fun i hi=>by have:i=g:=hi;omega)⟩
  simpa using ho
theorem BD(A:Option Addr)(n c:Nat)(l:List UInt8)(w:World)(hr:Rd w 1 A n (aK l))(hn:n≤70368744177664):
  Calls Tryz.prog 242 #[.slice A n c] w fun e w' =>∃v,e= .returned v∧Go.Eng.Own w' w.heap.size 5 1 v (n+4) (aK (gy l))∧Fr No w w' :=by
 have hl:l.length=n:=by have:=hr.1;rw[ax]at this;omega
 refine enter (N:=20) Tryz.func242 rfl rfl (by simp) ?_
 refine aP<|aZ<|nq (ab rfl)<|aY<|aD<|aP<|aZ<|nq (aa rfl)<| ?_
 refine nx (dY rfl Tryz.call180 (rL A n c l w hr (by omega)) ?_)
 rintro e_ w1 ⟨rfl,hf1⟩
 refine⟨_,rfl, ?_⟩
 refine nq (ab rfl)<|aY<|br (ae (t:=3) rfl<|ae (t:=2) rfl<|ae (t:=0) rfl<|aA)<|aD<|aP<|aZ<|nq (aa rfl)<| ?_
 refine nx (dY rfl Tryz.call117 (clone A n c l w1 (hr.l9 hf1) (by omega)) ?_)
 rintro e_ w2 ⟨v,rfl,hv,hf2⟩
 refine⟨_,rfl, ?_⟩
 have hlt:=gT l
 have hv:=hv.wide (b:=w.heap.size) hf1.size
 refine nq (ab rfl)<|aY<|br (ae (t:=4) rfl<|ae (t:=3) rfl<|ae (t:=2) rfl<|ae (t:=0) rfl<|aA)<|aD<|aP<|aP<|aZ<|nq (aa rfl)<|aY<|aD<|cJ<| ?_
 refine oT (fun k _=>4-k) (fun k v=>[(3,.int .u32 (j9 k (db l):Nat)),(4,v),(9,.int .i64 (k:Nat))]) (fun k v w' =>k≤4∧Go.Eng.Own w' w.heap.size 5 1 v (n+k) (aK (l++ud k (db l)))∧Fr No w w') 0 v (⟨Nat.zero_le _,by simpa[ud]using hv,hf1.b9 hf2⟩) (ae (t:=3) rfl<|ae (t:=4) rfl<|ae (t:=9) rfl<|aA) (fun k v w3 ⟨hk,ho,hf⟩=> ?_)
 refine aP<|aZ<|nq (bk rfl rfl)<|aY<|aD<|aP<| ?_
 refine lC rfl (fun h=> ?_) (fun h=> ?_)
 ·have hs8:=qy hlt k
  refine dy<|aD<|aP<|cJ<|aP<|aZ<|nq (aa rfl)<|nq (aa rfl)<|nq (bJ rfl Tryz.underlying166 Tryz.underlying5 ((fl _)))<| ?_
  refine nx (kR Tryz.underlying27 ey rfl rfl rfl (by simp[Value.cells,B8]) (by decide) (by decide) fun g w4 hg hf4 hb4=> ?_)
  refine nx (jJ rfl rfl Tryz.underlying27 Tryz.underlying27 (by exact .inl rfl) ey rfl (ho.l9 hf4) (Src.gE hb4 rfl) (aS (l:=[_])) (by unfold maxLen;omega) (by omega) (hf.b9 hf4).size fun v5 w5 ho5 hf5 hv5=> ?_)
  refine nq (ab rfl)<|aY<|br (ae (t:=4) rfl<|ae (t:=10) rfl<|ae (t:=3) rfl<|ae (t:=9) rfl<|aA)<|aD<|aZ<|nq (aa rfl)<|nq (kO (p:=256) rfl rfl (by decide) (by decide) (by decide))<|nq (ab rfl)<|aY<|br (ae (t:=3) rfl<|ae (t:=4) rfl<|ae (t:=10) rfl<|ae (t:=9) rfl<|aA)<|eA<|aD<|aZ<|nq (aM rfl rfl (bB (by omega) (by omega)))<|nq (aa rfl)<|aY<|br (ae (t:=9) rfl<|ae (t:=3) rfl<|ae (t:=4) rfl<|ae (t:=10) rfl<|aA)<| ?_
  refine mG (k+1) v5 (ae (t:=3) rfl<|ae (t:=4) rfl<|ae (t:=9) rfl<|aA) (⟨by omega,by rw[oI,←List.append_assoc,bm];exact ho5,(hf.b9 hf4).new hf5 (fun i hi=>(ho.from hi).1)⟩) (by omega)
 ·obtain rfl:k=4:=by omega
  refine im<|bG<|bG<|cH<|aD<|aP<|aZ<|nq (aa rfl)<|nq (ab rfl)<|aY<|br (ae (t:=2) rfl<|ae (t:=10) rfl<|ae (t:=3) rfl<|ae (t:=4) rfl<|ae (t:=9) rfl<|aA)<|aD<|dK<| ?_
  rw[nX]at ho
  exact eW trivial rfl rfl ⟨v,rfl,ho,hf⟩
theorem xq(A:Option Addr)(n c:Nat)(l:List UInt8)(s:Nat)(hs:s<4294967296)(w:World)(hr:Rd w 1 A n (aK l))(hn:n≤140737488351232):
  Calls Tryz.prog 243 #[.int .u32 (s:Int),.slice A n c] w fun e w' =>e= .returned (.int .u32 (4294967295-jI (4294967295-s) l:Nat))∧w=w' :=by
 have hl:l.length=n:=by have:=hr.1;rw[ax]at this;omega
 refine enter (N:=37) Tryz.func243 rfl rfl (by simp) ?_
 refine aP<|aZ<|nq (ab rfl)<|aY<|aD<|aP<|aZ<|nq (aa rfl)<|nq (b6 rfl rfl ((show IntKind.u32.wrap (4294967295-(s:Int))=((4294967295-s:Nat):Int) by rw[uu (by omega) (by omega)];omega)))<|nq (ab rfl)<|aY<|br (ae (t:=5) rfl<|ae (t:=4) rfl<|ae (t:=0) rfl<|ae (t:=1) rfl<|aA)<|aD<|aP<|aP<|aZ<|nq (ab rfl)<|aY<|aD<|cJ<| ?_
 refine jS (fun k=>n-k) (fun k=>[(1,.slice A n c),(5,.int .u32 (jI (4294967295-s) (l.take k):Nat)),(6,.int .i64 (k:Nat))]) (fun k w' =>k≤n∧w=w') 0 (⟨Nat.zero_le _,rfl⟩) (ae (t:=1) rfl<|ae (t:=5) rfl<|ae (t:=6) rfl<|aA) (fun k w2 ⟨hk,hw⟩=> ?_)
 obtain rfl:=hw
 refine aP<|aP<|aZ<|nq (aa rfl)<|nq (aa rfl)<|nq (aX rfl Tryz.underlying27)<|nq (bk rfl rfl)<|aY<|br (ae (t:=13) rfl<|ae (t:=1) rfl<|ae (t:=5) rfl<|ae (t:=6) rfl<|aA)<|aD<| ?_
 refine lC rfl (fun h=> ?_) (fun h=> ?_)
 ·have hkn:k<l.length:=by omega
  have hm:=lx (n:=4294967295-s) (by omega) (l.take k)
  have hbt:=(l.getD k 0).toNat_lt
  have hx:=nj hm (l.getD k 0)
  refine dy<|aD<|aP<|cJ<|aP<|aZ<|nq (aa rfl)<|nq (aa rfl)<|nq (aa rfl)<|nq (aL rfl rfl Tryz.underlying27 dE hr.2.1 rfl (by omega))<|nq (av rfl iy (hr.cell (bC hkn)))<|nq (bJ rfl Tryz.underlying5 Tryz.underlying166 ((uu (by omega) (by omega))))<|nq (fX (by simp) rfl rfl (rZ _ hm _))<|nq (ab rfl)<|aY<|br (ae (t:=5) rfl<|ae (t:=13) rfl<|ae (t:=1) rfl<|ae (t:=6) rfl<|aA)<|aD<|aP<|aZ<|nq (ab rfl)<|aY<|aD<|cJ<| ?_
  generalize hX:jI (4294967295-s) (l.take k) ^^^ (l.getD k 0).toNat=X at hx
  refine jS (fun q=>8-q) (fun q=>[(1,.slice A n c),(5,.int .u32 (fT q X:Nat)),(6,.int .i64 (k:Nat)),(7,.int .i64 (q:Nat))]) (fun q w' =>q≤8∧w=w') 0 (⟨Nat.zero_le _,rfl⟩) (ae (t:=1) rfl<|ae (t:=5) rfl<|ae (t:=6) rfl<|ae (t:=7) rfl<|aA) (fun q w3 ⟨hq,hw⟩=> ?_)
  obtain rfl:=hw
  have hc:=kr hx q
  refine aP<|aP<|aZ<|nq (aa rfl)<|nq (bk rfl rfl)<|aY<|br (ae (t:=24) rfl<|ae (t:=1) rfl<|ae (t:=5) rfl<|ae (t:=6) rfl<|ae (t:=7) rfl<|aA)<|aD<| ?_
  refine lC rfl (fun h2=> ?_) (fun h2=> ?_)
  ·refine dy<|aD<|aP<|cJ<|aP<|aZ<|nq (aa rfl)<|nq (gr rfl rfl (by omega) (by omega))<|nq (cy rfl rfl)<|aY<|br (ae (t:=29) rfl<|ae (t:=24) rfl<|ae (t:=1) rfl<|ae (t:=5) rfl<|ae (t:=6) rfl<|ae (t:=7) rfl<|aA)<|aD<| ?_
   refine lC rfl (fun h3=> ?_) (fun h3=> ?_)
   ·refine aZ<|nq (aa rfl)<|nq (jF rfl rfl (by omega) (by omega) (uu (by omega) (by omega)))<|nq (fX (by simp) rfl rfl (xM _ hc))<|nq (ab rfl)<|aY<|br (ae (t:=5) rfl<|ae (t:=29) rfl<|ae (t:=24) rfl<|ae (t:=1) rfl<|ae (t:=6) rfl<|ae (t:=7) rfl<|aA)<|eA<|aD<|aZ<|nq (aa rfl)<|nq (aM rfl rfl (bB (by omega) (by omega)))<|nq (ab rfl)<|aY<|br (ae (t:=7) rfl<|ae (t:=5) rfl<|ae (t:=29) rfl<|ae (t:=24) rfl<|ae (t:=1) rfl<|ae (t:=6) rfl<|aA)<| ?_
    rw[show fT q X/2 ^^^ 2197175160=fT (q+1) X by rw[fT,l5,if_pos (by omega)]]
    refine jV (q+1) (ae (t:=1) rfl<|ae (t:=5) rfl<|ae (t:=6) rfl<|ae (t:=7) rfl<|aA) (⟨by omega,rfl⟩) (by omega)
   ·refine aZ<|nq (aa rfl)<|nq (jF rfl rfl (by omega) (by omega) (uu (by omega) (by omega)))<|nq (ab rfl)<|aY<|br (ae (t:=5) rfl<|ae (t:=29) rfl<|ae (t:=24) rfl<|ae (t:=1) rfl<|ae (t:=6) rfl<|ae (t:=7) rfl<|aA)<|eA<|aD<|aZ<|nq (aa rfl)<|nq (aM rfl rfl (bB (by omega) (by omega)))<|nq (ab rfl)<|aY<|br (ae (t:=7) rfl<|ae (t:=5) rfl<|ae (t:=29) rfl<|ae (t:=24) rfl<|ae (t:=1) rfl<|ae (t:=6) rfl<|aA)<| ?_
    rw[show(fT q X:Int)/2=((fT (q+1) X:Nat):Int) by rw[fT,l5,if_neg (by omega)];omega]
    refine jV (q+1) (ae (t:=1) rfl<|ae (t:=5) rfl<|ae (t:=6) rfl<|ae (t:=7) rfl<|aA) (⟨by omega,rfl⟩) (by omega)
  ·obtain rfl:q=8:=by omega
   refine im<|bG<|bG<|cH<|eA<|aD<|aZ<|nq (aa rfl)<|nq (aM rfl rfl (bB (by omega) (by omega)))<|nq (ab rfl)<|aY<|br (ae (t:=6) rfl<|ae (t:=24) rfl<|ae (t:=1) rfl<|ae (t:=5) rfl<|ae (t:=7) rfl<|aA)<| ?_
   rw[←hX,←oQ,←Go.Hx.ep hkn]
   refine jV (k+1) (ae (t:=1) rfl<|ae (t:=5) rfl<|ae (t:=6) rfl<|aA) (⟨by omega,rfl⟩) (by omega)
 ·obtain rfl:k=n:=by omega
  have hm:=lx (n:=4294967295-s) (by omega) (l.take k)
  refine im<|bG<|bG<|cH<|aD<|aP<|aZ<|nq (aa rfl)<|nq (b6 rfl rfl ((show IntKind.u32.wrap (4294967295-((jI (4294967295-s) (l.take k):Nat):Int))=((4294967295-jI (4294967295-s) (l.take k):Nat):Int) by rw[uu (by omega) (by omega)];omega)))<|nq (ab rfl)<|aY<|br (ae (t:=4) rfl<|ae (t:=13) rfl<|ae (t:=1) rfl<|ae (t:=5) rfl<|ae (t:=6) rfl<|aA)<|aD<|dK<| ?_
  rw[List.take_of_length_le (by omega)]
  exact eW trivial rfl rfl ⟨rfl,rfl⟩
theorem za(A:Option Addr)(n c:Nat)(l:List UInt8)(w:World)(hr:Rd w 1 A n (aK l))(hn:n≤70368744177664):
  Calls Tryz.prog 189 #[.slice A n c] w fun e w' =>∃v,e= .returned v∧Go.Eng.Own w' w.heap.size 5 1 v (n+4) (aK (gy l))∧Fr No w w' :=by
 have hl:l.length=n:=by have:=hr.1;rw[ax]at this;omega
 refine enter (N:=24) Tryz.func189 rfl rfl (by simp) ?_
 refine aP<|aZ<|nq (ab rfl)<|aY<|aD<|aP<|aZ<|nq (aa rfl)<| ?_
 refine nx (dY rfl Tryz.call243 (xq A n c l 0 (by decide) w hr (by omega)) ?_)
 rintro e_ w1 ⟨rfl,rfl⟩
 refine⟨_,rfl, ?_⟩
 refine nq (ab rfl)<|aY<|br (ae (t:=3) rfl<|ae (t:=2) rfl<|ae (t:=0) rfl<|aA)<|aD<|aP<|aZ<|nq (ab rfl)<|aY<|aD<|aP<|aZ<|nq (aa rfl)<|nq (aa rfl)<| ?_
 refine nx (jJ rfl rfl Tryz.underlying27 Tryz.underlying27 (by exact .inl rfl) ey rfl (Own.nil w w.heap.size _ 1) (Src.bN hr) gk (by unfold maxLen;omega) (by omega) (Nat.le_refl _) fun v w2 hv hf2 hvv=> ?_)
 have hlt:=gT l
 have f2:Fr No w w2:=hf2.mono (fun _ _ e=>e.elim)
 refine nq (ab rfl)<|aY<|br (ae (t:=4) rfl<|ae (t:=3) rfl<|ae (t:=2) rfl<|ae (t:=0) rfl<|aA)<|aD<|aP<|aP<|aZ<|nq (ab rfl)<|aY<|aD<|cJ<| ?_
 refine oT (fun k _=>4-k) (fun k v=>[(3,.int .u32 (j9 k (db l):Nat)),(4,v),(5,.int .i64 (k:Nat))]) (fun k v w' =>k≤4∧Go.Eng.Own w' w.heap.size 5 1 v (n+k) (aK (l++ud k (db l)))∧Fr No w w') 0 v (⟨Nat.zero_le _,by simpa[ud]using hv,f2⟩) (ae (t:=3) rfl<|ae (t:=4) rfl<|ae (t:=5) rfl<|aA) (fun k v w3 ⟨hk,ho,hf⟩=> ?_)
 refine aP<|aP<|aZ<|nq (aa rfl)<|nq (bk rfl rfl)<|aY<|br (ae (t:=12) rfl<|ae (t:=3) rfl<|ae (t:=4) rfl<|ae (t:=5) rfl<|aA)<|aD<| ?_
 refine lC rfl (fun h=> ?_) (fun h=> ?_)
 ·have hs8:=qy hlt k
  refine dy<|aD<|aP<|cJ<|aP<|aZ<|nq (aa rfl)<|nq (aa rfl)<|nq (gr rfl rfl (by omega) (by omega))<|nq (bJ rfl Tryz.underlying166 Tryz.underlying5 ((show IntKind.u8.wrap (((j9 k (db l):Nat):Int) % 256)=((UInt8.ofNat (j9 k (db l))).toNat:Int) by simp[IntKind.wrap,IntKind.signed,IntKind.bits])))<| ?_
  refine nx (kR Tryz.underlying27 ey rfl rfl rfl (by simp[Value.cells,B8]) (by decide) (by decide) fun g w4 hg hf4 hb4=> ?_)
  refine nx (jJ rfl rfl Tryz.underlying27 Tryz.underlying27 (by exact .inl rfl) ey rfl (ho.l9 hf4) (Src.gE hb4 rfl) (aS (l:=[_])) (by unfold maxLen;omega) (by omega) (hf.b9 hf4).size fun v5 w5 ho5 hf5 hv5=> ?_)
  refine nq (ab rfl)<|aY<|br (ae (t:=4) rfl<|ae (t:=12) rfl<|ae (t:=3) rfl<|ae (t:=5) rfl<|aA)<|aD<|aZ<|nq (aa rfl)<|nq (jF rfl rfl (by omega) (by omega) (uu (by omega) (by omega)))<|nq (ab rfl)<|aY<|br (ae (t:=3) rfl<|ae (t:=4) rfl<|ae (t:=12) rfl<|ae (t:=5) rfl<|aA)<|eA<|aD<|aZ<|nq (aa rfl)<|nq (aM rfl rfl (bB (by omega) (by omega)))<|nq (ab rfl)<|aY<|br (ae (t:=5) rfl<|ae (t:=3) rfl<|ae (t:=4) rfl<|ae (t:=12) rfl<|aA)<| ?_
  refine mG (k+1) v5 (ae (t:=3) rfl<|ae (t:=4) rfl<|ae (t:=5) rfl<|aA) (⟨by omega,by rw[oI,←List.append_assoc,bm];exact ho5,(hf.b9 hf4).new hf5 (fun i hi=>(ho.from hi).1)⟩) (by omega)
 ·obtain rfl:k=4:=by omega
  refine im<|bG<|bG<|cH<|aD<|aP<|aZ<|nq (aa rfl)<|nq (ab rfl)<|aY<|br (ae (t:=2) rfl<|ae (t:=12) rfl<|ae (t:=3) rfl<|ae (t:=4) rfl<|ae (t:=5) rfl<|aA)<|aD<|dK<| ?_
  rw[nX]at ho
  exact eW trivial rfl rfl ⟨v,rfl,ho,hf⟩
end Go.Proofs.YtmibdabdlgmafaaGreatDoor
end
section
set_option maxRecDepth 20000
namespace Go.Proofs.YtmibdabdlgmafaaGreatDoor
open Go.Eng Go.Hx
theorem tl(A:Option Addr)(n c:Nat)(l:List UInt8)(A' :Option Addr)(n' c' :Nat)(l' :List UInt8)(w:World)(hr:Rd w 1 A n (aK l))(hr' :Rd w 1 A' n' (aK l')):
  Calls Tryz.prog 215 #[.slice A n c,.slice A' n' c'] w fun e w' =>e= .returned (.bool (decide (l=l')))∧w=w' :=by
 refine enter (N:=10) Tryz.func215 rfl rfl (by simp) ?_
 refine aP<|aZ<|nq (ab rfl)<|aY<|aD<|aP<|aZ<|nq (aa rfl)<|nq (eZ rfl Tryz.underlying27 Tryz.underlying5 Tryz.underlying9 hr)<|nq (aa rfl)<|nq (eZ rfl Tryz.underlying27 Tryz.underlying5 Tryz.underlying9 hr')<|nq (p6 rfl rfl)<|nq (ab rfl)<|aY<|br (ae (t:=4) rfl<|ae (t:=0) rfl<|ae (t:=1) rfl<|aA)<|aD<|dK<| ?_
 refine eW trivial rfl rfl ⟨?_,rfl⟩
 simp only[cE]
def fJ(l:List UInt8):Int:=if l.length<4 then 2 else if gy (l.take (l.length-4))=l then 0 else 7
end Go.Proofs.YtmibdabdlgmafaaGreatDoor
end
section
set_option maxRecDepth 20000
namespace Go.Proofs.YtmibdabdlgmafaaGreatDoor
open Go.Eng Go.Hx
theorem kb{A A1:Option Addr}{n c n1 c1:Nat}{l l1:List UInt8}:cj Tryz.prog 215 [.slice A n c,.slice A1 n1 c1] [] [dw 1 A n (aK l),dw 1 A1 n1 (aK l1)] (fun v_ X_ S_=>v_=(.bool (decide (l=l1)))∧X_=[]∧S_=[]):=by
 exact fx fun m=>Calls.mono (tl A n c l A1 n1 c1 l1 _ (m.rd 0 rfl) (m.rd 1 rfl)) (fun e w' ⟨h,hw⟩=>⟨_,h,⟨rfl,rfl,rfl⟩,hw▸Fr.refl _ _⟩)
theorem k8{A:Option Addr}{n c:Nat}{l:List UInt8}(hn:n≤140737488351232):cj Tryz.prog 117 [.slice A n c] [] [dw 1 A n (aK l)] (fun v_ X_ S_=>∃v,v_=v∧X_=[aF 5 1 v n (aK l)]∧S_=[]):=by
 exact gX fun m=>Calls.mono (clone A n c l _ (m.rd 0 rfl) hn) (fun e w' ⟨v,h,ho,hf⟩=>⟨v,v,_,_,_,_,h,⟨v,rfl,rfl,rfl⟩,ho,hf⟩)
theorem tS{A:Option Addr}{n c:Nat}{l:List UInt8}(hn:n≤70368744177664):cj Tryz.prog 242 [.slice A n c] [] [dw 1 A n (aK l)] (fun v_ X_ S_=>∃v,v_=v∧X_=[aF 5 1 v (n+4) (aK (gy l))]∧S_=[]):=by
 exact gX fun m=>Calls.mono (BD A n c l _ (m.rd 0 rfl) hn) (fun e w' ⟨v,h,ho,hf⟩=>⟨v,v,_,_,_,_,h,⟨v,rfl,rfl,rfl⟩,ho,hf⟩)
def cx(l:List UInt8):List UInt8:=if fJ l=0 then l.take (l.length-4)else []
theorem vI{l:List UInt8}(h:fJ l=0):(cx l).length=l.length-4:=by rw[cx,if_pos h,List.length_take];omega
theorem uV{l:List UInt8}(h:l.length<4):fJ l=2∧cx l=[]:=by rw[cx,fJ,if_pos h];exact⟨rfl,rfl⟩
theorem Ap{l:List UInt8}(h:¬l.length<4)(h2:¬gy (l.take (l.length-4))=l):fJ l=7∧cx l=[]:=by rw[cx,fJ,if_neg h,if_neg h2];exact⟨rfl,rfl⟩
theorem Ah{l:List UInt8}(h:¬l.length<4)(h2:gy (l.take (l.length-4))=l):fJ l=0∧cx l=l.take (l.length-4):=by rw[cx,fJ,if_neg h,if_pos h2];exact⟨rfl,rfl⟩
theorem wV{A:Option Addr}{n c:Nat}{l:List UInt8}(hc:n≤c)(hn:n≤70368744177664):cj Tryz.prog 190 [.slice A n c] [] [dw 1 A n (aK l)] (fun v_ X_ S_=>∃v,v_=(.tuple #[v,.int .i64 (fJ l)])∧X_=[aF 5 1 v (cx l).length (aK (cx l))]∧S_=[]):=by
 refine aU (N:=21) Tryz.func190 rfl rfl (by simp) fun b=> ?_
 refine ba (fun m=>fG (m.rd 0 rfl)) ?_
 rintro⟨hl_r,hA_r⟩
 refine ah<|aj<|hy (fun _=>ab rfl)<|hy (fun _=>ab rfl)<|ai<|ag<|ah<|aj<|hy (fun _=>aa rfl)<|hy (fun _=>aX rfl Tryz.underlying27)<|hy (fun _=>b6 rfl rfl (bB (by omega) (by omega)))<|hy (fun _=>ab rfl)<|ai<|al (ρ' :=[(4,_),(3,_),(2,_),(0,_)]) ⟨rfl,rfl,rfl,rfl,trivial⟩<|ag<|ah<|ah<|aj<|hy (fun _=>aa rfl)<|hy (fun _=>bk rfl rfl)<|ai<|al (ρ' :=[(9,_),(4,_),(3,_),(2,_),(0,_)]) ⟨rfl,rfl,rfl,rfl,rfl,trivial⟩<|ag<| ?_
 refine cI rfl (fun h=> ?_) (fun h=> ?_)
 ·obtain⟨e1,e2⟩:=uV (show l.length<4 by omega)
  rw[e1,e2]
  refine ah<|aj<|hy (fun _=>ab rfl)<|hy (fun _=>ab rfl)<|ai<|ag<|aQ<|ay<| ?_
  refine ak (fun w m=>m.cL (r' :=aF 5 1 (.slice none 0 0) 0 []) (.refl _ _) (Own.nil _ _ _ _) (fun k hk=>hk.elim)) ?_
  exact cW trivial rfl rfl rfl [0] rfl [] rfl ⟨_,rfl,rfl,rfl⟩
 ·refine bD (fun w m=>m.lq 0 rfl (View.take (k:=n-4) (by omega))) ?_
  refine ba (fun m=>fG (m.rd 0 rfl)) ?_
  rintro⟨hl_r2,hA_r2⟩
  refine aC<|ag<|ah<|ah<|aj<|hy (fun _=>aa rfl)<|hy (fun _=>aa rfl)<|hy (fun _=>jA rfl rfl Tryz.underlying27 dE (show((n-4:Nat):Int)=(n:Int)-4 by omega) (by omega))<| ?_
  refine hx (aq rfl Tryz.call242 (tS (by omega)) [] rfl [0] rfl ?_)
  rintro _ _ _ ⟨v,rfl,rfl,rfl⟩
  refine aw (fun m=>(m.own 0 rfl).slice) ?_
  rintro⟨A_x,c_x,rfl,hc_x⟩
  refine aw (fun m=>(m.ord 0 rfl).2.1) fun hA_x=> ?_
  refine hy (fun _=>aa rfl)<| ?_
  refine hx (bT rfl Tryz.call215 (kb) [] rfl (.x 0 rfl .own (.s 1 rfl .nil)) ?_)
  rintro _ _ _ ⟨rfl,rfl,rfl⟩
  refine⟨rfl, ?_⟩
  refine hy (fun _=>(dT rfl))<|ai<|al (ρ' :=[(16,_),(9,_),(4,_),(3,_),(2,_),(0,_)]) ⟨rfl,rfl,rfl,rfl,rfl,rfl,trivial⟩<|ak (X' :=[_]) (S' :=[_,_]) (fun _ m=>m)<|ag<| ?_
  refine cI rfl (fun h2=> ?_) (fun h2=> ?_)
  ·obtain⟨e1,e2⟩:=Ap (l:=l) (by omega) (by rw[hl_r];exact h2)
   rw[e1,e2]
   refine ah<|aj<|hy (fun _=>ab rfl)<|hy (fun _=>ab rfl)<|ai<|ag<|aQ<|ay<| ?_
   refine ak (fun w m=>m.cL (r' :=aF 5 1 (.slice none 0 0) 0 []) (.refl _ _) (Own.nil _ _ _ _) (fun k hk=>hk.elim)) ?_
   exact cW trivial rfl rfl rfl [0] rfl [] rfl ⟨_,rfl,rfl,rfl⟩
  ·obtain⟨e1,e2⟩:=Ah (l:=l) (by omega) (by rw[hl_r];exact Decidable.not_not.1 h2)
   rw[e1,e2,hl_r]
   refine aC<|ag<|ah<|aj<|hy (fun _=>aa rfl)<|hy (fun _=>aa rfl)<|hy (fun _=>jA rfl rfl Tryz.underlying27 dE (show((n-4:Nat):Int)=(n:Int)-4 by omega) (by omega))<| ?_
   refine hx (aq rfl Tryz.call117 (k8 (by omega)) [] rfl [0] rfl ?_)
   rintro _ _ _ ⟨v2,rfl,rfl,rfl⟩
   refine aw (fun m=>(m.own 0 rfl).slice) ?_
   rintro⟨A_x2,c_x2,rfl,hc_x2⟩
   refine aw (fun m=>(m.ord 0 rfl).2.1) fun hA_x2=> ?_
   refine hy (fun _=>ab rfl)<|hy (fun _=>ab rfl)<|ai<|al (ρ' :=[(3,_),(2,_),(16,_),(9,_),(4,_),(0,_)]) ⟨rfl,rfl,rfl,rfl,rfl,rfl,trivial⟩<|ak (X' :=[_,_]) (S' :=[_,_]) (fun _ m=>m)<|ag<|aQ<| ?_
   exact cW trivial rfl rfl rfl [0] rfl [] rfl ⟨_,rfl,(by rw[List.length_take,hl_r,Nat.min_eq_left (by omega)]),rfl⟩
end Go.Proofs.YtmibdabdlgmafaaGreatDoor
end
section
set_option maxRecDepth 20000
namespace Go.Proofs.YtmibdabdlgmafaaGreatDoor
open Go.Eng Go.Hx
def eU:bf:=dw 1 (some ⟨1,0,none⟩) 64 (ea gC)
theorem BX{n:Nat}(h0:0<n)(hn:n<32):IntKind.u64.wrap (-(n:Int))=((18446744073709551616-n:Nat):Int):=by
 simp[IntKind.wrap,IntKind.signed,IntKind.bits]
 omega
theorem yP{n:Nat}(h0:0<n)(hn:n<32):bits .and .u64 ((18446744073709551616-n:Nat):Int) 31=((32-n:Nat):Int):=by
 have h:=u64_and_nat (18446744073709551616-n) 31 (by omega) (by decide)
 rw[show((31:Nat):Int)=31 from rfl]at h
 rw[h,show(31:Nat)=2 ^ 5-1 from rfl,Nat.and_two_pow_sub_one_eq_mod]
 congr 1
 show(18446744073709551616-n) % 32=32-n
 omega
theorem tg{x:UInt32}{n:Nat}(h0:0<n)(hn:n<32):cj Tryz.prog 296 [Wd x,.int .i64 (-(n:Int))] [] [] (fun v_ X_ S_=>v_=(Wd (j2 n x))∧X_=[]∧S_=[]):=by
 refine aU (N:=17) Tryz.func296 rfl rfl (by simp) fun b=> ?_
 have hs:IntKind.u64.wrap (32-((32-n:Nat):Int))=(n:Int):=by
  rw[show(32:Int)-((32-n:Nat):Int)=(n:Int) by omega]
  simp[IntKind.wrap,IntKind.signed,IntKind.bits]
  omega
 refine ah<|aj<|hy (fun _=>ab rfl)<|ai<|ag<|ah<|aj<|hy (fun _=>aa rfl)<|hy (fun _=>bJ rfl Tryz.underlying3 Tryz.underlying263 (BX h0 hn))<|hy (fun _=>fX (by simp) rfl rfl (yP h0 hn))<|hy (fun _=>ab rfl)<|ai<|al (ρ' :=[(5,_),(4,_),(0,_),(1,_)]) ⟨rfl,rfl,rfl,rfl,trivial⟩<|ag<|ah<|aj<|hy (fun _=>aa rfl)<|hy (fun _=>aa rfl)<|hy (fun _=>(x7 (k:=32-n) (by omega) rfl rfl))<|hy (fun _=>aa rfl)<|hy (fun _=>aa rfl)<|hy (fun _=>b6 rfl rfl hs)<|hy (fun _=>(wE (k:=n) hn rfl rfl))<|hy (fun _=>yV (A0 rfl rfl) ((show Wd (UInt32.ofNat (x.toNat*2 ^ (32-n)) ||| UInt32.ofNat (x.toNat/2 ^ n))=Wd (j2 n x) by rw[AW h0 hn])))<|hy (fun _=>ab rfl)<|ai<|al (ρ' :=[(4,_),(5,_),(0,_),(1,_)]) ⟨rfl,rfl,rfl,rfl,trivial⟩<|ag<|aQ<| ?_
 exact bd trivial rfl rfl [] rfl [] rfl ⟨rfl,rfl,rfl⟩
theorem tX{x:UInt32}{n1 n2 n3:Nat}(h1:0<n1∧n1<32)(h2:0<n2∧n2<32)(h3:0<n3∧n3<32):cj Tryz.prog 269 [Wd x,.int .i64 (n1:Int),.int .i64 (n2:Int),.int .i64 (n3:Int)] [] [] (fun v_ X_ S_=>v_=(Wd (turns n1 n2 n3 x))∧X_=[]∧S_=[]):=by
 refine aU (N:=23) Tryz.func269 rfl rfl (by simp) fun b=> ?_
 refine ah<|aj<|hy (fun _=>ab rfl)<|ai<|ag<|ah<|aj<|hy (fun _=>aa rfl)<|hy (fun _=>aa rfl)<|hy (fun _=>ue rfl (bB (by omega) (by omega)))<| ?_
 refine hx (aq rfl Tryz.call296 (tg h1.1 h1.2 (n:=n1)) [] rfl [] rfl ?_)
 rintro _ _ _ ⟨rfl,rfl,rfl⟩
 refine hy (fun _=>aa rfl)<|hy (fun _=>aa rfl)<|hy (fun _=>ue rfl (bB (by omega) (by omega)))<| ?_
 refine hx (aq rfl Tryz.call296 (tg h2.1 h2.2 (n:=n2)) [] rfl [] rfl ?_)
 rintro _ _ _ ⟨rfl,rfl,rfl⟩
 refine hy (fun _=>ee rfl rfl)<|hy (fun _=>aa rfl)<|hy (fun _=>aa rfl)<|hy (fun _=>ue rfl (bB (by omega) (by omega)))<| ?_
 refine hx (aq rfl Tryz.call296 (tg h3.1 h3.2 (n:=n3)) [] rfl [] rfl ?_)
 rintro _ _ _ ⟨rfl,rfl,rfl⟩
 refine hy (fun _=>ee rfl rfl)<|hy (fun _=>ab rfl)<|ai<|al (ρ' :=[(8,_),(0,_),(1,_),(2,_),(3,_)]) ⟨rfl,rfl,rfl,rfl,rfl,trivial⟩<|ak (X' :=[]) (S' :=[]) (fun _ m=>m)<|ag<|aQ<| ?_
 exact bd trivial rfl rfl [] rfl [] rfl ⟨rfl,rfl,rfl⟩
theorem lM{a:List UInt32}{i k n:Nat}(ha:a.length=i)(hk:k<i):(ea (a++List.replicate n 0))[k]? =some (Wd (a.getD k 0)):=by
 rw[bg (by simp;omega)]
 simp[List.getD,List.getElem?_append_left (show k<a.length by omega)]
theorem zL{a r:List UInt32}{i:Nat}{x:UInt32}(ha:a.length=i):(ea (a++x::r))[i]? =some (Wd x):=by
 subst ha
 simp[ea]
theorem uv{a r:List UInt32}{i:Nat}{x y:UInt32}(ha:a.length=i):(ea (a++x::r)).set i (Wd y)=ea (a++y::r):=by
 subst ha
 simp[ea,List.set_append]
theorem tQ{a r:List UInt32}{y:UInt32}:a++y::r=(a++[y])++r:=by simp
theorem BG{A:Option Addr}{c:Nat}{l:List UInt8}(hc:64≤c):cj Tryz.prog 268 [.slice A 64 c] [] [dw 1 A 64 (aK l)] (fun v_ X_ S_=>v_=(.agg (ea (wl l 64)).toArray)∧X_=[]∧S_=[]):=by
 refine aU (N:=75) Tryz.func268 rfl rfl (by simp) fun b=> ?_
 refine ba (fun m=>fG (m.rd 0 rfl)) ?_
 rintro⟨hl_r,hA_r⟩
 have hl:l.length=64:=hl_r
 refine ah<|aj<| ?_
 refine hx (aJ xh (fun g2=> ?_))
 refine ai<|ak (X' :=[_]) (S' :=[_]) (fun _ m=>m)<|ag<|ah<|aj<| ?_
 refine hx (aJ xh (fun g3=> ?_))
 refine aV (fun w m=>m.bQ 0 rfl (show _=aH g3 354 (ea (wl l 0++List.replicate (64-0) 0))from rfl)) ?_
 refine ai<|ak (X' :=[_,_]) (S' :=[_]) (fun _ m=>m)<|ag<|ah<|ah<|aj<|hy (fun _=>aa rfl)<|ai<|ag<|aN<| ?_
 refine dA (fun i=>64-i) (fun i=>[(9,.int .i64 (i:Nat))]) (fun i=>[aH g3 354 (ea (wl l i++List.replicate (64-i) 0))]) (fun i=>[]) (fun i=>i≤64) 0 [(3,_),(2,_),(0,_)] ⟨rfl,rfl,rfl,trivial⟩ [0] rfl [] rfl (Nat.zero_le _) ⟨rfl,trivial⟩ (fun i hI=> ?_)
 have hwl:=fp l i
 refine ah<|aj<|hy (fun _=>bk rfl rfl)<|ai<|ag<|ah<| ?_
 refine cI rfl (fun h=> ?_) (fun h=> ?_)
 ·have hr64:(List.replicate (64-i) (0:UInt32))=0::List.replicate (63-i) 0:=by rw[show 64-i=(63-i)+1 by omega,List.replicate_succ]
  have hr63:(64-(i+1))=63-i:=by omega
  refine aC<|ag<|ah<|aN<|ah<|aj<|hy (fun _=>aa rfl)<|hy (fun _=>ab rfl)<|ai<|al (ρ' :=[(4,_),(10,_),(9,_),(3,_),(2,_),(0,_)]) ⟨rfl,rfl,rfl,rfl,rfl,rfl,trivial⟩<|ag<|ah<|ah<|aj<|hy (fun _=>aa rfl)<|hy (fun _=>bk rfl rfl)<|ai<|al (ρ' :=[(13,_),(4,_),(10,_),(9,_),(3,_),(2,_),(0,_)]) ⟨rfl,rfl,rfl,rfl,rfl,rfl,rfl,trivial⟩<|ag<| ?_
  refine cI rfl (fun h16=> ?_) (fun h16=> ?_)
  ·have hws:wl l (i+1)=wl l i++[lY l (4*i)]:=by rw[wl,if_pos (by omega)]
   refine bD (fun w m=>m.lq 0 rfl (View.sub (k:=4*i) (m:=4) hc (by omega))) ?_
   refine ba (fun m=>fG (m.rd 0 rfl)) ?_
   rintro⟨hl_r4,hA_r4⟩
   refine ah<|ah<|aj<|hy (fun _=>aa rfl)<|hy (fun _=>aa rfl)<|hy (fun _=>fv rfl rfl (bB (by omega) (by omega)))<|hy (fun _=>aa rfl)<|hy (fun _=>fv rfl rfl (bB (by omega) (by omega)))<|hy (fun _=>aM rfl rfl (bB (by omega) (by omega)))<|hy (fun _=>yV (en rfl rfl rfl Tryz.underlying27 dE (show((4*i:Nat):Int)=_ by omega) (show((4*i+4:Nat):Int)=_ by omega) (by omega) (by omega)) ((show Value.slice (if c=4*i then A else A.map (·.add (4*i*1))) (4*i+4-4*i) (c-4*i)= .slice (if c=4*i then A else A.map (·.add (4*i*1))) 4 (c-4*i) by rw[Nat.add_sub_cancel_left])))<|hy (fun _=>aX rfl Tryz.underlying27)<|hy (fun _=>aa rfl)<|ai<|al (ρ' :=[(22,_),(21,_),(20,_),(13,_),(4,_),(10,_),(9,_),(3,_),(2,_),(0,_)]) ⟨rfl,rfl,rfl,rfl,rfl,rfl,rfl,rfl,rfl,rfl,trivial⟩<|ag<|aN<| ?_
   refine bD (fun w m=>m.bQ 0 rfl (show _=aH g3 354 (ea (wl l i++UInt32.ofNat (wp l (4*i) 0)::List.replicate (63-i) 0))from by rw[hr64];rfl)) ?_
   refine dA (fun j=>4-j) (fun j=>[(22,.int .i64 (j:Nat))]) (fun j=>[aH g3 354 (ea (wl l i++UInt32.ofNat (wp l (4*i) j)::List.replicate (63-i) 0))]) (fun j=>[]) (fun j=>j≤4) 0 [(21,_),(20,_),(13,_),(4,_),(10,_),(9,_),(3,_),(2,_),(0,_)] ⟨rfl,rfl,rfl,rfl,rfl,rfl,rfl,rfl,rfl,trivial⟩ [0] rfl [] rfl (Nat.zero_le _) ⟨rfl,trivial⟩ (fun j hj4=> ?_)
   refine ah<|aj<|hy (fun _=>bk rfl rfl)<|ai<|ag<|ah<| ?_
   refine cI rfl (fun hj=> ?_) (fun hj=> ?_)
   ·have hgl:((l.drop (4*i)).take 4).getD j 0=l.getD (4*i+j) 0:=by
     simp[List.getD,List.getElem?_take,List.getElem?_drop,show j<4 by omega]
    refine aC<|ag<|ah<|aN<|ah<|aj<|hy (fun _=>aL rfl rfl Tryz.underlying27 dE hA_r4 rfl (by omega))<|hy (fun m=>av rfl iy ((m.rd 0 rfl).cell (bC (by omega))))<|hy (fun _=>ab rfl)<|ai<|al (ρ' :=[(6,_),(23,_),(22,_),(21,_),(20,_),(13,_),(4,_),(10,_),(9,_),(3,_),(2,_),(0,_)]) ⟨rfl,rfl,rfl,rfl,rfl,rfl,rfl,rfl,rfl,rfl,rfl,rfl,trivial⟩<|ag<|aj<|hy (fun _=>aa rfl)<|hy (fun _=>aa rfl)<|hy (fun _=>bV rfl rfl Tryz.underlying354 bL rfl (by omega))<|hy (fun m=>av rfl bU ((m.aT 0 rfl).au i _ (zL hwl)))<|hy (fun _=>Az (k:=8) (b:=256) (by decide) rfl rfl rfl)<|hy (fun _=>aa rfl)<|hy (fun _=>xa rfl Tryz.underlying5 Tryz.underlying166)<|hy (fun _=>yV (A0 rfl rfl) ((show Wd ((UInt32.ofNat (wp l (4*i) j)*256) ||| (((l.drop (4*i)).take 4).getD j 0).toUInt32)=Wd (UInt32.ofNat (wp l (4*i) (j+1))) by rw[hgl,AT (by omega)])))<|hy (fun _=>bV rfl rfl Tryz.underlying354 bL rfl (by omega))<| ?_
    refine cN (ct 0 rfl rfl rfl bL rfl (by rw[bs];simp only[List.length_append,List.length_cons,List.length_replicate,hwl];omega) ?_)
    refine ai<|al (ρ' :=[(6,_),(23,_),(22,_),(21,_),(20,_),(13,_),(4,_),(10,_),(9,_),(3,_),(2,_),(0,_)]) ⟨rfl,rfl,rfl,rfl,rfl,rfl,rfl,rfl,rfl,rfl,rfl,rfl,trivial⟩<|ak (X' :=[_,_]) (S' :=[_,_]) (fun _ m=>m)<|aW<|ag<|aj<|hy (fun _=>aM rfl rfl (bB (by omega) (by omega)))<|hy (fun _=>aa rfl)<|ai<|al (ρ' :=[(22,_),(6,_),(23,_),(21,_),(20,_),(13,_),(4,_),(10,_),(9,_),(3,_),(2,_),(0,_)]) ⟨rfl,rfl,rfl,rfl,rfl,rfl,rfl,rfl,rfl,rfl,rfl,rfl,trivial⟩<| ?_
    refine ak (fun w m=>m.bQ 0 rfl (show _=aH g3 354 (ea (wl l i++UInt32.ofNat (wp l (4*i) (j+1))::List.replicate (63-i) 0))from by rw[Nat.zero_add,uv hwl])) ?_
    refine cS (j+1) ⟨rfl,rfl,rfl,rfl,rfl,rfl,rfl,rfl,rfl,rfl,trivial⟩ [0,0] rfl [0,1] rfl (by omega) (by omega)
   ·obtain rfl:j=4:=by omega
    refine bS<|ar<|ar<|aE<|ag<|bS<|ar<|aE<|ag<|aj<|hy (fun _=>aM rfl rfl (bB (by omega) (by omega)))<|hy (fun _=>aa rfl)<|ai<|al (ρ' :=[(9,_),(23,_),(22,_),(21,_),(20,_),(13,_),(4,_),(10,_),(3,_),(2,_),(0,_)]) ⟨rfl,rfl,rfl,rfl,rfl,rfl,rfl,rfl,rfl,rfl,rfl,trivial⟩<| ?_
    refine ak (fun w m=>m.bQ 0 rfl (show _=aH g3 354 (ea (wl l (i+1)++List.replicate (64-(i+1)) 0))from by rw[zZ,tQ,hws,hr63])) ?_
    refine cS (i+1) ⟨rfl,rfl,rfl,rfl,trivial⟩ [0,0] rfl [1] rfl (by omega) (by omega)
  ·have hws:wl l (i+1)=wl l i++[p4 (wl l i) i]:=by rw[wl,if_neg (by omega)]
   refine aC<|ag<|ah<|cV [] [(0,some 0),(1,some 0),(2,some 0),(3,some 0),(4,some 0),(5,some 0),(6,some 0),(7,some 0),(8,some 0),(9,some 0)] (by kernel_rfl) (by kernel_rfl) rfl 99<|an (aa rfl)<|an (b6 rfl rfl (bB (by omega) (by omega)))<|an (bV rfl rfl Tryz.underlying354 bL (show((i-15:Nat):Int)=_ by omega) (by omega))<|cn (fun m=>av rfl bU ((m.aT 0 rfl).au (i-15) _ (lM hwl (by omega))))<|an (aa rfl)<|an (b6 rfl rfl (bB (by omega) (by omega)))<|an (bV rfl rfl Tryz.underlying354 bL (show((i-2:Nat):Int)=_ by omega) (by omega))<|cn (fun m=>av rfl bU ((m.aT 0 rfl).au (i-2) _ (lM hwl (by omega))))<|an (ab rfl)<|an (ab rfl)<|bE<|al (ρ' :=[(8,_),(7,_),(13,_),(4,_),(10,_),(9,_),(3,_),(2,_),(0,_)]) ⟨rfl,rfl,rfl,rfl,rfl,rfl,rfl,rfl,rfl,trivial⟩<|ag<|cV [6,8,20,22,29] [(0,some 4),(1,some 4),(2,some 4),(3,some 4),(4,some 4),(5,some 0),(7,some 1),(10,some 4),(11,some 4),(14,some 4),(15,some 4),(16,some 4),(17,some 4),(19,some 2),(21,some 3),(24,some 4),(25,some 4),(6,none),(8,none),(9,some 4),(12,some 4),(13,some 4),(18,some 4),(20,none),(22,none),(23,some 4),(26,some 4),(27,some 4),(28,some 4),(29,none)] (by kernel_rfl) (by kernel_rfl) rfl 4<|an (aa rfl)<|an (aa rfl)<|an (b6 rfl rfl (bB (by omega) (by omega)))<|an (bV rfl rfl Tryz.underlying354 bL (show((i-16:Nat):Int)=_ by omega) (by omega))<|cn (fun m=>av rfl bU ((m.aT 0 rfl).au (i-16) _ (lM hwl (by omega))))<|an (aa rfl)<|an (aa rfl)<|an (aa rfl)<|an (lN (k:=3) (b:=8) (by decide) rfl rfl rfl)<|an (aa rfl)<|an (b6 rfl rfl (bB (by omega) (by omega)))<|an (bV rfl rfl Tryz.underlying354 bL (show((i-7:Nat):Int)=_ by omega) (by omega))<|cn (fun m=>av rfl bU ((m.aT 0 rfl).au (i-7) _ (lM hwl (by omega))))<|an (aa rfl)<|an (aa rfl)<|an (aa rfl)<|an (lN (k:=10) (b:=1024) (by decide) rfl rfl rfl)<| ?_
   refine eK (aq rfl Tryz.call296 (tg (by decide) (by decide) (n:=7)) [] rfl [] rfl ?_)
   rintro _ _ _ ⟨rfl,rfl,rfl⟩
   refine⟨(fun _=>wk [0,0] [0] rfl rfl), ?_⟩
   refine eK (aq rfl Tryz.call296 (tg (by decide) (by decide) (n:=18)) [] rfl [] rfl ?_)
   rintro _ _ _ ⟨rfl,rfl,rfl⟩
   refine⟨(fun _=>wk [0,0] [0] rfl rfl), ?_⟩
   refine an (ee rfl rfl)<|an (ee rfl rfl)<|an (dr rfl rfl)<|an (dr rfl rfl)<| ?_
   refine eK (aq rfl Tryz.call296 (tg (by decide) (by decide) (n:=17)) [] rfl [] rfl ?_)
   rintro _ _ _ ⟨rfl,rfl,rfl⟩
   refine⟨(fun _=>wk [0,0] [0] rfl rfl), ?_⟩
   refine eK (aq rfl Tryz.call296 (tg (by decide) (by decide) (n:=19)) [] rfl [] rfl ?_)
   rintro _ _ _ ⟨rfl,rfl,rfl⟩
   refine⟨(fun _=>wk [0,0] [0] rfl rfl), ?_⟩
   refine an (ee rfl rfl)<|an (ee rfl rfl)<|an (yV (dr rfl rfl) ((rfl:_=Wd (p4 (wl l i) i))))<|an (bV rfl rfl Tryz.underlying354 bL rfl (by omega))<| ?_
   refine ja (ct 0 rfl rfl rfl bL rfl (by rw[bs];simp only[List.length_append,List.length_replicate,hwl];omega) ⟨(fun h=>absurd h (by decide)), ?_⟩)
   refine bE<|al (ρ' :=[(8,_),(7,_),(13,_),(4,_),(10,_),(9,_),(3,_),(2,_),(0,_)]) ⟨rfl,rfl,rfl,rfl,rfl,rfl,rfl,rfl,rfl,trivial⟩<|ak (X' :=[_,_]) (S' :=[_]) (fun _ m=>m)<|aW<|ag<|aj<|hy (fun _=>aM rfl rfl (bB (by omega) (by omega)))<|hy (fun _=>aa rfl)<|ai<|al (ρ' :=[(9,_),(8,_),(7,_),(13,_),(4,_),(10,_),(3,_),(2,_),(0,_)]) ⟨rfl,rfl,rfl,rfl,rfl,rfl,rfl,rfl,rfl,trivial⟩<| ?_
   refine ak (fun w m=>m.bQ 0 rfl (show _=aH g3 354 (ea (wl l (i+1)++List.replicate (64-(i+1)) 0))from by rw[Nat.zero_add,hr64,uv hwl,tQ,hws,hr63])) ?_
   refine cS (i+1) ⟨rfl,rfl,rfl,rfl,trivial⟩ [0,0] rfl [0] rfl (by omega) (by omega)
 ·obtain rfl:i=64:=by omega
  refine bD (fun w m=>m.bQ 0 rfl (show _=aH g3 354 (ea (wl l 64))from by rw[Nat.sub_self];simp)) ?_
  refine bS<|ar<|ar<|aE<|ag<|ah<|aj<|hy (fun m=>yV (aR rfl A7 uq (by rw[bs,fp]) ((m.aT 0 rfl).au)) ((rfl:_=Value.agg (ea (wl l 64)).toArray)))<| ?_
  refine cN (aG 1 rfl rfl rfl uq (by rw[bs,fp]) gO rfl ?_)
  refine ai<|al (ρ' :=[(10,_),(9,_),(3,_),(2,_),(0,_)]) ⟨rfl,rfl,rfl,rfl,rfl,trivial⟩<|ak (X' :=[_,_]) (S' :=[_]) (fun _ m=>m)<|ag<|aQ<| ?_
  exact gw trivial rfl rfl A7 uq (by rw[bs,fp]) (fun m=>(m.aT 0 rfl).au) [] rfl [] rfl ⟨rfl,rfl,rfl⟩
theorem sj(v h:List UInt32)(i:Nat):(fU v h i).length=v.length:=by simp[fU]
theorem EX{A:Option Addr}{c:Nat}{l:List UInt8}{h:List UInt32}(hc:64≤c)(hh:h.length=8):cj Tryz.prog 227 [.agg (ea h).toArray,.slice A 64 c] [] [dw 1 A 64 (aK l),eU] (fun v_ X_ S_=>v_=(.agg (ea (eS h l)).toArray)∧X_=[]∧S_=[]):=by
 refine aU (N:=99) Tryz.func227 rfl rfl (by simp) fun b=> ?_
 refine ba (fun m=>fG (m.rd 0 rfl)) ?_
 rintro⟨hl_r,hA_r⟩
 refine ah<|aj<| ?_
 refine hx (cp rfl (fun g2=> ?_))
 refine aV (fun w m=>m.bQ 0 rfl (show _=aH g2 306 (ea h)from congrArg (aH _ _) (bq _))) ?_
 refine hx (aJ uc (fun g4=> ?_))
 refine ai<|ak (X' :=[_,_]) (S' :=[_,_]) (fun _ m=>m)<|ag<|ah<|aj<|hy (fun _=>aa rfl)<| ?_
 refine hx (aq rfl Tryz.call268 (BG (by omega)) [] rfl [0] rfl ?_)
 rintro _ _ _ ⟨rfl,rfl,rfl⟩
 obtain⟨W,hW⟩:∃W,wl l 64=W:=⟨_,rfl⟩
 have hw64:W.length=64:=by rw[←hW];exact fp l 64
 rw[hW]
 refine hx (aJ xh (fun g5=> ?_))
 refine cN (aG 0 rfl rfl rfl uq (by rw[bs,hw64]) gO rfl ?_)
 refine ai<|al (ρ' :=[(5,_),(4,_),(2,_),(0,_),(1,_)]) ⟨rfl,rfl,rfl,rfl,rfl,trivial⟩<|ak (X' :=[_,_,_]) (S' :=[_,_]) (fun _ m=>m)<|ag<|ah<|aj<|hy (fun m=>yV (aR rfl pz kG (by rw[bs,hh]) ((m.aT 2 rfl).au)) ((rfl:_=Value.agg (ea h).toArray)))<| ?_
 refine hx (aJ uc (fun g6=> ?_))
 refine cN (aG 0 rfl rfl rfl kG (by rw[bs,hh]) gO rfl ?_)
 refine ai<|al (ρ' :=[(6,_),(5,_),(4,_),(2,_),(0,_),(1,_)]) ⟨rfl,rfl,rfl,rfl,rfl,rfl,trivial⟩<|ak (X' :=[_,_,_,_]) (S' :=[_,_]) (fun _ m=>m)<|ag<|ah<|ah<|aj<|hy (fun _=>aa rfl)<|ai<|ag<|aN<| ?_
 refine dA (fun i=>64-i) (fun i=>[(16,.int .i64 (i:Nat))]) (fun i=>[aH g6 306 (ea (mE W h i))]) (fun i=>[]) (fun i=>i≤64) 0 [(6,_),(5,_),(4,_),(2,_),(0,_),(1,_)] ⟨rfl,rfl,rfl,rfl,rfl,rfl,trivial⟩ [0] rfl [] rfl (Nat.zero_le _) ⟨rfl,trivial⟩ (fun i hI=> ?_)
 have hv:=jP (w:=W) hh i
 have hro:gC.length=64:=rfl
 refine ah<|aj<|hy (fun _=>bk rfl rfl)<|ai<|ag<|ah<| ?_
 refine cI rfl (fun hlt=> ?_) (fun hlt=> ?_)
 ·generalize hvd:mE W h i=v at hv ⊢
  refine aC<|ag<|ah<|aN<|ah<|aj<|hy (fun _=>aa rfl)<|hy (fun _=>ab rfl)<|ai<|al (ρ' :=[(7,_),(17,_),(16,_),(6,_),(5,_),(4,_),(2,_),(0,_),(1,_)]) ⟨rfl,rfl,rfl,rfl,rfl,rfl,rfl,rfl,rfl,trivial⟩<|ag<|ah<|cV [] [(0,some 0),(1,some 0),(2,some 0),(3,some 0),(4,some 0),(5,some 0)] (by kernel_rfl) (by kernel_rfl) rfl 99<|an (bV rfl rfl Tryz.underlying306 bL (show((4:Nat):Int)=4 from rfl) (by omega))<|cn (fun m=>av rfl bU ((m.aT 0 rfl).au 4 _ (bg (by omega))))<|an (bV rfl rfl Tryz.underlying306 bL (show((0:Nat):Int)=0 from rfl) (by omega))<|cn (fun m=>av rfl bU ((m.aT 0 rfl).au 0 _ (bg (by omega))))<|an (ab rfl)<|an (ab rfl)<|bE<|al (ρ' :=[(9,_),(8,_),(7,_),(17,_),(16,_),(6,_),(5,_),(4,_),(2,_),(0,_),(1,_)]) ⟨rfl,rfl,rfl,rfl,rfl,rfl,rfl,rfl,rfl,rfl,rfl,trivial⟩<|ag<|ah<|cV [3] [(0,some 1),(1,some 1),(2,some 0),(5,some 1),(6,some 1),(7,some 1),(8,some 1),(9,some 1),(10,some 1),(11,some 1),(12,some 1),(13,some 1),(14,some 1),(16,some 1),(17,some 1),(18,some 1),(20,some 1),(21,some 1),(22,some 1),(3,none),(4,some 1),(15,some 1),(19,some 1),(23,some 1),(24,some 1)] (by kernel_rfl) (by kernel_rfl) rfl 99<|an (bV rfl rfl Tryz.underlying306 bL (show((7:Nat):Int)=7 from rfl) (by omega))<|cn (fun m=>av rfl bU ((m.aT 0 rfl).au 7 _ (bg (by omega))))<|an (aa rfl)<|an (aa rfl)<|an (bV rfl rfl Tryz.underlying306 bL (show((5:Nat):Int)=5 from rfl) (by omega))<|cn (fun m=>av rfl bU ((m.aT 0 rfl).au 5 _ (bg (by omega))))<|an (iY rfl rfl)<|an (aa rfl)<|an (Cg rfl)<|an (bV rfl rfl Tryz.underlying306 bL (show((6:Nat):Int)=6 from rfl) (by omega))<|cn (fun m=>av rfl bU ((m.aT 0 rfl).au 6 _ (bg (by omega))))<|an (iY rfl rfl)<|an (ee rfl rfl)<|an (aa rfl)<|an (bV rfl rfl Tryz.underlying354 bL rfl (by omega))<|cn (fun m=>av rfl bU ((show Rd _ 1 _ 64 (ea gC)from m.Eu 1 rfl).cell (j:=i) (bg (by omega))))<|an (aa rfl)<|an (bV rfl rfl Tryz.underlying354 bL rfl (by omega))<|cn (fun m=>av rfl bU ((m.aT 1 rfl).au i _ (bg (by omega))))<| ?_
  refine eK (aq rfl Tryz.call269 (tX (by decide) (by decide) (by decide) (n1:=6) (n2:=11) (n3:=25)) [] rfl [] rfl ?_)
  rintro _ _ _ ⟨rfl,rfl,rfl⟩
  refine⟨(fun _=>wk [0,0,0,0] [0,1] rfl rfl), ?_⟩
  refine an (dr rfl rfl)<|an (dr rfl rfl)<|an (dr rfl rfl)<| ?_
  generalize hk:gC.getD i 0=k
  refine an (yV (dr rfl rfl) ((rfl:_=Wd (rt v k (W.getD i 0)))))<|an (ab rfl)<|bE<|al (ρ' :=[(10,_),(9,_),(8,_),(7,_),(17,_),(16,_),(6,_),(5,_),(4,_),(2,_),(0,_),(1,_)]) ⟨rfl,rfl,rfl,rfl,rfl,rfl,rfl,rfl,rfl,rfl,rfl,rfl,trivial⟩<|ak (X' :=[_,_,_,_]) (S' :=[_,_]) (fun _ m=>m)<|ag<|ah<|cV [1] [(0,some 0),(2,some 1),(3,some 1),(4,some 1),(5,some 1),(6,some 1),(7,some 1),(8,some 1),(9,some 1),(10,some 1),(11,some 1),(12,some 1),(13,some 1),(14,some 1),(15,some 1),(16,some 1),(1,none),(17,some 1),(18,some 1)] (by kernel_rfl) (by kernel_rfl) rfl 99<|an (aa rfl)<|an (aa rfl)<|an (bV rfl rfl Tryz.underlying306 bL (show((1:Nat):Int)=1 from rfl) (by omega))<|cn (fun m=>av rfl bU ((m.aT 0 rfl).au 1 _ (bg (by omega))))<|an (iY rfl rfl)<|an (aa rfl)<|an (bV rfl rfl Tryz.underlying306 bL (show((2:Nat):Int)=2 from rfl) (by omega))<|cn (fun m=>av rfl bU ((m.aT 0 rfl).au 2 _ (bg (by omega))))<|an (iY rfl rfl)<|an (ee rfl rfl)<|an (bV rfl rfl Tryz.underlying306 bL (show((1:Nat):Int)=1 from rfl) (by omega))<|cn (fun m=>av rfl bU ((m.aT 0 rfl).au 1 _ (bg (by omega))))<|an (bV rfl rfl Tryz.underlying306 bL (show((2:Nat):Int)=2 from rfl) (by omega))<|cn (fun m=>av rfl bU ((m.aT 0 rfl).au 2 _ (bg (by omega))))<|an (iY rfl rfl)<|an (ee rfl rfl)<| ?_
  refine eK (aq rfl Tryz.call269 (tX (by decide) (by decide) (by decide) (n1:=2) (n2:=13) (n3:=22)) [] rfl [] rfl ?_)
  rintro _ _ _ ⟨rfl,rfl,rfl⟩
  refine⟨(fun _=>wk [0,0,0,0] [0,1] rfl rfl), ?_⟩
  refine an (yV (dr rfl rfl) ((rfl:_=Wd (ru v))))<|an (ab rfl)<|bE<|al (ρ' :=[(11,_),(10,_),(9,_),(8,_),(7,_),(17,_),(16,_),(6,_),(5,_),(4,_),(2,_),(0,_),(1,_)]) ⟨rfl,rfl,rfl,rfl,rfl,rfl,rfl,rfl,rfl,rfl,rfl,rfl,rfl,trivial⟩<|ak (X' :=[_,_,_,_]) (S' :=[_,_]) (fun _ m=>m)<|ag<|aj<|hy (fun _=>aa rfl)<|hy (fun _=>aa rfl)<|hy (fun _=>dr rfl rfl)<|hy (fun _=>bV rfl rfl Tryz.underlying306 bL (show((0:Nat):Int)=0 from rfl) (by omega))<|hy (fun m=>av rfl bU ((m.aT 0 rfl).au 0 _ (bg (by omega))))<|hy (fun _=>bV rfl rfl Tryz.underlying306 bL (show((1:Nat):Int)=1 from rfl) (by omega))<|hy (fun m=>av rfl bU ((m.aT 0 rfl).au 1 _ (bg (by omega))))<|hy (fun _=>bV rfl rfl Tryz.underlying306 bL (show((2:Nat):Int)=2 from rfl) (by omega))<|hy (fun m=>av rfl bU ((m.aT 0 rfl).au 2 _ (bg (by omega))))<|hy (fun _=>bV rfl rfl Tryz.underlying306 bL (show((3:Nat):Int)=3 from rfl) (by omega))<|hy (fun m=>av rfl bU ((m.aT 0 rfl).au 3 _ (bg (by omega))))<|hy (fun _=>aa rfl)<|hy (fun _=>dr rfl rfl)<|hy (fun _=>bV rfl rfl Tryz.underlying306 bL (show((4:Nat):Int)=4 from rfl) (by omega))<|hy (fun m=>av rfl bU ((m.aT 0 rfl).au 4 _ (bg (by omega))))<|hy (fun _=>bV rfl rfl Tryz.underlying306 bL (show((5:Nat):Int)=5 from rfl) (by omega))<|hy (fun m=>av rfl bU ((m.aT 0 rfl).au 5 _ (bg (by omega))))<|hy (fun _=>bV rfl rfl Tryz.underlying306 bL (show((6:Nat):Int)=6 from rfl) (by omega))<|hy (fun m=>av rfl bU ((m.aT 0 rfl).au 6 _ (bg (by omega))))<|hy (fun _=>yV (rr (n:=8) uc (by kernel_rfl) rfl (by kernel_rfl) rfl (by kernel_rfl) (by kernel_rfl) (pr (l:=[_,_,_,_,_,_,_,_]))) ((rfl:_=Value.agg (ea (E2 v k (W.getD i 0))).toArray)))<| ?_
  refine cN (aG 0 rfl rfl rfl kG rfl gO (by rw[bs,hv]) ?_)
  refine ai<|al (ρ' :=[(11,_),(10,_),(9,_),(8,_),(7,_),(17,_),(16,_),(6,_),(5,_),(4,_),(2,_),(0,_),(1,_)]) ⟨rfl,rfl,rfl,rfl,rfl,rfl,rfl,rfl,rfl,rfl,rfl,rfl,rfl,trivial⟩<|ak (X' :=[_,_,_,_]) (S' :=[_,_]) (fun _ m=>m)<|aW<|ag<|aj<|hy (fun _=>aM rfl rfl (bB (by omega) (by omega)))<|hy (fun _=>aa rfl)<|ai<|al (ρ' :=[(16,_),(11,_),(10,_),(9,_),(8,_),(7,_),(17,_),(6,_),(5,_),(4,_),(2,_),(0,_),(1,_)]) ⟨rfl,rfl,rfl,rfl,rfl,rfl,rfl,rfl,rfl,rfl,rfl,rfl,rfl,trivial⟩<| ?_
  refine ak (fun w m=>m.bQ 0 rfl (show _=aH g6 306 (ea (mE W h (i+1)))from by rw[←hvd,←hk];rfl)) ?_
  refine cS (i+1) ⟨rfl,rfl,rfl,rfl,rfl,rfl,rfl,trivial⟩ [0,0,0,0] rfl [0,1] rfl (by omega) (by omega)
 ·obtain rfl:i=64:=by omega
  generalize hvv:mE W h 64=v at hv ⊢
  refine bD (fun w m=>m.bQ 0 rfl (show _=aH g6 306 (ea (fU v h 0))from by rw[qa])) ?_
  refine bS<|ar<|ar<|aE<|ag<|ah<|ah<|aj<|hy (fun _=>aa rfl)<|ai<|ag<|aN<| ?_
  refine dA (fun j=>8-j) (fun j=>[(86,.int .i64 (j:Nat))]) (fun j=>[aH g6 306 (ea (fU v h j))]) (fun j=>[]) (fun j=>j≤8) 0 [(17,_),(16,_),(6,_),(5,_),(4,_),(2,_),(0,_),(1,_)] ⟨rfl,rfl,rfl,rfl,rfl,rfl,rfl,rfl,trivial⟩ [0] rfl [] rfl (Nat.zero_le _) ⟨rfl,trivial⟩ (fun j hj8=> ?_)
  have hsl:=sj v h j
  refine ah<|aj<|hy (fun _=>bk rfl rfl)<|ai<|ag<|ah<| ?_
  refine cI rfl (fun hj=> ?_) (fun hj=> ?_)
  ·refine aC<|ag<|ah<|aN<|ah<|aj<|hy (fun _=>aa rfl)<|hy (fun _=>ab rfl)<|ai<|al (ρ' :=[(12,_),(87,_),(86,_),(17,_),(16,_),(6,_),(5,_),(4,_),(2,_),(0,_),(1,_)]) ⟨rfl,rfl,rfl,rfl,rfl,rfl,rfl,rfl,rfl,rfl,rfl,trivial⟩<|ag<|cV [8] [(0,some 0),(1,some 0),(2,some 0),(3,some 0),(4,some 0),(5,some 0),(6,some 0),(7,some 0),(8,none)] (by kernel_rfl) (by kernel_rfl) rfl 0<|an (aa rfl)<|an (bV rfl rfl Tryz.underlying306 bL rfl (by omega))<|cn (fun m=>av rfl bU ((m.aT 0 rfl).au j _ (bg (by omega))))<|an (aa rfl)<|an (bV rfl rfl Tryz.underlying306 bL rfl (by omega))<|cn (fun m=>av rfl bU ((m.aT 3 rfl).au j _ (bg (by omega))))<|an (yV (dr rfl rfl) ((rfl:_=Wd (v_ (fU v h j) j+v_ h j))))<|an (bV rfl rfl Tryz.underlying306 bL rfl (by omega))<| ?_
   refine ja (ct 0 rfl rfl rfl bL rfl (by rw[bs];omega) ⟨(fun h=>absurd h (by decide)), ?_⟩)
   refine bE<|al (ρ' :=[(12,_),(87,_),(86,_),(17,_),(16,_),(6,_),(5,_),(4,_),(2,_),(0,_),(1,_)]) ⟨rfl,rfl,rfl,rfl,rfl,rfl,rfl,rfl,rfl,rfl,rfl,trivial⟩<|ak (X' :=[_,_,_,_]) (S' :=[_,_]) (fun _ m=>m)<|aW<|ag<|aj<|hy (fun _=>aM rfl rfl (bB (by omega) (by omega)))<|hy (fun _=>aa rfl)<|ai<|al (ρ' :=[(86,_),(12,_),(87,_),(17,_),(16,_),(6,_),(5,_),(4,_),(2,_),(0,_),(1,_)]) ⟨rfl,rfl,rfl,rfl,rfl,rfl,rfl,rfl,rfl,rfl,rfl,trivial⟩<| ?_
   refine ak (fun w m=>m.bQ 0 rfl (show _=aH g6 306 (ea (fU v h (j+1)))from by rw[Nat.zero_add,u9,pL (by omega)])) ?_
   refine cS (j+1) ⟨rfl,rfl,rfl,rfl,rfl,rfl,rfl,rfl,rfl,trivial⟩ [0,0,0,0] rfl [0,1] rfl (by omega) (by omega)
  ·obtain rfl:j=8:=by omega
   have hB:fU v h 8=eS h l:=by rw[eS,hW,hvv]
   rw[hB]
   have hbl:=iV hh l
   refine bS<|ar<|ar<|aE<|ag<|ah<|aj<|hy (fun m=>yV (aR rfl pz kG (by rw[bs,hbl]) ((m.aT 0 rfl).au)) ((rfl:_=Value.agg (ea (eS h l)).toArray)))<| ?_
   refine cN (aG 2 rfl rfl rfl kG (by rw[bs,hbl]) gO rfl ?_)
   refine ai<|al (ρ' :=[(87,_),(86,_),(17,_),(16,_),(6,_),(5,_),(4,_),(2,_),(0,_),(1,_)]) ⟨rfl,rfl,rfl,rfl,rfl,rfl,rfl,rfl,rfl,rfl,trivial⟩<|ak (X' :=[_,_,_,_]) (S' :=[_,_]) (fun _ m=>m)<|ag<|aQ<| ?_
   exact gw trivial rfl rfl pz kG (by rw[bs,hbl]) (fun m=>(m.aT 0 rfl).au) [] rfl [] rfl ⟨rfl,rfl,rfl⟩
end Go.Proofs.YtmibdabdlgmafaaGreatDoor
end
section
set_option maxRecDepth 100000
namespace Go.Proofs.YtmibdabdlgmafaaGreatDoor
open Go.Eng Go.Hx Go.ChangeShapes Go.WideShapes Go.ChangeAt Go.WideMaps Go.WideElems Go.RowKit
theorem Cy : Tryz.prog.globalNamed "lighterage/sha.roots" = some 1 := by kernel_rfl
theorem CU:(Tryz.prog.globals[1]?).map (·.type)=some 354:=by kernel_rfl
theorem tj:(Rows.laid_lighterage_sha_roots:DataW Unit)= .agg (gC.map fun x=>.lit (.int .u32 (x.toNat:Int))):=by kernel_rfl
theorem yS (os : Os) (args : Array Value) : laidMetH Tryz.prog [("lighterage/sha.roots", Rows.laid_lighterage_sha_roots)] ((World.doorLaid Tryz.prog 400 os).forCall (fun _ _ => 0) ⟨#[], args, []⟩).memory :=
  laidMetH_of_parts3 (fuel:=8) (laidMet_of_run' 8 (by kernel_rfl) (by kernel_rfl)) (by kernel_rfl) (by kernel_rfl)
theorem pg {W : World} (h : laidMetH Tryz.prog [("lighterage/sha.roots", Rows.laid_lighterage_sha_roots)] W) : eU.holds W := by
  rw[MakeChecks.laidMetH_plain _ _ _ (by kernel_rfl)]at h
  obtain⟨ps,⟨g0,t0,cs0,f0,p0,q0,hg0,ht0,hv0,hd0,_,_⟩,_,_⟩:=h
  obtain rfl:=Option.some.inj (Cy.symm.trans hg0)
  obtain rfl:=Option.some.inj (CU.symm.trans ht0)
  rw[tj]at hd0
  obtain⟨xs,m1,rfl,hx1,hlen,hn,hel⟩:=DataW.trod_array Tryz.underlying354 hd0
  have c3:Tryz.prog.cellsOf 166=1:=by kernel_rfl
  simp only[Prod.mk.injEq,DataW.agg.injEq]at hx1
  refine⟨by rw[bs];rfl,fun _=>by simp,fun j u hu=> ?_⟩
  have hj:j<64:=by
    obtain⟨h1,_⟩:=List.getElem?_eq_some_iff.1 hu
    rw[bs]at h1
    exact h1
  have h0:=hel j hj
  have hxj:(xs.map (·.1))[j]? =(gC.map fun x=>DataW.lit (Lit.int .u32 (x.toNat:Int)))[j]? :=by rw[←hx1.1]
  obtain⟨y,hy⟩:∃y,xs[j]? =some y:=⟨_,List.getElem?_eq_getElem (by omega)⟩
  rw[hy]at h0
  obtain⟨n,e1,e2,_⟩:=DataW.trod_int Tryz.underlying166 h0
  rw[List.getElem?_map,hy,List.getElem?_map]at hxj
  rw[ea,List.getElem?_map]at hu
  cases hr:gC[j]? with
  |none=>rw[hr]at hu;cases hu
  |some r=>
    rw[hr]at hu hxj
    rw[e2]at hxj
    have hn2:n=(r.toNat:Int):=by simpa using hxj
    have hu2:u= .int .u32 (r.toNat:Int):=by simpa using hu.symm
    have h5:=World.var?_cell hg0 hv0 j
    rw[c3,Nat.mul_one]at e1
    have h6:cs0[j]? =some (.int .u32 n):=by
      have h7:(List.take 1 (List.drop j cs0.toList))[0]? =some (.int .u32 n):=by rw[e1];rfl
      rw[List.getElem?_take,if_pos (by decide),List.getElem?_drop,Nat.add_zero]at h7
      simpa using h7
    show W.cell? ((Option.getD (some _) d0).add j)=some u
    rw[hu2,←hn2,←h6,←h5]
    have e:(⟨1,0,none⟩:Addr).add j=⟨1,j,none⟩:=by simp[Addr.add];omega
    exact congrArg W.cell? e
end Go.Proofs.YtmibdabdlgmafaaGreatDoor
end
section
namespace Go.Hx
open Go.Eng
abbrev cb:=Lib.compareBytes
theorem Ce(a b:UInt8):a<b∨a=b∨b<a:=by
 rcases Nat.lt_trichotomy a.toNat b.toNat with h|h|h
 ·exact .inl h
 ·exact .inr (.inl (UInt8.toNat_inj.1 h))
 ·exact .inr (.inr h)
theorem tR:∀a:List UInt8,cb a a=0
 | []=>rfl
 |x::a=>by simp[cb,Lib.compareBytes,UInt8.lt_irrefl];exact tR a
theorem kh(x y:UInt8)(a b:List UInt8):cb (x::a) (y::b)=if x<y then-1 else if y<x then 1 else cb a b:=rfl
theorem xJ{x y:UInt8}(h:x<y):¬y<x:=by
 have:x.toNat<y.toNat:=h
 intro h'
 have:y.toNat<x.toNat:=h'
 omega
theorem xR:∀(a b:List UInt8) (k:Nat),a.take k=b.take k→k<a.length→k<b.length→cb a b=if a.getD k 0<b.getD k 0 then-1 else if b.getD k 0<a.getD k 0 then 1 else cb (a.drop (k+1)) (b.drop (k+1))
 | [],b,k,_,h,_=>by simp at h
 |_::_,[],k,_,_,h=>by simp at h
 |x::a,y::b,0,_,_,_=>by rw[kh];simp
 |x::a,y::b,k+1,h,h1,h2=>by
  simp only[List.take_succ_cons,List.cons.injEq]at h
  obtain⟨rfl,h⟩:=h
  rw[kh]
  simp only[UInt8.lt_irrefl,if_false,List.getD_cons_succ,List.drop_succ_cons]
  exact xR a b k h (by simpa using h1) (by simpa using h2)
theorem Db{a b:List UInt8}{k:Nat}(h:a.take k=b.take k)(h1:k<a.length)(h2:k<b.length)(hlt:a.getD k 0<b.getD k 0):cb a b=-1:=by rw[xR a b k h h1 h2,if_pos hlt]
theorem C7{a b:List UInt8}{k:Nat}(h:a.take k=b.take k)(h1:k<a.length)(h2:k<b.length)(hlt:b.getD k 0<a.getD k 0):cb a b=1:=by rw[xR a b k h h1 h2,if_neg (xJ hlt),if_pos hlt]
theorem vZ{a b:List UInt8}{k:Nat}(h:a.take k=b.take k)(h1:k<a.length)(h2:k<b.length)(n1:¬a.getD k 0<b.getD k 0)(n2:¬b.getD k 0<a.getD k 0):a.take (k+1)=b.take (k+1):=by
 rw[ep h1,ep h2,h]
 rcases Ce (a.getD k 0) (b.getD k 0)with h|h|h
 ·exact absurd h n1
 ·rw[h]
 ·exact absurd h n2
theorem nM:∀i j:Nat,i<16→j<16→(jN.getD i 0<jN.getD j 0↔i<j):=by
 have:∀i,i<16→∀j,j<16→(jN.getD i 0<jN.getD j 0↔i<j):=by decide+kernel
 exact fun i j hi hj=>this i hi j hj
theorem uO:∀a b:List UInt8,cb (b8 a) (b8 b)=cb a b
 | [],[]=>rfl
 | [],y::b=>by simp[b8,o9,cb,Lib.compareBytes]
 |x::a,[]=>by simp[b8,o9,cb,Lib.compareBytes]
 |x::a,y::b=>by
  have e:∀(a:UInt8) (r:List UInt8),b8 (a::r)=jN.getD (a.toNat/16) 0::jN.getD (a.toNat % 16) 0::b8 r:=by intro a r;simp[b8,o9]
  have hx:=x.toNat_lt
  have hy:=y.toNat_lt
  rw[e,e,kh,kh,kh,uO a b]
  have l1:=nM (x.toNat/16) (y.toNat/16) (by omega) (by omega)
  have l2:=nM (y.toNat/16) (x.toNat/16) (by omega) (by omega)
  have l3:=nM (x.toNat % 16) (y.toNat % 16) (by omega) (by omega)
  have l4:=nM (y.toNat % 16) (x.toNat % 16) (by omega) (by omega)
  have m1:(x<y)↔x.toNat<y.toNat:=Iff.rfl
  have m2:(y<x)↔y.toNat<x.toNat:=Iff.rfl
  simp only[l1,l2,l3,l4,m1,m2]
  split
  ·rw[if_pos (by omega)]
  ·split
   ·rw[if_neg (by omega),if_pos (by omega)]
   ·split
    ·rw[if_pos (by omega)]
    ·split
     ·rw[if_neg (by omega),if_pos (by omega)]
     ·rw[if_neg (by omega),if_neg (by omega)]
end Go.Hx
end
section
set_option maxRecDepth 20000
namespace Go.Proofs.YtmibdabdlgmafaaGreatDoor
open Go.Eng Go.Hx
theorem Fc(A:Option Addr)(n c:Nat)(l:List UInt8)(m:Nat)(w:World)(hr:Rd w 1 A n (aK l))(hc:n≤c)(hn:n≤140737488351232):
  Calls Tryz.prog 32 #[.slice A n c,.int .i64 (m:Int)] w fun e w' =>∃v,e= .returned v∧Go.Eng.Own w' w.heap.size 5 1 v (min n m) (aK (l.take m))∧Fr No w w' :=by
 have hl:l.length=n:=by have:=hr.1;rw[ax]at this;omega
 have hrd:Rd w 1 A (min n m) (aK (l.take m)):=by
  have:=hr.take (k:=min n m) (by omega)
  have e:(aK l).take (min n m*1)=aK (l.take m):=by
   rw[aK,aK,←List.map_take,Nat.mul_one]
   congr 1
   by_cases h:m≤n
   ·congr 1;omega
   ·rw[List.take_of_length_le (by omega),List.take_of_length_le (by omega)]
  rw[e]at this
  exact this
 refine enter (N:=14) Tryz.func32 rfl rfl (by simp) ?_
 refine aP<|aZ<|nq (ab rfl)<|aY<|aD<|aP<|aZ<|nq (ab rfl)<|aY<|aD<|aP<|aZ<|nq (aa rfl)<|nq (aa rfl)<|nq (aa rfl)<|nq (aX rfl Tryz.underlying27)<|nq (aa rfl)<|nq (sF rfl rfl)<|nq (jA rfl rfl Tryz.underlying27 dE (show((min n m:Nat):Int)=_ by omega) ((by omega)))<| ?_
 refine nx (jJ rfl rfl Tryz.underlying27 Tryz.underlying27 (by exact .inl rfl) ey rfl (Own.nil w w.heap.size _ 1) (Src.bN hrd) aS (by unfold maxLen;omega) (by omega) (by omega) fun v w1 ho hf hv=> ?_)
 refine nq (ab rfl)<|aY<|br (ae (t:=4) rfl<|ae (t:=5) rfl<|ae (t:=0) rfl<|ae (t:=1) rfl<|aA)<|aD<|dK<| ?_
 refine eW trivial rfl rfl ⟨v,rfl, ?_,hf.mono (fun _ _ e=>e.elim)⟩
 simpa using ho
def iQ(n m:Int):Int:=(if n<0 then-(n+1)else n) % m
theorem vx(n m:Int)(hm:0<m):0≤iQ n m∧iQ n m<m:=⟨Int.emod_nonneg _ (by omega),Int.emod_lt_of_pos _ hm⟩
theorem xn(n m:Int)(w:World)(h1:-9223372036854775808≤n)(h2:n≤9223372036854775807)(hm:0<m):
  Calls Tryz.prog 16 #[.int .i64 n,.int .i64 m] w fun e w' =>e= .returned (.int .i64 (iQ n m))∧w=w' :=by
 refine enter (N:=13) Tryz.func16 rfl rfl (by simp) ?_
 refine aP<|aZ<|nq (ab rfl)<|aY<|aD<|aP<|aP<|aZ<|nq (aa rfl)<|nq (bk rfl rfl)<|aY<|br (ae (t:=6) rfl<|ae (t:=4) rfl<|ae (t:=0) rfl<|ae (t:=1) rfl<|aA)<|aD<| ?_
 refine lC rfl (fun h=> ?_) (fun h=> ?_)
 ·refine aZ<|nq (aa rfl)<|nq (aM rfl rfl (bB (by omega) (by omega)))<|nq (ue rfl (bB (by omega) (by omega)))<|nq (ab rfl)<|aY<|br (ae (t:=0) rfl<|ae (t:=6) rfl<|ae (t:=4) rfl<|ae (t:=1) rfl<|aA)<|aD<|aP<|aZ<|nq (aa rfl)<|nq (aa rfl)<|nq (gr rfl rfl (by omega) (by omega))<|nq (ab rfl)<|aY<|br (ae (t:=4) rfl<|ae (t:=0) rfl<|ae (t:=6) rfl<|ae (t:=1) rfl<|aA)<|aD<|dK<| ?_
  refine eW trivial rfl rfl ⟨?_,rfl⟩
  simp only[iQ,if_pos h]
 ·refine dy<|aD<|aP<|aZ<|nq (aa rfl)<|nq (aa rfl)<|nq (gr rfl rfl (by omega) (by omega))<|nq (ab rfl)<|aY<|br (ae (t:=4) rfl<|ae (t:=6) rfl<|ae (t:=0) rfl<|ae (t:=1) rfl<|aA)<|aD<|dK<| ?_
  refine eW trivial rfl rfl ⟨?_,rfl⟩
  simp only[iQ,if_neg h]
theorem wv(a b:List UInt8)(w:World)(ha:a.length=32)(hb:b.length=32):
  Calls Tryz.prog 171 #[.agg (aK a).toArray,.agg (aK b).toArray] w fun e w' =>e= .returned (.int .i64 (cb a b))∧Fr No w w' :=by
 refine enter (N:=24) Tryz.func171 rfl rfl (by simp) ?_
 refine aP<|aZ<| ?_
 refine nx (ox rfl fun g1 w1 hg1 hf1 hb1=> ?_)
 refine nx (ox rfl fun g2 w2 hg2 hf2 hb2=> ?_)
 rw[bq]at hb1 hb2
 refine nq (ab rfl)<|aY<|aD<|aP<|aP<|aZ<|nq (ab rfl)<|aY<|aD<|cJ<| ?_
 refine jS (fun k=>32-k) (fun k=>[(2,.pointer (some ⟨g1,0,none⟩)),(3,.pointer (some ⟨g2,0,none⟩)),(5,.int .i64 (k:Nat))]) (fun k w' =>k≤32∧a.take k=b.take k∧Fr No w2 w') 0 (⟨Nat.zero_le _,rfl,Fr.refl _ _⟩) (ae (t:=2) rfl<|ae (t:=3) rfl<|ae (t:=5) rfl<|aA) (fun k w3 ⟨hk,hab,hf3⟩=> ?_)
 refine aP<|aP<|aZ<|nq (aa rfl)<|nq (bk rfl rfl)<|aY<|br (ae (t:=7) rfl<|ae (t:=2) rfl<|ae (t:=3) rfl<|ae (t:=5) rfl<|aA)<|aD<| ?_
 refine lC rfl (fun h=> ?_) (fun h=> ?_)
 ·have hk2:k<32:=by omega
  have h1:∀w',Fr No w2 w' →eP w' g1 53 (aK a):=fun w' f=>(hb1.l9 hf2).l9 f
  have h2:∀w',Fr No w2 w' →eP w' g2 53 (aK b):=fun w' f=>hb2.l9 f
  have ga:=bC (l:=a) (i:=k) (by omega)
  have gb:=bC (l:=b) (i:=k) (by omega)
  refine dy<|aD<|aP<|cJ<|aP<|aP<| ?_
  refine xG [(0,false),(1,false),(2,false),(3,false),(4,false),(5,false),(6,false)] (by kernel_rfl) (by kernel_rfl) rfl (fun w' =>Fr No w2 w') (hf3.b9 (Fr.drew _)) (fun w4 hf4 hS4=> ?_)
  refine sq (fun w_ hS_=>aa rfl)<|sq (fun w_ hS_=>bV rfl rfl Tryz.underlying53 dE rfl (by omega))<|sq (fun w_ hS_=>av rfl iy (((h1 _ hS_).au _ _ ga)))<|sq (fun w_ hS_=>aa rfl)<|sq (fun w_ hS_=>bV rfl rfl Tryz.underlying53 dE rfl (by omega))<|sq (fun w_ hS_=>av rfl iy (((h2 _ hS_).au _ _ gb)))<|sq (fun w_ hS_=>bk rfl rfl)<|send<|br (ae (t:=16) rfl<|ae (t:=7) rfl<|ae (t:=2) rfl<|ae (t:=3) rfl<|ae (t:=5) rfl<|aA)<|aD<| ?_
  refine lC rfl (fun hlt=> ?_) (fun hlt=> ?_)
  ·refine aP<|aZ<|nq (ab rfl)<|aY<|aD<|dK<|bA<|cr<|bA<|bA<|cr<|bA<| ?_
   refine eW trivial rfl rfl ⟨?_,(hf1.b9 hf2).b9 hS4⟩
   rw[Db hab (by omega) (by omega) (show(a.getD k 0).toNat<(b.getD k 0).toNat by omega)]
  ·refine dy<|aD<|aP<| ?_
   refine xG [(0,false),(1,false),(2,false),(3,false),(4,false),(5,false),(6,false)] (by kernel_rfl) (by kernel_rfl) rfl (fun w' =>Fr No w2 w') (hS4.b9 (Fr.drew _)) (fun w5 hf5 hS5=> ?_)
   refine sq (fun w_ hS_=>aa rfl)<|sq (fun w_ hS_=>bV rfl rfl Tryz.underlying53 dE rfl (by omega))<|sq (fun w_ hS_=>av rfl iy (((h1 _ hS_).au _ _ ga)))<|sq (fun w_ hS_=>aa rfl)<|sq (fun w_ hS_=>bV rfl rfl Tryz.underlying53 dE rfl (by omega))<|sq (fun w_ hS_=>av rfl iy (((h2 _ hS_).au _ _ gb)))<|sq (fun w_ hS_=>cF rfl rfl)<|send<|br (ae (t:=23) rfl<|ae (t:=16) rfl<|ae (t:=7) rfl<|ae (t:=2) rfl<|ae (t:=3) rfl<|ae (t:=5) rfl<|aA)<|aD<| ?_
   refine lC rfl (fun hgt=> ?_) (fun hgt=> ?_)
   ·refine aP<|aZ<|nq (ab rfl)<|aY<|aD<|dK<|cr<|bA<|bA<|cr<|bA<| ?_
    refine eW trivial rfl rfl ⟨?_,(hf1.b9 hf2).b9 hS5⟩
    rw[C7 hab (by omega) (by omega) (show(b.getD k 0).toNat<(a.getD k 0).toNat by omega)]
   ·refine dy<|eA<|aD<|aZ<|nq (aa rfl)<|nq (aM rfl rfl (bB (by omega) (by omega)))<|nq (ab rfl)<|aY<|br (ae (t:=5) rfl<|ae (t:=23) rfl<|ae (t:=16) rfl<|ae (t:=7) rfl<|ae (t:=2) rfl<|ae (t:=3) rfl<|aA)<| ?_
    refine jV (k+1) (ae (t:=2) rfl<|ae (t:=3) rfl<|ae (t:=5) rfl<|aA) (⟨by omega,vZ hab (by omega) (by omega) (fun q=>hlt (by have:(a.getD k 0).toNat<(b.getD k 0).toNat:=q;omega)) (fun q=>hgt (by have:(b.getD k 0).toNat<(a.getD k 0).toNat:=q;omega)),hS5⟩) (by omega)
 ·obtain rfl:k=32:=by omega
  refine im<|bG<|bG<|cH<|aD<|aP<|aZ<|nq (ab rfl)<|aY<|aD<|dK<| ?_
  refine eW trivial rfl rfl ⟨?_,(hf1.b9 hf2).b9 hf3⟩
  rw[List.take_of_length_le (by omega),List.take_of_length_le (by omega)]at hab
  rw[hab,tR]
theorem o5{a b:List UInt8}{j n:Nat}(ha:a.length=n)(hb:b.length=n)(hj:j<n):(a.take j++b.drop j).set j (a.getD j 0)=a.take (j+1)++b.drop (j+1):=by
 rw[List.set_append,if_neg (by rw[List.length_take];omega),List.length_take,Nat.min_eq_left (by omega),Nat.sub_self,ep (by omega),List.append_assoc]
 congr 1
 rw[List.drop_eq_getElem_cons (by omega)]
 rfl
theorem oS:(Value.agg (aK (List.replicate 32 0)).toArray).cells.toList=aK (List.replicate 32 0):=rfl
theorem of(A:Option Addr)(c:Nat)(l:List UInt8)(w:World)(hr:Rd w 1 A 32 (aK l)):
  Calls Tryz.prog 170 #[.slice A 32 c] w fun e w' =>e= .returned (.agg (aK l).toArray)∧Fr No w w' :=by
 have hl:l.length=32:=by have:=hr.1;rw[ax]at this;omega
 refine enter (N:=16) Tryz.func170 rfl rfl (by simp) ?_
 refine aP<|aZ<| ?_
 refine nx (lQ cX fun g1 w1 hg1 hf1 hb1=> ?_)
 refine aY<|aD<|aP<|aZ<| ?_
 refine nx (lQ cX fun g2 w2 hg2 hf2 hb2=> ?_)
 rw[oS]at hb1 hb2
 have hlt:=hb1.lt
 refine aY<|aD<|aP<|aP<|aZ<|nq (ab rfl)<|aY<|aD<|cJ<| ?_
 refine jS (fun j=>32-j) (fun j=>[(0,.slice A 32 c),(2,.pointer (some ⟨g1,0,none⟩)),(3,.pointer (some ⟨g2,0,none⟩)),(4,.int .i64 (j:Nat))]) (fun j w' =>j≤32∧Fr No w w' ∧eP w' g1 53 (aK (List.replicate 32 0))∧eP w' g2 53 (aK (l.take j++(List.replicate 32 0).drop j))) 0 (⟨Nat.zero_le _,hf1.b9 hf2,hb1.l9 hf2,hb2⟩) (ae (t:=0) rfl<|ae (t:=2) rfl<|ae (t:=3) rfl<|ae (t:=4) rfl<|aA) (fun j w4 ⟨hj,hf4,i1,i2⟩=> ?_)
 refine aP<|aP<|aZ<|nq (aa rfl)<|nq (bk rfl rfl)<|aY<|br (ae (t:=6) rfl<|ae (t:=0) rfl<|ae (t:=2) rfl<|ae (t:=3) rfl<|ae (t:=4) rfl<|aA)<|aD<| ?_
 refine lC rfl (fun h=> ?_) (fun h=> ?_)
 ·have ga:=bC (l:=l) (i:=j) (by omega)
  have hlen:(l.take j++(List.replicate 32 (0:UInt8)).drop j).length=32:=by rw[List.length_append,List.length_take,List.length_drop,List.length_replicate];omega
  have r4:=hr.l9 hf4
  refine dy<|aD<|aP<|cJ<|aZ<|nq (aa rfl)<|nq (aa rfl)<|nq (aa rfl)<|nq (aL rfl rfl Tryz.underlying27 dE r4.2.1 rfl (by omega))<|nq (av rfl iy (r4.cell ga))<|nq (bV rfl rfl Tryz.underlying53 dE rfl (by omega))<| ?_
  refine y6 (CQ rfl rfl dE rfl i2 (by rw[ax];omega) fun w5 hf5 i2' hs5=> ?_)
  rw[Nat.zero_add,←nD,o5 hl (List.length_replicate ..) (by omega)]at i2'
  refine aY<|br (ae (t:=6) rfl<|ae (t:=0) rfl<|ae (t:=2) rfl<|ae (t:=3) rfl<|ae (t:=4) rfl<|aA)<|eA<|aD<|aZ<|nq (aa rfl)<|nq (aM rfl rfl (bB (by omega) (by omega)))<|nq (ab rfl)<|aY<|br (ae (t:=4) rfl<|ae (t:=6) rfl<|ae (t:=0) rfl<|ae (t:=2) rfl<|ae (t:=3) rfl<|aA)<| ?_
  refine jV (j+1) (ae (t:=0) rfl<|ae (t:=2) rfl<|ae (t:=3) rfl<|ae (t:=4) rfl<|aA) (⟨by omega,hf4.new hf5 (fun i hi=>by have:=hf1.size;omega),i1.fr hf5 (by omega),i2'⟩) (by omega)
 ·obtain rfl:j=32:=by omega
  have e:l.take 32++(List.replicate 32 (0:UInt8)).drop 32=l:=by
   rw[List.take_of_length_le (by omega),List.drop_of_length_le (by simp)];simp
  rw[e]at i2
  refine im<|bG<|bG<|cH<|aD<|aP<|aZ<|nq (aR rfl b5 bj ((by rw[ax];exact hl)) i2.au)<| ?_
  refine y6 (oB rfl rfl bj hl i1 (by rw[ax];simp) fun w5 hf5 i1' hs5=> ?_)
  refine aY<|br (ae (t:=6) rfl<|ae (t:=0) rfl<|ae (t:=2) rfl<|ae (t:=3) rfl<|ae (t:=4) rfl<|aA)<|aD<|dK<| ?_
  exact Dh trivial rfl rfl b5 bj (by rw[ax];exact hl) i1'.au ⟨rfl,hf4.new hf5 (fun i hi=>by omega)⟩
theorem bytes(a:List UInt8)(w:World)(ha:a.length=32):
  Calls Tryz.prog 183 #[.agg (aK a).toArray] w fun e w' =>∃v,e= .returned v∧Go.Eng.Own w' w.heap.size 5 1 v 32 (aK a)∧Fr No w w' :=by
 refine enter (N:=16) Tryz.func183 rfl rfl (by simp) ?_
 refine aP<|aZ<| ?_
 refine nx (ox rfl fun g1 w1 hg1 hf1 hb1=> ?_)
 rw[bq]at hb1
 refine nq (ab rfl)<|aY<|aD<|aP<|aZ<|nq (ab rfl)<|aY<|aD<|aP<|aP<|aZ<|nq (ab rfl)<|aY<|aD<|cJ<| ?_
 refine oT (fun k _=>32-k) (fun k v=>[(1,.pointer (some ⟨g1,0,none⟩)),(3,v),(4,.int .i64 (k:Nat))]) (fun k v w' =>k≤32∧Go.Eng.Own w' w1.heap.size 5 1 v k (aK (a.take k))∧Fr No w1 w') 0 (.slice none 0 0) (⟨Nat.zero_le _,Own.nil w1 w1.heap.size _ 1,Fr.refl _ _⟩) (ae (t:=1) rfl<|ae (t:=3) rfl<|ae (t:=4) rfl<|aA) (fun k v w2 ⟨hk,ho,hf⟩=> ?_)
 refine aP<|aP<|aZ<|nq (aa rfl)<|nq (bk rfl rfl)<|aY<|br (ae (t:=6) rfl<|ae (t:=1) rfl<|ae (t:=3) rfl<|ae (t:=4) rfl<|aA)<|aD<| ?_
 refine lC rfl (fun h=> ?_) (fun h=> ?_)
 ·have ga:=bC (l:=a) (i:=k) (by omega)
  refine dy<|aD<|aP<|cJ<|aZ<|nq (aa rfl)<|nq (aa rfl)<|nq (bV rfl rfl Tryz.underlying53 dE rfl (by omega))<|nq (av rfl iy ((hb1.l9 hf).au _ _ ga))<| ?_
  refine nx (kR Tryz.underlying27 ey rfl rfl rfl (by simp[Value.cells,B8]) (by decide) (by decide) fun g w3 hg hf3 hb3=> ?_)
  refine nx (jJ rfl rfl Tryz.underlying27 Tryz.underlying27 (by exact .inl rfl) ey rfl (ho.l9 hf3) (Src.gE hb3 rfl) (aS (l:=[_])) (by unfold maxLen;omega) (by omega) (hf.b9 hf3).size fun v4 w4 ho4 hf4 hv4=> ?_)
  refine nq (ab rfl)<|aY<|br (ae (t:=3) rfl<|ae (t:=6) rfl<|ae (t:=1) rfl<|ae (t:=4) rfl<|aA)<|eA<|aD<|aZ<|nq (aa rfl)<|nq (aM rfl rfl (bB (by omega) (by omega)))<|nq (ab rfl)<|aY<|br (ae (t:=4) rfl<|ae (t:=3) rfl<|ae (t:=6) rfl<|ae (t:=1) rfl<|aA)<| ?_
  refine mG (k+1) v4 (ae (t:=1) rfl<|ae (t:=3) rfl<|ae (t:=4) rfl<|aA) (⟨by omega,by rw[ep (by omega),bm];exact ho4,(hf.b9 hf3).new hf4 (fun i hi=>(ho.from hi).1)⟩) (by omega)
 ·obtain rfl:k=32:=by omega
  refine im<|bG<|bG<|cH<|aD<|aP<|aZ<|nq (aa rfl)<|nq (ab rfl)<|aY<|br (ae (t:=2) rfl<|ae (t:=6) rfl<|ae (t:=1) rfl<|ae (t:=3) rfl<|ae (t:=4) rfl<|aA)<|aD<|dK<| ?_
  rw[List.take_of_length_le (by omega)]at ho
  exact eW trivial rfl rfl ⟨v,rfl,ho.wide hf1.size,hf1.b9 hf⟩
end Go.Proofs.YtmibdabdlgmafaaGreatDoor
end
section
set_option maxRecDepth 20000
namespace Go.Proofs.YtmibdabdlgmafaaGreatDoor
open Go.Eng Go.Hx Go.Extern
theorem text(A:Option Addr)(n c:Nat)(l:List UInt8)(w:World)(hr:Rd w 1 A n (aK l))(hn:n≤70368744177664):
  Calls Tryz.prog 177 #[.slice A n c] w fun e w' =>e= .returned (.string (strOf (b8 l)))∧Fr No w w' :=by
 have hl:l.length=n:=by have:=hr.1;rw[ax]at this;omega
 refine enter (N:=28) Tryz.func177 rfl rfl (by simp) ?_
 refine aP<|aZ<|nq (ab rfl)<|aY<|aD<|aP<|aZ<|nq (ab rfl)<|aY<|aD<|aP<|aP<|aZ<|nq (aa rfl)<|nq (aX rfl Tryz.underlying27)<|nq (aa rfl)<|aY<|br (ae (t:=7) rfl<|ae (t:=6) rfl<|ae (t:=3) rfl<|ae (t:=2) rfl<|ae (t:=0) rfl<|aA)<|aD<|cJ<| ?_
 refine oT (fun k _=>n-k) (fun k v=>[(0,.slice A n c),(3,v),(6,.int .i64 n),(7,.int .i64 (k:Nat))]) (fun k v w' =>k≤n∧Go.Eng.Own w' w.heap.size 5 1 v (2*k) (aK (b8 (l.take k)))∧Fr No w w') 0 (.slice none 0 0) (⟨Nat.zero_le _,Own.nil w w.heap.size _ 1,Fr.refl _ _⟩) (ae (t:=0) rfl<|ae (t:=3) rfl<|ae (t:=6) rfl<|ae (t:=7) rfl<|aA) (fun k v w1 ⟨hk,ho,hf⟩=> ?_)
 refine aP<|aZ<|nq (bk rfl rfl)<|aY<|aD<|aP<| ?_
 refine lC rfl (fun h=> ?_) (fun h=> ?_)
 ·have hkn:k<n:=by omega
  have hb:=(l.getD k 0).toNat_lt
  refine dy<|aD<|aP<|cJ<|aP<|aZ<|nq (aa rfl)<|nq (ab rfl)<|aY<|br (ae (t:=4) rfl<|ae (t:=8) rfl<|ae (t:=0) rfl<|ae (t:=3) rfl<|ae (t:=6) rfl<|ae (t:=7) rfl<|aA)<|aD<| ?_
  refine xG [(0,false),(1,false),(2,false),(3,false),(4,false),(5,false),(6,false),(7,false),(8,false),(9,false),(10,false),(11,false),(12,false),(13,true),(14,true),(15,false)] (by kernel_rfl) (by kernel_rfl) rfl (fun w' =>Fr No w w') (hf.b9 (Fr.drew _)) (fun w2 hf2 hS2=> ?_)
  refine sq (fun w_ hS_=>aa rfl)<|sq (fun w_ hS_=>aa rfl)<|sq (fun w_ hS_=>aa rfl)<|sq (fun w_ hS_=>aL rfl rfl Tryz.underlying27 dE hr.2.1 rfl (by omega))<|sq (fun w_ hS_=>av rfl iy (((hr.l9 hS_).cell (bC (by omega)))))<|sq (fun w_ hS_=>kO (p:=16) rfl rfl (by decide) (by decide) (by decide))<|sq (fun w_ hS_=>eC rfl rfl Tryz.underlying9 rfl ((AL _)))<|sq (fun w_ hS_=>aa rfl)<|sq (fun w_ hS_=>aa rfl)<|sq (fun w_ hS_=>aL rfl rfl Tryz.underlying27 dE hr.2.1 rfl (by omega))<|sq (fun w_ hS_=>av rfl iy (((hr.l9 hS_).cell (bC (by omega)))))<|sq (fun w_ hS_=>fX (by simp) rfl rfl ((DR _)))<|sq (fun w_ hS_=>eC rfl rfl Tryz.underlying9 rfl ((zU _)))<| ?_
  refine sx (kR Tryz.underlying27 ey rfl rfl rfl (by simp[Value.cells,B8]) (by decide) (by decide) fun g w3 hg hf3 hb3=> ?_)
  have hS3:Fr No w w3:=hS2.b9 hf3
  refine⟨hS3, ?_⟩
  refine sx (jJ rfl rfl Tryz.underlying27 Tryz.underlying27 (by exact .inl rfl) ey rfl (ho.l9 (hf2.b9 hf3)) (Src.bN (Own.rd (Own.made hb3 (Nat.le_refl _) (Nat.le_refl _) (by decide) (by rfl))).2.2) (by simp[Value.cells];exact⟨rfl,rfl⟩) (by unfold maxLen;omega) (by omega) hS3.size fun v4 w4 ho4 hf4 hv4=> ?_)
  have hS4:Fr No w w4:=hS3.new hf4 (fun i hi=>(ho.from hi).1)
  refine⟨hS4, ?_⟩
  refine sq (fun w_ hS_=>ab rfl)<|send<|br (ae (t:=3) rfl<|ae (t:=4) rfl<|ae (t:=8) rfl<|ae (t:=0) rfl<|ae (t:=6) rfl<|ae (t:=7) rfl<|aA)<|eA<|aD<|aZ<|nq (aM rfl rfl (bB (by omega) (by omega)))<|nq (aa rfl)<|aY<|br (ae (t:=7) rfl<|ae (t:=3) rfl<|ae (t:=4) rfl<|ae (t:=8) rfl<|ae (t:=0) rfl<|ae (t:=6) rfl<|aA)<| ?_
  refine mG (k+1) v4 (ae (t:=0) rfl<|ae (t:=3) rfl<|ae (t:=6) rfl<|ae (t:=7) rfl<|aA) (⟨by omega, ?_,hS4⟩) (by omega)
  have e1:2*k+2=2*(k+1):=by omega
  have e2:b8 (l.take (k+1))=b8 (l.take k)++o9 (l.getD k 0):=ph (by omega)
  rw[e1]at ho4
  rw[e2,bm]
  exact ho4
 ·obtain rfl:k=n:=by omega
  obtain⟨A',c',rfl,hc'⟩:=ho.slice
  have hro:=(Own.rd ho).2.2
  rw[List.take_of_length_le (by omega)]at hro
  refine im<|bG<|bG<|cH<|aD<|aP<|aZ<|nq (aa rfl)<|nq (eZ rfl Tryz.underlying27 Tryz.underlying5 Tryz.underlying9 hro)<|nq (ab rfl)<|aY<|br (ae (t:=2) rfl<|ae (t:=8) rfl<|ae (t:=0) rfl<|ae (t:=3) rfl<|ae (t:=6) rfl<|ae (t:=7) rfl<|aA)<|aD<|dK<| ?_
  exact eW trivial rfl rfl ⟨rfl,hf⟩
theorem uS(c:UInt8)(w:World):Calls Tryz.prog 226 #[.int .u8 (c.toNat:Int)] w fun e w' =>e= .returned (.int .i64 (jM c))∧w=w' :=by
 have hc:=c.toNat_lt
 refine enter (N:=21) Tryz.func226 rfl rfl (by simp) ?_
 refine aP<|aZ<|nq (ab rfl)<|aY<|aD<|aP<|aP<|aZ<|nq (aa rfl)<|nq (gG rfl rfl)<|nq (aa rfl)<| ?_
 refine kY 5 rfl (fun h1=> ?_) (fun h1=> ?_)
 ·refine ng rfl rfl rfl (aa rfl)<|ng rfl rfl rfl (lA rfl rfl)<|nq (bo rfl rfl)<|aY<|br (ae (t:=8) rfl<|ae (t:=2) rfl<|ae (t:=0) rfl<|aA)<|aD<| ?_
  refine lC rfl (fun h2=> ?_) (fun h2=> ?_)
  ·refine aP<|aZ<|nq (aa rfl)<|nq (bJ rfl Tryz.underlying5 Tryz.underlying3 ((bB (by omega) (by omega))))<|nq (b6 rfl rfl (bB (by omega) (by omega)))<|nq (ab rfl)<|aY<|br (ae (t:=2) rfl<|ae (t:=8) rfl<|ae (t:=0) rfl<|aA)<|aD<|dK<|bA<| ?_
   refine eW trivial rfl rfl ⟨?_,rfl⟩
   rw[jM,if_pos (by omega)]
  ·refine dy<|aD<|aP<|aP<|aZ<|nq (aa rfl)<|nq (gG rfl rfl)<|nq (aa rfl)<| ?_
   refine kY 14 rfl (fun h3=> ?_) (fun h3=> ?_)
   ·refine ng rfl rfl rfl (aa rfl)<|ng rfl rfl rfl (lA rfl rfl)<|nq (bo rfl rfl)<|aY<|br (ae (t:=17) rfl<|ae (t:=8) rfl<|ae (t:=2) rfl<|ae (t:=0) rfl<|aA)<|aD<| ?_
    refine lC rfl (fun h4=> ?_) (fun h4=> ?_)
    ·refine aP<|aZ<|nq (aa rfl)<|nq (bJ rfl Tryz.underlying5 Tryz.underlying3 ((bB (by omega) (by omega))))<|nq (b6 rfl rfl (bB (by omega) (by omega)))<|nq (ab rfl)<|aY<|br (ae (t:=2) rfl<|ae (t:=17) rfl<|ae (t:=8) rfl<|ae (t:=0) rfl<|aA)<|aD<|dK<|bA<| ?_
     refine eW trivial rfl rfl ⟨?_,rfl⟩
     rw[jM,if_neg (by omega),if_pos (by omega)]
    ·refine dy<|aD<|aP<|aZ<|nq (ab rfl)<|aY<|aD<|dK<| ?_
     refine eW trivial rfl rfl ⟨?_,rfl⟩
     rw[jM,if_neg (by omega),if_neg (by omega)]
   ·refine iA rfl rfl rfl (by decide)<|iA rfl rfl rfl (by decide)<|nq (a7 rfl rfl)<|aY<|br (ae (t:=17) rfl<|ae (t:=8) rfl<|ae (t:=2) rfl<|ae (t:=0) rfl<|aA)<|aD<| ?_
    refine oU rfl (rfl) ?_
    refine dy<|aD<|aP<|aZ<|nq (ab rfl)<|aY<|aD<|dK<| ?_
    refine eW trivial rfl rfl ⟨?_,rfl⟩
    rw[jM,if_neg (by omega),if_neg (by omega)]
 ·refine iA rfl rfl rfl (by decide)<|iA rfl rfl rfl (by decide)<|nq (a7 rfl rfl)<|aY<|br (ae (t:=8) rfl<|ae (t:=2) rfl<|ae (t:=0) rfl<|aA)<|aD<| ?_
  refine oU rfl (rfl) ?_
  refine dy<|aD<|aP<|aP<|aZ<|nq (aa rfl)<|nq (gG rfl rfl)<|nq (aa rfl)<| ?_
  refine kY 14 rfl (fun h3=> ?_) (fun h3=> ?_)
  ·omega
  ·refine iA rfl rfl rfl (by decide)<|iA rfl rfl rfl (by decide)<|nq (a7 rfl rfl)<|aY<|br (ae (t:=17) rfl<|ae (t:=8) rfl<|ae (t:=2) rfl<|ae (t:=0) rfl<|aA)<|aD<| ?_
   refine oU rfl (rfl) ?_
   refine dy<|aD<|aP<|aZ<|nq (ab rfl)<|aY<|aD<|dK<| ?_
   refine eW trivial rfl rfl ⟨?_,rfl⟩
   rw[jM,if_neg (by omega),if_neg (by omega)]
theorem DQ(A:Option Addr)(n c:Nat)(l:List UInt8)(w:World)(hr:Rd w 1 A n (aK l))(hn:n≤70368744177664):
  Calls Tryz.prog 182 #[.slice A n c] w fun e w' =>e= .returned (.string (strOf (b8 l)))∧Fr No w w' :=by
 have hl:l.length=n:=by have:=hr.1;rw[ax]at this;omega
 refine enter (N:=40) Tryz.func182 rfl rfl (by simp) ?_
 refine aP<|aZ<|nq (ab rfl)<|aY<|aD<|aP<|aZ<|nq (ab rfl)<|aY<|aD<|aP<|aZ<|nq (ab rfl)<|aY<|aD<|aP<|aP<|aZ<|nq (ab rfl)<|aY<|aD<|cJ<| ?_
 refine jS (fun k=>n-k) (fun k=>[(0,.slice A n c),(3,.string ⟨#[48,49,50,51,52,53,54,55,56,57,97,98,99,100,101,102]⟩),(4,.string (strOf (b8 (l.take k)))),(5,.int .i64 (k:Nat))]) (fun k w' =>k≤n∧Fr No w w') 0 (⟨Nat.zero_le _,Fr.refl _ _⟩) (ae (t:=0) rfl<|ae (t:=3) rfl<|ae (t:=4) rfl<|ae (t:=5) rfl<|aA) (fun k w1 ⟨hk,hf⟩=> ?_)
 refine aP<|aP<|aZ<|nq (aa rfl)<|nq (aa rfl)<|nq (aX rfl Tryz.underlying27)<|nq (bk rfl rfl)<|aY<|br (ae (t:=11) rfl<|ae (t:=0) rfl<|ae (t:=3) rfl<|ae (t:=4) rfl<|ae (t:=5) rfl<|aA)<|aD<| ?_
 refine lC rfl (fun h=> ?_) (fun h=> ?_)
 ·have hkn:k<n:=by omega
  have hb:=(l.getD k 0).toNat_lt
  have hr1:=hr.l9 hf
  refine dy<|aD<|aP<|cJ<|aP<|aZ<|nq (aa rfl)<|nq (aa rfl)<|nq (aL rfl rfl Tryz.underlying27 dE hr.2.1 rfl (by omega))<|nq (av rfl iy (hr1.cell (bC (by omega))))<|nq (bJ rfl Tryz.underlying5 Tryz.underlying3 ((wm _)))<|nq (jF rfl rfl (by omega) (by omega) (bB (by omega) (by omega)))<|nq (ab rfl)<|aY<|br (ae (t:=6) rfl<|ae (t:=11) rfl<|ae (t:=0) rfl<|ae (t:=3) rfl<|ae (t:=4) rfl<|ae (t:=5) rfl<|aA)<|aD<|aP<|aZ<|nq (aa rfl)<|nq (aa rfl)<|nq (aL rfl rfl Tryz.underlying27 dE hr.2.1 rfl (by omega))<|nq (av rfl iy (hr1.cell (bC (by omega))))<|nq (bJ rfl Tryz.underlying5 Tryz.underlying3 ((wm _)))<|nq (gr rfl rfl (by omega) (by omega))<|nq (ab rfl)<|aY<|br (ae (t:=7) rfl<|ae (t:=6) rfl<|ae (t:=11) rfl<|ae (t:=0) rfl<|ae (t:=3) rfl<|ae (t:=4) rfl<|ae (t:=5) rfl<|aA)<|aD<| ?_
  have hll:=dI (l.take k)
  have htl:(l.take k).length≤k:=List.length_take_le _ _
  refine xG [(0,false),(1,false),(2,false),(3,false),(4,false),(5,false),(6,false),(7,false),(8,false),(9,false),(10,false),(11,false),(12,false),(13,false)] (by kernel_rfl) (by kernel_rfl) rfl (fun w' =>Fr No w w') (hf.b9 (Fr.drew _)) (fun w2 hf2 hS2=> ?_)
  refine sq (fun w_ hS_=>aa rfl)<|sq (fun w_ hS_=>aa rfl)<|sq (fun w_ hS_=>aa rfl)<|sq (fun w_ hS_=>aa rfl)<|sq (fun w_ hS_=>aM rfl rfl (bB (by omega) (by omega)))<|sq (fun w_ hS_=>pM rfl rfl rfl Tryz.underlying9 (show(((l.getD k 0).toNat/16:Nat):Int)=_ by omega) (show(((l.getD k 0).toNat/16+1:Nat):Int)=_ by omega) ((by omega)) ((by show _≤16;omega)))<|sq (fun w_ hS_=>iR rfl rfl ((by simp[cU];omega)))<|sq (fun w_ hS_=>aa rfl)<|sq (fun w_ hS_=>aa rfl)<|sq (fun w_ hS_=>aa rfl)<|sq (fun w_ hS_=>aM rfl rfl (bB (by omega) (by omega)))<|sq (fun w_ hS_=>pM rfl rfl rfl Tryz.underlying9 (show(((l.getD k 0).toNat % 16:Nat):Int)=_ by omega) (show(((l.getD k 0).toNat % 16+1:Nat):Int)=_ by omega) ((by omega)) ((by show _≤16;omega)))<|sq (fun w_ hS_=>yV (iR rfl rfl ((by simp[cU,ByteArray.size_append];omega))) (congrArg Value.string (vS (by omega))))<|sq (fun w_ hS_=>ab rfl)<|send<|br (ae (t:=4) rfl<|ae (t:=7) rfl<|ae (t:=6) rfl<|ae (t:=11) rfl<|ae (t:=0) rfl<|ae (t:=3) rfl<|ae (t:=5) rfl<|aA)<|eA<|aD<|aZ<|nq (aa rfl)<|nq (aM rfl rfl (bB (by omega) (by omega)))<|nq (ab rfl)<|aY<|br (ae (t:=5) rfl<|ae (t:=4) rfl<|ae (t:=7) rfl<|ae (t:=6) rfl<|ae (t:=11) rfl<|ae (t:=0) rfl<|ae (t:=3) rfl<|aA)<| ?_
  refine jV (k+1) (ae (t:=0) rfl<|ae (t:=3) rfl<|ae (t:=4) rfl<|ae (t:=5) rfl<|aA) (⟨by omega,hS2⟩) (by omega)
 ·obtain rfl:k=n:=by omega
  refine im<|bG<|bG<|cH<|aD<|aP<|aZ<|nq (aa rfl)<|nq (ab rfl)<|aY<|br (ae (t:=2) rfl<|ae (t:=11) rfl<|ae (t:=0) rfl<|ae (t:=3) rfl<|ae (t:=4) rfl<|ae (t:=5) rfl<|aA)<|aD<|dK<| ?_
  refine eW trivial rfl rfl ⟨?_,hf⟩
  rw[List.take_of_length_le (by omega)]
def gD(w:World)(s:List UInt8)(v:Value)(w' :World):Prop:=
 match unhex s with
 |some x=>∃u,v= .tuple #[u,.int .i64 0]∧Go.Eng.Own w' w.heap.size 5 1 u x.length (aK x)
 |none=>v= .tuple #[.slice none 0 0,.int .i64 2]
theorem CP(s:List UInt8)(w:World)(hs:s.length≤140737488351232):
  Calls Tryz.prog 169 #[.string (strOf s)] w fun e w' =>(∃v,e= .returned v∧gD w s v w')∧Fr No w w' :=by
 have hsz:(strOf s).size=s.length:=cU s
 refine enter (N:=43) Tryz.func169 rfl rfl (by simp) ?_
 refine aP<|aZ<|nq (ab rfl)<|nq (ab rfl)<|aY<|aD<|aP<|aP<|aZ<|nq (aa rfl)<|nq (cQ rfl Tryz.underlying9)<|nq (gr rfl rfl (by omega) (by omega))<|nq (cy rfl rfl)<|aY<|br (ae (t:=11) rfl<|ae (t:=3) rfl<|ae (t:=2) rfl<|ae (t:=0) rfl<|aA)<|aD<| ?_
 refine lC rfl (fun h=> ?_) (fun h=> ?_)
 ·refine aP<|aZ<|nq (ab rfl)<|nq (ab rfl)<|aY<|aD<|dK<|bA<| ?_
  refine qZ trivial rfl rfl rfl ⟨⟨_,rfl, ?_⟩,Fr.refl _ _⟩
  rw[gD,mJ s (by omega)]
 ·refine dy<|aD<|aP<|aZ<|nq (ab rfl)<|aY<|aD<|aP<|aP<|aZ<|nq (ab rfl)<|aY<|aD<|cJ<| ?_
  refine wN (fun k _ _=>s.length-2*k) (fun k v _=>[(0,.string (strOf s)),(4,v),(5,.int .i64 (2*(k:Nat):Int))]) (fun k v x w' =>2*k≤s.length∧unhex (s.take (2*k))=some x∧Go.Eng.Own w' w.heap.size 5 1 v k (aK x)∧Fr No w w') 0 (.slice none 0 0) [] (⟨Nat.zero_le _,rfl,Own.nil w w.heap.size _ 1,Fr.refl _ _⟩) (ae (t:=0) rfl<|ae (t:=4) rfl<|ae (t:=5) rfl<|aA) (fun k v x w1 ⟨hk,hx,ho,hf⟩=> ?_)
  refine aP<|aP<|aZ<|nq (aa rfl)<|nq (aM rfl rfl (bB (by omega) (by omega)))<|nq (aa rfl)<|nq (cQ rfl Tryz.underlying9)<|nq (bk rfl rfl)<|aY<|br (ae (t:=16) rfl<|ae (t:=0) rfl<|ae (t:=4) rfl<|ae (t:=5) rfl<|aA)<|aD<| ?_
  refine lC rfl (fun h2=> ?_) (fun h2=> ?_)
  ·have hk2:2*k+1<s.length:=by omega
   have hd1:=gQ (s.getD (2*k) 0)
   have hd2:=gQ (s.getD (2*k+1) 0)
   have hlen:(s.take (2*k)).length=2*k:=by simp;omega
   have hsn:=kX (s.take (2*k)) k (s.getD (2*k) 0) (s.getD (2*k+1) 0) x hlen hx
   rw[←rM hk2]at hsn
   have hno:(jM (s.getD (2*k) 0)<0∨jM (s.getD (2*k+1) 0)<0)→unhex s=none:=fun hn=>by
    rw[if_pos hn]at hsn
    have:=fE _ (s.drop (2*(k+1))) (k+1) (by simp;omega) hsn
    rwa [List.take_append_drop]at this
   refine dy<|aD<|aP<|cJ<|aP<|aZ<|nq (aa rfl)<|nq (aa rfl)<|nq (eC rfl rfl Tryz.underlying9 (show((2*k:Nat):Int)=_ by omega) (ic (by omega)))<| ?_
   refine nx (dY rfl Tryz.call226 (uS _ w1) ?_)
   rintro e_ w2 ⟨rfl,rfl⟩
   refine⟨_,rfl, ?_⟩
   refine nq (ab rfl)<|aY<|br (ae (t:=6) rfl<|ae (t:=16) rfl<|ae (t:=0) rfl<|ae (t:=4) rfl<|ae (t:=5) rfl<|aA)<|aD<|aP<|aZ<|nq (aa rfl)<|nq (aa rfl)<|nq (aM rfl rfl (bB (by omega) (by omega)))<|nq (eC rfl rfl Tryz.underlying9 (show((2*k+1:Nat):Int)=_ by omega) (ic (by omega)))<| ?_
   refine nx (dY rfl Tryz.call226 (uS _ w1) ?_)
   rintro e_ w2 ⟨rfl,rfl⟩
   refine⟨_,rfl, ?_⟩
   refine nq (ab rfl)<|aY<|br (ae (t:=7) rfl<|ae (t:=6) rfl<|ae (t:=16) rfl<|ae (t:=0) rfl<|ae (t:=4) rfl<|ae (t:=5) rfl<|aA)<|aD<|aP<|aP<|aZ<|nq (aa rfl)<|nq (bk rfl rfl)<|nq (aa rfl)<| ?_
   refine kY 30 rfl (fun h3=> ?_) (fun h3=> ?_)
   ·refine iA rfl rfl rfl (by decide)<|iA rfl rfl rfl (by decide)<|nq (bo rfl rfl)<|aY<|br (ae (t:=33) rfl<|ae (t:=7) rfl<|ae (t:=6) rfl<|ae (t:=16) rfl<|ae (t:=0) rfl<|ae (t:=4) rfl<|ae (t:=5) rfl<|aA)<|aD<| ?_
    refine vG rfl (rfl) ?_
    refine aP<|aZ<|nq (ab rfl)<|nq (ab rfl)<|aY<|aD<|dK<|bA<|cr<|bA<|bA<|cr<|bA<| ?_
    refine qZ trivial rfl rfl rfl ⟨⟨_,rfl, ?_⟩,hf⟩
    rw[gD,hno (.inl h3)]
   ·refine ng rfl rfl rfl (aa rfl)<|ng rfl rfl rfl (bk rfl rfl)<|nq (a7 rfl rfl)<|aY<|br (ae (t:=33) rfl<|ae (t:=7) rfl<|ae (t:=6) rfl<|ae (t:=16) rfl<|ae (t:=0) rfl<|ae (t:=4) rfl<|ae (t:=5) rfl<|aA)<|aD<| ?_
    refine lC rfl (fun h4=> ?_) (fun h4=> ?_)
    ·refine aP<|aZ<|nq (ab rfl)<|nq (ab rfl)<|aY<|aD<|dK<|bA<|cr<|bA<|bA<|cr<|bA<| ?_
     refine qZ trivial rfl rfl rfl ⟨⟨_,rfl, ?_⟩,hf⟩
     rw[gD,hno (.inr h4)]
    ·refine dy<|aD<|aZ<|nq (aa rfl)<|nq (aa rfl)<|nq (fv rfl rfl (bB (by omega) (by omega)))<|nq (aa rfl)<|nq (aM rfl rfl (bB (by omega) (by omega)))<|nq (bJ rfl Tryz.underlying3 Tryz.underlying5 (xZ (xr _ _ (by omega) (by omega))))<| ?_
     refine nx (kR Tryz.underlying27 ey rfl rfl rfl (by simp[Value.cells,B8]) (by decide) (by decide) fun g w3 hg hf3 hb3=> ?_)
     refine nx (jJ rfl rfl Tryz.underlying27 Tryz.underlying27 (by exact .inl rfl) ey rfl (ho.l9 hf3) (Src.gE hb3 rfl) (aS (l:=[_])) (by unfold maxLen;omega) (by omega) (Nat.le_trans hf.size hf3.size) fun v4 w4 ho4 hf4 hv4=> ?_)
     refine nq (ab rfl)<|aY<|br (ae (t:=4) rfl<|ae (t:=33) rfl<|ae (t:=7) rfl<|ae (t:=6) rfl<|ae (t:=16) rfl<|ae (t:=0) rfl<|ae (t:=5) rfl<|aA)<|eA<|aD<|aZ<|nq (aa rfl)<|nq (aM rfl rfl (bB (by omega) (by omega)))<|nq (ab rfl)<|aY<|br (ae (t:=5) rfl<|ae (t:=4) rfl<|ae (t:=33) rfl<|ae (t:=7) rfl<|ae (t:=6) rfl<|ae (t:=16) rfl<|ae (t:=0) rfl<|aA)<| ?_
     rw[if_neg (by omega)]at hsn
     refine xY (k+1) v4 _ (ae (t:=0) rfl<|ae (t:=4) rfl<|ae (t:=5) ?_<|aA) ⟨by omega,hsn, ?_,(hf.b9 hf3).new hf4 (fun i hi=>(ho.from hi).1)⟩ (by omega)
     ·show some (Value.int .i64 (2*(k:Int)+2))=some (Value.int .i64 (2*((k+1:Nat):Int)))
      rw[show(2*(k:Int)+2)=2*((k+1:Nat):Int) by omega]
     ·rw[bm];exact ho4
  ·refine im<|bG<|bG<|cH<|aD<|aP<|aZ<|nq (aa rfl)<|nq (ab rfl)<|nq (ab rfl)<|aY<|br (ae (t:=3) rfl<|ae (t:=2) rfl<|ae (t:=16) rfl<|ae (t:=0) rfl<|ae (t:=4) rfl<|ae (t:=5) rfl<|aA)<|aD<|dK<| ?_
   refine qZ trivial rfl rfl rfl ⟨⟨_,rfl, ?_⟩,hf⟩
   rw[List.take_of_length_le (by omega)]at hx
   have hxl:=fC s x hx
   rw[gD,hx]
   have:x.length=k:=by omega
   exact⟨v,rfl,this▸ho⟩
theorem tn(s:ByteArray)(c:UInt8)(w:World):
  Calls Tryz.prog 267 #[.string s,.int .u8 c.toNat] w fun e w' =>e= .returned (.int .i64 (Lib.indexByte s.data.toList c))∧w=w' :=by
 refine enter (N:=8) Tryz.func267 rfl rfl (by simp) ?_
 refine aP<|aZ<|nq (ab rfl)<|aY<|aD<|aP<|aZ<|nq (aa rfl)<|nq (aa rfl)<| ?_
 refine nq (yZ rfl Tryz.func295 (by kernel_rfl) (by kernel_rfl) (by kernel_rfl) (show _=some Extern.BytealgIndexByte.indexByte by kernel_rfl) (Lib.run_indexByteString _ _ _)) ?_
 refine nq (ab rfl)<|aY<|br (ae (t:=4) rfl<|ae (t:=0) rfl<|ae (t:=1) rfl<|aA)<|aD<|dK<| ?_
 refine eW trivial rfl rfl ⟨?_,rfl⟩
 rw[show((c.toNat:Int)).toNat.toUInt8=c by simp]
theorem indexByte(s:ByteArray)(c:UInt8)(w:World):
  Calls Tryz.prog 224 #[.string s,.int .u8 c.toNat] w fun e w' =>e= .returned (.int .i64 (Lib.indexByte s.data.toList c))∧w=w' :=by
 refine enter (N:=8) Tryz.func224 rfl rfl (by simp) ?_
 refine aP<|aZ<|nq (ab rfl)<|aY<|aD<|aP<|aZ<|nq (aa rfl)<|nq (aa rfl)<| ?_
 refine nx (dY rfl Tryz.call267 (tn s c w) ?_)
 rintro e_ w' ⟨rfl,rfl⟩
 refine⟨_,rfl, ?_⟩
 refine nq (ab rfl)<|aY<|br (ae (t:=4) rfl<|ae (t:=0) rfl<|ae (t:=1) rfl<|aA)<|aD<|dK<| ?_
 exact eW trivial rfl rfl ⟨rfl,rfl⟩
theorem sI(c:UInt8)(w:World):
  Calls Tryz.prog 224 #[.string ⟨#[48,49,50,51,52,53,54,55,56,57,97,98,99,100,101,102]⟩,.int .u8 c.toNat] w fun e w' =>e= .returned (.int .i64 (jM c))∧w=w' :=by
 rw[←oC]
 exact indexByte _ c w
theorem parse(s:List UInt8)(w:World)(hs:s.length≤140737488351232):
  Calls Tryz.prog 166 #[.string (strOf s)] w fun e w' =>(∃v,e= .returned v∧gD w s v w')∧Fr No w w' :=by
 have hsz:(strOf s).size=s.length:=cU s
 refine enter (N:=45) Tryz.func166 rfl rfl (by simp) ?_
 refine aP<|aZ<|nq (ab rfl)<|nq (ab rfl)<|aY<|aD<|aP<|aP<|aZ<|nq (aa rfl)<|nq (cQ rfl Tryz.underlying9)<|nq (gr rfl rfl (by omega) (by omega))<|nq (cM rfl rfl)<|aY<|br (ae (t:=11) rfl<|ae (t:=3) rfl<|ae (t:=2) rfl<|ae (t:=0) rfl<|aA)<|aD<| ?_
 refine lC rfl (fun h=> ?_) (fun h=> ?_)
 ·refine aP<|aZ<|nq (ab rfl)<|nq (ab rfl)<|aY<|aD<|dK<|bA<| ?_
  refine qZ trivial rfl rfl rfl ⟨⟨_,rfl, ?_⟩,Fr.refl _ _⟩
  rw[gD,mJ s (by simp at h;omega)]
 ·simp at h
  refine dy<|aD<|aP<|aZ<|nq (ab rfl)<|aY<|aD<|aP<|aP<|aZ<|nq (aa rfl)<|nq (cQ rfl Tryz.underlying9)<|nq (jF rfl rfl (by omega) (by omega) (bB (by omega) (by omega)))<|nq (aa rfl)<|aY<|br (ae (t:=15) rfl<|ae (t:=14) rfl<|ae (t:=4) rfl<|ae (t:=11) rfl<|ae (t:=3) rfl<|ae (t:=2) rfl<|ae (t:=0) rfl<|aA)<|aD<|cJ<| ?_
  refine wN (fun k _ _=>s.length-2*k) (fun k v _=>[(0,.string (strOf s)),(4,v),(14,.int .i64 ((s.length/2:Nat):Int)),(15,.int .i64 (k:Nat))]) (fun k v x w' =>2*k≤s.length∧unhex (s.take (2*k))=some x∧Go.Eng.Own w' w.heap.size 5 1 v k (aK x)∧Fr No w w') 0 (.slice none 0 0) [] (⟨Nat.zero_le _,rfl,Own.nil w w.heap.size _ 1,Fr.refl _ _⟩) (ae (t:=0) rfl<|ae (t:=4) rfl<|ae (t:=14) rfl<|ae (t:=15) rfl<|aA) (fun k v x w1 ⟨hk,hx,ho,hf⟩=> ?_)
  ·refine aP<|aZ<|nq (bk rfl rfl)<|aY<|aD<|aP<| ?_
   refine lC rfl (fun h2=> ?_) (fun h2=> ?_)
   ·have hk2:2*k+1<s.length:=by omega
    have hd1:=gQ (s.getD (2*k) 0)
    have hd2:=gQ (s.getD (2*k+1) 0)
    have hlen:(s.take (2*k)).length=2*k:=by simp;omega
    have hsn:=kX (s.take (2*k)) k (s.getD (2*k) 0) (s.getD (2*k+1) 0) x hlen hx
    rw[←rM hk2]at hsn
    have hno:(jM (s.getD (2*k) 0)<0∨jM (s.getD (2*k+1) 0)<0)→unhex s=none:=fun hn=>by
     rw[if_pos hn]at hsn
     have:=fE _ (s.drop (2*(k+1))) (k+1) (by simp;omega) hsn
     rwa [List.take_append_drop]at this
    refine dy<|aD<|aP<|cJ<|aP<|aZ<|nq (aa rfl)<|nq (ab rfl)<|aY<|br (ae (t:=5) rfl<|ae (t:=16) rfl<|ae (t:=0) rfl<|ae (t:=4) rfl<|ae (t:=14) rfl<|ae (t:=15) rfl<|aA)<|aD<|aP<| ?_
    refine xG [(0,false),(1,false),(2,false),(3,false),(5,false),(6,false),(7,false),(8,false),(9,false),(4,true),(10,true),(11,false),(12,false)] (by kernel_rfl) (by kernel_rfl) rfl (fun w' =>Fr No w w') (hf.b9 (Fr.drew _)) (fun w2 hf2 hS2=> ?_)
    refine sq (fun w_ hS_=>aa rfl)<|sq (fun w_ hS_=>aa rfl)<|sq (fun w_ hS_=>fv rfl rfl (bB (by omega) (by omega)))<|sq (fun w_ hS_=>eC rfl rfl Tryz.underlying9 (show((2*k:Nat):Int)=_ by omega) (ic (by omega)))<|sq (fun w_ hS_=>aa rfl)<|sq (fun w_ hS_=>aa rfl)<|sq (fun w_ hS_=>fv rfl rfl (bB (by omega) (by omega)))<|sq (fun w_ hS_=>aM rfl rfl (bB (by omega) (by omega)))<|sq (fun w_ hS_=>eC rfl rfl Tryz.underlying9 (show((2*k+1:Nat):Int)=_ by omega) (ic (by omega)))<| ?_
    refine sx (dY rfl Tryz.call224 (sI _ _) ?_)
    rintro e_ w3 ⟨rfl,rfl⟩
    refine⟨_,rfl, ?_⟩
    refine⟨hS2, ?_⟩
    refine sx (dY rfl Tryz.call224 (sI _ _) ?_)
    rintro e_ w3 ⟨rfl,rfl⟩
    refine⟨_,rfl, ?_⟩
    refine⟨hS2, ?_⟩
    have hf:=hS2
    have ho:=ho.l9 hf2
    refine sq (fun w_ hS_=>ab rfl)<|sq (fun w_ hS_=>ab rfl)<|send<|br (ae (t:=7) rfl<|ae (t:=6) rfl<|ae (t:=5) rfl<|ae (t:=16) rfl<|ae (t:=0) rfl<|ae (t:=4) rfl<|ae (t:=14) rfl<|ae (t:=15) rfl<|aA)<|aD<|aP<|aP<|aZ<|nq (aa rfl)<|nq (bk rfl rfl)<|nq (aa rfl)<| ?_
    refine kY 31 rfl (fun h3=> ?_) (fun h3=> ?_)
    ·refine iA rfl rfl rfl (by decide)<|iA rfl rfl rfl (by decide)<|nq (bo rfl rfl)<|aY<|br (ae (t:=34) rfl<|ae (t:=7) rfl<|ae (t:=6) rfl<|ae (t:=5) rfl<|ae (t:=16) rfl<|ae (t:=0) rfl<|ae (t:=4) rfl<|ae (t:=14) rfl<|ae (t:=15) rfl<|aA)<|aD<| ?_
     refine vG rfl (rfl) ?_
     refine aP<|aZ<|nq (ab rfl)<|nq (ab rfl)<|aY<|aD<|dK<|bA<|cr<|bA<|bA<|cr<|bA<| ?_
     refine qZ trivial rfl rfl rfl ⟨⟨_,rfl, ?_⟩,hf⟩
     rw[gD,hno (.inl h3)]
    ·refine ng rfl rfl rfl (aa rfl)<|ng rfl rfl rfl (bk rfl rfl)<|nq (a7 rfl rfl)<|aY<|br (ae (t:=34) rfl<|ae (t:=7) rfl<|ae (t:=6) rfl<|ae (t:=5) rfl<|ae (t:=16) rfl<|ae (t:=0) rfl<|ae (t:=4) rfl<|ae (t:=14) rfl<|ae (t:=15) rfl<|aA)<|aD<| ?_
     refine lC rfl (fun h4=> ?_) (fun h4=> ?_)
     ·refine aP<|aZ<|nq (ab rfl)<|nq (ab rfl)<|aY<|aD<|dK<|bA<|cr<|bA<|bA<|cr<|bA<| ?_
      refine qZ trivial rfl rfl rfl ⟨⟨_,rfl, ?_⟩,hf⟩
      rw[gD,hno (.inr h4)]
     ·refine dy<|aD<|aZ<|nq (aa rfl)<|nq (aa rfl)<|nq (qc (p:=16) rfl rfl (by decide) (by decide) (by decide) (bB (by omega) (by omega)))<|nq (aa rfl)<|nq (fX (by simp) rfl rfl (BJ _ _ (by omega) (by omega) (by omega) (by omega)))<|nq (bJ rfl Tryz.underlying3 Tryz.underlying5 (xZ (xr _ _ (by omega) (by omega))))<| ?_
      refine nx (kR Tryz.underlying27 ey rfl rfl rfl (by simp[Value.cells,B8]) (by decide) (by decide) fun g w3 hg hf3 hb3=> ?_)
      refine nx (jJ rfl rfl Tryz.underlying27 Tryz.underlying27 (by exact .inl rfl) ey rfl (ho.l9 hf3) (Src.gE hb3 rfl) (aS (l:=[_])) (by unfold maxLen;omega) (by omega) (Nat.le_trans hf.size hf3.size) fun v4 w4 ho4 hf4 hv4=> ?_)
      refine nq (ab rfl)<|aY<|br (ae (t:=4) rfl<|ae (t:=34) rfl<|ae (t:=7) rfl<|ae (t:=6) rfl<|ae (t:=5) rfl<|ae (t:=16) rfl<|ae (t:=0) rfl<|ae (t:=14) rfl<|ae (t:=15) rfl<|aA)<|eA<|aD<|aZ<|nq (aM rfl rfl (bB (by omega) (by omega)))<|nq (aa rfl)<|aY<|br (ae (t:=15) rfl<|ae (t:=4) rfl<|ae (t:=34) rfl<|ae (t:=7) rfl<|ae (t:=6) rfl<|ae (t:=5) rfl<|ae (t:=16) rfl<|ae (t:=0) rfl<|ae (t:=14) rfl<|aA)<| ?_
      rw[if_neg (by omega)]at hsn
      refine xY (k+1) v4 _ (ae (t:=0) rfl<|ae (t:=4) rfl<|ae (t:=14) rfl<|ae (t:=15) rfl<|aA) (⟨by omega,hsn,by rw[bm];exact ho4,(hf.b9 hf3).new hf4 (fun i hi=>(ho.from hi).1)⟩) (by omega)
   ·refine im<|bG<|bG<|cH<|aD<|aP<|aZ<|nq (aa rfl)<|nq (ab rfl)<|nq (ab rfl)<|aY<|br (ae (t:=3) rfl<|ae (t:=2) rfl<|ae (t:=16) rfl<|ae (t:=0) rfl<|ae (t:=4) rfl<|ae (t:=14) rfl<|ae (t:=15) rfl<|aA)<|aD<|dK<| ?_
    refine qZ trivial rfl rfl rfl ⟨⟨_,rfl, ?_⟩,hf⟩
    rw[List.take_of_length_le (by omega)]at hx
    have hxl:=fC s x hx
    rw[gD,hx]
    have:x.length=k:=by omega
    exact⟨v,rfl,this▸ho⟩
theorem name(a:List UInt8)(w:World)(ha:a.length=32):
  Calls Tryz.prog 104 #[.agg (aK a).toArray] w fun e w' =>e= .returned (.string (strOf (b8 a)))∧Fr No w w' :=by
 refine enter (N:=5) Tryz.func104 rfl rfl (by simp) ?_
 refine aP<|aZ<| ?_
 refine nx (ox rfl fun g1 w1 hg1 hf1 hb1=> ?_)
 rw[bq]at hb1
 refine nq (ab rfl)<|aY<|aD<|aP<|aZ<|nq (tL rfl Tryz.underlying53 dE)<| ?_
 refine nx (dY rfl Tryz.call177 (text _ _ _ a _ (Rd.gE hb1 (by rw[ax];omega)) (by omega)) ?_)
 rintro e_ w2 ⟨rfl,hf2⟩
 refine⟨_,rfl, ?_⟩
 refine nq (ab rfl)<|aY<|br (ae (t:=2) rfl<|ae (t:=1) rfl<|ae (t:=0) rfl<|aA)<|aD<|dK<| ?_
 exact eW trivial rfl rfl ⟨rfl,hf1.b9 hf2⟩
theorem yM(v:Value)(w:World):(Extern.ReflectliteType.typeOf #[.iface 47 v]).run Tryz.prog w= .ok (.iface 312 (.agg #[.pointer (some ⟨2,47,none⟩)])) w:=by kernel_rfl
theorem qU (w : World) : ((Extern.ReflectliteType.method fun t => do Rtype.noPackHeld "Comparable" t; pure (.bool (← typeInfo t).comparable)) #[.agg #[.pointer (some ⟨2, 47, none⟩)]]).run Tryz.prog w = .ok (.bool true) w := by kernel_rfl
theorem lh (v : Value) (w : World) : (Go.method (Tryz.prog.types.size + Made.depth) 312 v "Comparable").run Tryz.prog w = .ok (341, v) w := by kernel_rfl
theorem Ew(v:Value)(xT:TypeId)(w:World):(Instr.typeAssert (.iface 47 v) xT 314 true).run Tryz.prog w= .ok (.tuple #[.nilIface,.bool false]) w:=run_typeAssert_lacksB Tryz.underlying314 (by kernel_rfl) (by kernel_rfl) v xT w
theorem xV(v:Value)(xT:TypeId)(w:World):(Instr.typeAssert (.iface 47 v) xT 317 true).run Tryz.prog w= .ok (.tuple #[.nilIface,.bool false]) w:=run_typeAssert_lacksB Tryz.underlying317 (by kernel_rfl) (by kernel_rfl) v xT w
theorem vK(v:Value)(xT:TypeId)(w:World):(Instr.typeAssert (.iface 47 v) xT 319 true).run Tryz.prog w= .ok (.tuple #[.nilIface,.bool false]) w:=run_typeAssert_lacksB Tryz.underlying319 (by kernel_rfl) (by kernel_rfl) v xT w
theorem Dp(k m:Int)(w:World):
  Calls Tryz.prog 176 #[.iface 47 (.int .i64 k),.iface 47 (.int .i64 m),.bool true] w fun e w' =>e= .returned (.bool (decide (k=m)))∧w=w' :=by
 refine enter (N:=54) Tryz.func176 rfl rfl (by simp) ?_
 refine aP<|aZ<|nq (ab rfl)<|aY<|aD<|cJ<| ?_
 refine jS (fun _=>0) (fun _=>[(0,.iface 47 (.int .i64 k)),(1,.iface 47 (.int .i64 m)),(2,.bool true)]) (fun _ w' =>w=w') 0 (rfl) (ae (t:=0) rfl<|ae (t:=1) rfl<|ae (t:=2) rfl<|aA) (fun i w1 hw=> ?_)
 obtain rfl:=hw
 refine cJ<|aP<|aP<|aZ<|nq (aa rfl)<|nq (aa rfl)<|ng rfl rfl rfl (aa rfl)<|ng rfl rfl rfl (aa rfl)<|ng rfl rfl rfl (((BL rfl rfl Tryz.underlying247 (by kernel_rfl) Tryz.underlying47)))<|nq (bo rfl rfl)<|aY<|br (ae (t:=19) rfl<|ae (t:=0) rfl<|ae (t:=1) rfl<|ae (t:=2) rfl<|aA)<|aD<| ?_
 refine lC rfl (fun h=> ?_) (fun h=> ?_)
 ·refine aP<|aZ<|nq (ab rfl)<|aY<|aD<|dK<|bA<|cr<|bA<|cr<| ?_
  refine eW trivial rfl rfl ⟨?_,rfl⟩
  rw[decide_eq_true h]
 ·refine dy<|aD<|aP<|aP<|aZ<|nq (aa rfl)<|nq (pC rfl ((Ew _ _ _)))<|nq (aa rfl)<|nq (ao rfl rfl)<|nq (ao rfl rfl)<|nq (ab rfl)<|nq (ab rfl)<|aY<|br (ae (t:=8) rfl<|ae (t:=7) rfl<|ae (t:=19) rfl<|ae (t:=0) rfl<|ae (t:=1) rfl<|ae (t:=2) rfl<|aA)<|aD<|aP<|aZ<|nq (aa rfl)<|nq (aa rfl)<|iA rfl rfl rfl (by decide)<|iA rfl rfl rfl (by decide)<|iA rfl rfl rfl (by decide)<|nq (a7 rfl rfl)<|aY<|br (ae (t:=30) rfl<|ae (t:=8) rfl<|ae (t:=7) rfl<|ae (t:=19) rfl<|ae (t:=0) rfl<|ae (t:=1) rfl<|ae (t:=2) rfl<|aA)<|aD<| ?_
  refine oU rfl (rfl) ?_
  refine dy<|aD<|aP<|aZ<|nq (aa rfl)<|aY<|aD<|cJ<|aP<|aZ<|nq (pC rfl ((xV _ _ _)))<|nq (ao rfl rfl)<|nq (ao rfl rfl)<|aY<|br (ae (t:=34) rfl<|ae (t:=33) rfl<|ae (t:=31) rfl<|ae (t:=30) rfl<|ae (t:=8) rfl<|ae (t:=7) rfl<|ae (t:=19) rfl<|ae (t:=0) rfl<|ae (t:=1) rfl<|ae (t:=2) rfl<|aA)<|aD<| ?_
  refine oU rfl (rfl) ?_
  refine aP<|aZ<|nq (pC rfl ((vK _ _ _)))<|nq (ao rfl rfl)<|nq (ao rfl rfl)<|aY<|br (ae (t:=41) rfl<|ae (t:=40) rfl<|ae (t:=34) rfl<|ae (t:=33) rfl<|ae (t:=31) rfl<|ae (t:=30) rfl<|ae (t:=8) rfl<|ae (t:=7) rfl<|ae (t:=19) rfl<|ae (t:=0) rfl<|ae (t:=1) rfl<|ae (t:=2) rfl<|aA)<|aD<| ?_
  refine oU rfl (rfl) ?_
  refine aP<|aZ<|nq (ab rfl)<|aY<|br (ae (t:=41) rfl<|ae (t:=40) rfl<|ae (t:=34) rfl<|ae (t:=33) rfl<|ae (t:=31) rfl<|ae (t:=30) rfl<|ae (t:=8) rfl<|ae (t:=7) rfl<|ae (t:=19) rfl<|ae (t:=0) rfl<|ae (t:=1) rfl<|ae (t:=2) rfl<|aA)<|aD<|aP<|aZ<|nq (ab rfl)<|aY<|aD<|dK<|cr<|cr<|bA<|cr<| ?_
  refine eW trivial rfl rfl ⟨?_,rfl⟩
  rw[decide_eq_false h]
theorem n7(k m:Int)(w:World):
    Calls Tryz.prog 103 #[.iface 47 (.int .i64 k),.iface 47 (.int .i64 m)] w fun e w' =>e= .returned (.bool (decide (k=m)))∧w=w' :=by
  refine enter (N:=22) Tryz.func103 rfl rfl (by simp) ?_
  refine aP<|aZ<|nq (ab rfl)<|aY<|aD<|aP<|aP<|aZ<|nq (aa rfl)<|nq (((wW rfl rfl (by kernel_rfl))))<|nq (aa rfl)<|ng rfl rfl rfl (aa rfl)<|ng rfl rfl rfl (((wW rfl rfl (by kernel_rfl))))<|nq (a7 rfl rfl)<|aY<|br (ae (t:=11) rfl<|ae (t:=4) rfl<|ae (t:=0) rfl<|ae (t:=1) rfl<|aA)<|aD<| ?_
  refine oU rfl (rfl) ?_
  refine dy<|aD<|aP<|aZ<|nq (aa rfl)<| ?_
  refine nq (yZ rfl Tryz.func175 (by kernel_rfl) (by kernel_rfl) (by kernel_rfl) (show _=some Extern.ReflectliteType.typeOf by kernel_rfl) (yM _ _)) ?_
  refine nq (B5 rfl rfl (lh _ _) Tryz.func341 (by kernel_rfl) (by kernel_rfl) (by kernel_rfl) (g := Extern.ReflectliteType.method fun t => do Rtype.noPackHeld "Comparable" t; pure (.bool (← typeInfo t).comparable)) (by kernel_rfl) (qU _)) ?_
  refine nq (ab rfl)<|aY<|br (ae (t:=5) rfl<|ae (t:=11) rfl<|ae (t:=4) rfl<|ae (t:=0) rfl<|ae (t:=1) rfl<|aA)<|aD<|aP<|aZ<|nq (aa rfl)<|nq (aa rfl)<|nq (aa rfl)<| ?_
  refine nx (dY rfl Tryz.call176 (Dp k m w) ?_)
  rintro e_ w1 ⟨rfl,rfl⟩
  refine⟨_,rfl, ?_⟩
  refine nq (ab rfl)<|aY<|br (ae (t:=4) rfl<|ae (t:=5) rfl<|ae (t:=11) rfl<|ae (t:=0) rfl<|ae (t:=1) rfl<|aA)<|aD<|dK<| ?_
  exact eW trivial rfl rfl ⟨rfl,rfl⟩
def bY(s:List UInt8):List UInt8×Int:=match unhex s with
 |none=>(List.replicate 32 0,2)
 |some x=>if x.length=32 then(x,0)else(List.replicate 32 0,3)
theorem gA(s:List UInt8):(bY s).1.length=32:=by
 unfold bY
 split
 ·simp
 ·split
  ·assumption
  ·simp
theorem z7(s:List UInt8)(w:World)(hs:s.length≤140737488351232):
  Calls Tryz.prog 95 #[.string (strOf s)] w fun e w' =>e= .returned (.tuple #[.agg (aK (bY s).1).toArray,.int .i64 (bY s).2])∧Fr No w w' :=by
 refine enter (N:=21) Tryz.func95 rfl rfl (by simp) ?_
 refine aP<|aZ<| ?_
 refine nx (lQ cX fun g1 w1 hg1 hf1 hb1=> ?_)
 rw[oS]at hb1
 refine nq (ab rfl)<|aY<|aD<|aP<|aZ<|nq (aa rfl)<| ?_
 refine nx (dY rfl Tryz.call169 (CP s w1 hs) ?_)
 rintro e_ w2 ⟨⟨v,rfl,hv⟩,hf2⟩
 refine⟨_,rfl, ?_⟩
 have h12:=hb1.l9 hf2
 have z32:(aK (List.replicate 32 (0:UInt8))).length=32:=by rw[ax];simp
 unfold gD at hv
 split at hv
 ·rename_i x hx
  obtain⟨u,rfl,hu⟩:=hv
  obtain⟨Au,cu,rfl,hcu⟩:=hu.slice
  have ru:=(Own.rd hu).2.2
  have hxl:=fC s x hx
  refine nq (aa rfl)<|nq (ao rfl rfl)<|nq (ao rfl rfl)<|nq (ab rfl)<|nq (ab rfl)<|aY<|br (ae (t:=5) rfl<|ae (t:=4) rfl<|ae (t:=3) rfl<|ae (t:=2) rfl<|ae (t:=0) rfl<|aA)<|aD<|aP<|aP<|aZ<|nq (aa rfl)<|nq (cM rfl rfl)<|aY<|br (ae (t:=12) rfl<|ae (t:=5) rfl<|ae (t:=4) rfl<|ae (t:=3) rfl<|ae (t:=2) rfl<|ae (t:=0) rfl<|aA)<|aD<| ?_
  refine oU rfl ((decide_eq_false (fun h=>h rfl):decide (¬(0:Int)=0)=false)) ?_
  refine dy<|aD<|aP<|aP<|aZ<|nq (aa rfl)<|nq (aX rfl Tryz.underlying27)<|nq (cM rfl rfl)<|aY<|br (ae (t:=17) rfl<|ae (t:=12) rfl<|ae (t:=5) rfl<|ae (t:=4) rfl<|ae (t:=3) rfl<|ae (t:=2) rfl<|ae (t:=0) rfl<|aA)<|aD<| ?_
  refine lC rfl (fun h=> ?_) (fun h=> ?_)
  ·refine aP<|aZ<|nq (cK cX rfl (by kernel_rfl))<| ?_
   refine y6 (oB rfl rfl bj (List.length_replicate ..) h12 z32 fun w3 hf3 h13 hs3=> ?_)
   refine nq (ab rfl)<|aY<|br (ae (t:=3) rfl<|ae (t:=17) rfl<|ae (t:=12) rfl<|ae (t:=5) rfl<|ae (t:=4) rfl<|ae (t:=2) rfl<|ae (t:=0) rfl<|aA)<|aD<|dK<|bA<| ?_
   refine oV trivial rfl rfl rfl b5 bj z32 h13.au ⟨?_,(hf1.b9 hf2).new hf3 (fun i hi=>by omega)⟩
   rw[bY,hx]
   simp only
   rw[if_neg (fun e=>h (by rw[e];rfl))]
  ·have h32:x.length=32:=by omega
   rw[h32]at ru ⊢
   refine dy<|aD<|aP<|aZ<|nq (aa rfl)<| ?_
   refine nx (dY rfl Tryz.call170 (of Au cu x _ ru) ?_)
   rintro e_ w3 ⟨rfl,hf3⟩
   refine⟨_,rfl, ?_⟩
   refine y6 (oB rfl rfl bj h32 (h12.l9 hf3) z32 fun w4 hf4 h14 hs4=> ?_)
   refine nq (ab rfl)<|aY<|br (ae (t:=3) rfl<|ae (t:=17) rfl<|ae (t:=12) rfl<|ae (t:=5) rfl<|ae (t:=4) rfl<|ae (t:=2) rfl<|ae (t:=0) rfl<|aA)<|aD<|dK<| ?_
   refine oV trivial rfl rfl rfl b5 bj (by rw[ax];exact h32) h14.au ⟨?_,((hf1.b9 hf2).b9 hf3).new hf4 (fun i hi=>by omega)⟩
   rw[bY,hx]
   simp only
   rw[if_pos h32]
 ·rename_i hx
  subst hv
  refine nq (aa rfl)<|nq (ao rfl rfl)<|nq (ao rfl rfl)<|nq (ab rfl)<|nq (ab rfl)<|aY<|br (ae (t:=5) rfl<|ae (t:=4) rfl<|ae (t:=3) rfl<|ae (t:=2) rfl<|ae (t:=0) rfl<|aA)<|aD<|aP<|aP<|aZ<|nq (aa rfl)<|nq (cM rfl rfl)<|aY<|br (ae (t:=12) rfl<|ae (t:=5) rfl<|ae (t:=4) rfl<|ae (t:=3) rfl<|ae (t:=2) rfl<|ae (t:=0) rfl<|aA)<|aD<| ?_
  refine vG rfl ((decide_eq_true (by decide):decide (¬(2:Int)=0)=true)) ?_
  refine aP<|aZ<|nq (cK cX rfl (by kernel_rfl))<|nq (aa rfl)<| ?_
  refine y6 (oB rfl rfl bj (List.length_replicate ..) h12 z32 fun w3 hf3 h13 hs3=> ?_)
  refine nq (ab rfl)<|aY<|br (ae (t:=3) rfl<|ae (t:=12) rfl<|ae (t:=5) rfl<|ae (t:=4) rfl<|ae (t:=2) rfl<|ae (t:=0) rfl<|aA)<|aD<|dK<|bA<| ?_
  refine oV trivial rfl rfl rfl b5 bj z32 h13.au ⟨?_,(hf1.b9 hf2).new hf3 (fun i hi=>by omega)⟩
  rw[bY,hx]
  rfl
theorem zM(s:List UInt8)(w:World)(hs:s.length≤140737488351232):
  Calls Tryz.prog 92 #[.string (strOf s)] w fun e w' =>e= .returned (.tuple #[.agg (aK (bY s).1).toArray,.int .i64 (bY s).2])∧Fr No w w' :=by
 refine enter (N:=26) Tryz.func92 rfl rfl (by simp) ?_
 refine aP<|aZ<| ?_
 refine nx (lQ cX fun g1 w1 hg1 hf1 hb1=> ?_)
 rw[oS]at hb1
 refine nq (ab rfl)<|aY<|aD<|aP<|aZ<|nq (aa rfl)<| ?_
 refine nx (dY rfl Tryz.call166 (parse s w1 hs) ?_)
 rintro e_ w2 ⟨⟨v,rfl,hv⟩,hf2⟩
 refine⟨_,rfl, ?_⟩
 have h12:=hb1.l9 hf2
 have z32:(aK (List.replicate 32 (0:UInt8))).length=32:=by rw[ax];simp
 unfold gD at hv
 split at hv
 ·rename_i x hx
  obtain⟨u,rfl,hu⟩:=hv
  obtain⟨Au,cu,rfl,hcu⟩:=hu.slice
  have ru:=(Own.rd hu).2.2
  have hxl:=fC s x hx
  refine nq (aa rfl)<|nq (ao rfl rfl)<|nq (ao rfl rfl)<|nq (ab rfl)<|nq (ab rfl)<|aY<|br (ae (t:=5) rfl<|ae (t:=4) rfl<|ae (t:=3) rfl<|ae (t:=2) rfl<|ae (t:=0) rfl<|aA)<|aD<|aP<|cJ<|aP<|aZ<|nq (aa rfl)<|nq (kS rfl Tryz.underlying47 (fun _ h=>by cases h))<|nq (kS rfl Tryz.underlying47 (fun _ h=>by cases h))<| ?_
  refine nx (dY rfl Tryz.call103 (n7 0 2 _) ?_)
  rintro e_ w3 ⟨rfl,rfl⟩
  refine⟨_,rfl, ?_⟩
  refine nq (ab rfl)<|aY<|br (ae (t:=11) rfl<|ae (t:=5) rfl<|ae (t:=4) rfl<|ae (t:=3) rfl<|ae (t:=2) rfl<|ae (t:=0) rfl<|aA)<|aD<| ?_
  refine oU rfl ((decide_eq_false (by decide):decide ((0:Int)=2)=false)) ?_
  refine aP<|aZ<|nq (aa rfl)<|nq (aX rfl Tryz.underlying27)<|nq (cM rfl rfl)<|nq (ab rfl)<|aY<|br (ae (t:=18) rfl<|ae (t:=11) rfl<|ae (t:=5) rfl<|ae (t:=4) rfl<|ae (t:=3) rfl<|ae (t:=2) rfl<|ae (t:=0) rfl<|aA)<|aD<| ?_
  refine lC rfl (fun h=> ?_) (fun h=> ?_)
  ·refine aP<|aZ<|nq (cK cX rfl (by kernel_rfl))<| ?_
   refine y6 (oB rfl rfl bj (List.length_replicate ..) h12 z32 fun w3 hf3 h13 hs3=> ?_)
   refine nq (ab rfl)<|aY<|br (ae (t:=3) rfl<|ae (t:=18) rfl<|ae (t:=11) rfl<|ae (t:=5) rfl<|ae (t:=4) rfl<|ae (t:=2) rfl<|ae (t:=0) rfl<|aA)<|aD<|dK<|cr<|bA<| ?_
   refine oV trivial rfl rfl rfl b5 bj z32 h13.au ⟨?_,(hf1.b9 hf2).new hf3 (fun i hi=>by omega)⟩
   rw[bY,hx]
   simp only
   rw[if_neg (fun e=>h (by rw[e];rfl))]
  ·have h32:x.length=32:=by omega
   rw[h32]at ru ⊢
   obtain⟨ad,rfl⟩:∃ad,Au=some ad:=⟨_,ru.some (by omega)⟩
   refine dy<|eA<|aD<|aP<|aZ<|nq (aa rfl)<|nq (lW rfl Tryz.underlying53 (by omega))<|nq (aR rfl b5 bj ((by rw[ax];exact h32)) ru.2.2)<| ?_
   refine y6 (oB rfl rfl bj h32 h12 z32 fun w4 hf4 h14 hs4=> ?_)
   refine nq (ab rfl)<|aY<|br (ae (t:=3) rfl<|ae (t:=18) rfl<|ae (t:=11) rfl<|ae (t:=5) rfl<|ae (t:=4) rfl<|ae (t:=2) rfl<|ae (t:=0) rfl<|aA)<|aD<|dK<| ?_
   refine oV trivial rfl rfl rfl b5 bj (by rw[ax];exact h32) h14.au ⟨?_,(hf1.b9 hf2).new hf4 (fun i hi=>by omega)⟩
   rw[bY,hx]
   simp only
   rw[if_pos h32]
 ·rename_i hx
  subst hv
  refine nq (aa rfl)<|nq (ao rfl rfl)<|nq (ao rfl rfl)<|nq (ab rfl)<|nq (ab rfl)<|aY<|br (ae (t:=5) rfl<|ae (t:=4) rfl<|ae (t:=3) rfl<|ae (t:=2) rfl<|ae (t:=0) rfl<|aA)<|aD<|aP<|cJ<|aP<|aZ<|nq (aa rfl)<|nq (kS rfl Tryz.underlying47 (fun _ h=>by cases h))<|nq (kS rfl Tryz.underlying47 (fun _ h=>by cases h))<| ?_
  refine nx (dY rfl Tryz.call103 (n7 2 2 _) ?_)
  rintro e_ w3 ⟨rfl,rfl⟩
  refine⟨_,rfl, ?_⟩
  refine nq (ab rfl)<|aY<|br (ae (t:=11) rfl<|ae (t:=5) rfl<|ae (t:=4) rfl<|ae (t:=3) rfl<|ae (t:=2) rfl<|ae (t:=0) rfl<|aA)<|aD<| ?_
  refine vG rfl ((decide_eq_true rfl:decide ((2:Int)=2)=true)) ?_
  refine aP<|aZ<|nq (cK cX rfl (by kernel_rfl))<|nq (aa rfl)<| ?_
  refine y6 (oB rfl rfl bj (List.length_replicate ..) h12 z32 fun w3 hf3 h13 hs3=> ?_)
  refine nq (ab rfl)<|aY<|br (ae (t:=3) rfl<|ae (t:=11) rfl<|ae (t:=5) rfl<|ae (t:=4) rfl<|ae (t:=2) rfl<|ae (t:=0) rfl<|aA)<|aD<|dK<|cr<|bA<| ?_
  refine oV trivial rfl rfl rfl b5 bj z32 h13.au ⟨?_,(hf1.b9 hf2).new hf3 (fun i hi=>by omega)⟩
  rw[bY,hx]
  rfl
def fill(l:List UInt8)(n:Nat):List UInt8:=(List.range n).map fun i=>l.getD (i % l.length) 0
theorem p7(l:List UInt8)(n:Nat):fill l (n+1)=fill l n++[l.getD (n % l.length) 0]:=by simp[fill,List.range_succ]
theorem BS(A:Option Addr)(n c:Nat)(l:List UInt8)(m:Nat)(w:World)(hr:Rd w 1 A n (aK l))(hn:n≤140737488351232)(hm:m≤1000000):
  Calls Tryz.prog 101 #[.slice A n c,.int .i64 (m:Int)] w fun e w' =>∃v,e= .returned v∧Go.Eng.Own w' w.heap.size 5 1 v m (aK (fill l m))∧Fr No w w' :=by
 have hl:l.length=n:=by have:=hr.1;rw[ax]at this;omega
 refine enter (N:=29) Tryz.func101 rfl rfl (by simp) ?_
 refine aP<|aZ<|nq (ab rfl)<|aY<|aD<|aP<|aZ<|nq (ab rfl)<|aY<|aD<|aP<|aP<|aZ<|nq (ab rfl)<|aY<|aD<|cJ<| ?_
 refine oT (fun k _=>m-k) (fun k v=>[(0,.slice A n c),(1,.int .i64 (m:Int)),(5,v),(6,.int .i64 (k:Nat))]) (fun k v w' =>k≤m∧Go.Eng.Own w' w.heap.size 5 1 v k (aK (fill l k))∧Fr No w w') 0 (.slice none 0 0) (⟨Nat.zero_le _,Own.nil w w.heap.size _ 1,Fr.refl _ _⟩) (ae (t:=0) rfl<|ae (t:=1) rfl<|ae (t:=5) rfl<|ae (t:=6) rfl<|aA) (fun k v w2 ⟨hk,ho,hf⟩=> ?_)
 refine aP<|aP<|aZ<|nq (aa rfl)<|nq (aa rfl)<|nq (bk rfl rfl)<|aY<|br (ae (t:=9) rfl<|ae (t:=0) rfl<|ae (t:=1) rfl<|ae (t:=5) rfl<|ae (t:=6) rfl<|aA)<|aD<| ?_
 refine lC rfl (fun h=> ?_) (fun h=> ?_)
 ·refine dy<|aD<|aP<|cJ<|aP<|aZ<|nq (aa rfl)<|nq (aX rfl Tryz.underlying27)<|nq (cF rfl rfl)<|aY<|br (ae (t:=14) rfl<|ae (t:=9) rfl<|ae (t:=0) rfl<|ae (t:=1) rfl<|ae (t:=5) rfl<|ae (t:=6) rfl<|aA)<|aD<| ?_
  refine lC rfl (fun h2=> ?_) (fun h2=> ?_)
  ·have hkn:k % n<n:=Nat.mod_lt _ (by omega)
   have ga:=bC (l:=l) (i:=k % n) (by omega)
   have r2:=hr.l9 hf
   refine aZ<|nq (aa rfl)<|nq (aa rfl)<|nq (aa rfl)<|nq (aa rfl)<|nq (aX rfl Tryz.underlying27)<|nq (gr rfl rfl (by omega) (by omega))<|nq (aL rfl rfl Tryz.underlying27 dE r2.2.1 (show((k % n:Nat):Int)=_ by omega) (by omega))<|nq (av rfl iy (r2.cell ga))<| ?_
   refine nx (kR Tryz.underlying27 ey rfl rfl rfl (by simp[Value.cells,B8]) (by decide) (by decide) fun g w3 hg hf3 hb3=> ?_)
   refine nx (jJ rfl rfl Tryz.underlying27 Tryz.underlying27 (by exact .inl rfl) ey rfl (ho.l9 hf3) (Src.gE hb3 rfl) (aS (l:=[_])) (by unfold maxLen;omega) (by omega) (hf.b9 hf3).size fun v4 w4 ho4 hf4 hv4=> ?_)
   refine nq (ab rfl)<|aY<|br (ae (t:=5) rfl<|ae (t:=14) rfl<|ae (t:=9) rfl<|ae (t:=0) rfl<|ae (t:=1) rfl<|ae (t:=6) rfl<|aA)<|eA<|aD<|aZ<|nq (aa rfl)<|nq (aM rfl rfl (bB (by omega) (by omega)))<|nq (ab rfl)<|aY<|br (ae (t:=6) rfl<|ae (t:=5) rfl<|ae (t:=14) rfl<|ae (t:=9) rfl<|ae (t:=0) rfl<|ae (t:=1) rfl<|aA)<| ?_
   refine mG (k+1) v4 (ae (t:=0) rfl<|ae (t:=1) rfl<|ae (t:=5) rfl<|ae (t:=6) rfl<|aA) (⟨by omega,by rw[p7,bm,hl];exact ho4,(hf.b9 hf3).new hf4 (fun i hi=>(ho.from hi).1)⟩) (by omega)
  ·have h0:l=[]:=List.eq_nil_of_length_eq_zero (by omega)
   refine aZ<|nq (aa rfl)<| ?_
   refine nx (kR Tryz.underlying27 ey rfl rfl rfl (by simp[Value.cells,B8]) (by decide) (by decide) fun g w3 hg hf3 hb3=> ?_)
   refine nx (jJ rfl rfl Tryz.underlying27 Tryz.underlying27 (by exact .inl rfl) ey rfl (ho.l9 hf3) (Src.gE hb3 rfl) (aS (l:=[0])) (by unfold maxLen;omega) (by omega) (hf.b9 hf3).size fun v4 w4 ho4 hf4 hv4=> ?_)
   refine nq (ab rfl)<|aY<|br (ae (t:=5) rfl<|ae (t:=14) rfl<|ae (t:=9) rfl<|ae (t:=0) rfl<|ae (t:=1) rfl<|ae (t:=6) rfl<|aA)<|eA<|aD<|aZ<|nq (aa rfl)<|nq (aM rfl rfl (bB (by omega) (by omega)))<|nq (ab rfl)<|aY<|br (ae (t:=6) rfl<|ae (t:=5) rfl<|ae (t:=14) rfl<|ae (t:=9) rfl<|ae (t:=0) rfl<|ae (t:=1) rfl<|aA)<| ?_
   refine mG (k+1) v4 (ae (t:=0) rfl<|ae (t:=1) rfl<|ae (t:=5) rfl<|ae (t:=6) rfl<|aA) (⟨by omega,by rw[p7,bm,h0];rw[h0]at ho4;exact ho4,(hf.b9 hf3).new hf4 (fun i hi=>(ho.from hi).1)⟩) (by omega)
 ·obtain rfl:k=m:=by omega
  refine im<|bG<|bG<|cH<|aD<|aP<|aZ<|nq (aa rfl)<|nq (ab rfl)<|aY<|br (ae (t:=4) rfl<|ae (t:=9) rfl<|ae (t:=0) rfl<|ae (t:=1) rfl<|ae (t:=5) rfl<|ae (t:=6) rfl<|aA)<|aD<|dK<| ?_
  exact eW trivial rfl rfl ⟨v,rfl,ho,hf⟩
theorem D3(a:List UInt8)(w:World)(ha:a.length=32):
  Calls Tryz.prog 111 #[.agg (aK a).toArray] w fun e w' =>e= .returned (.string (strOf (b8 a)))∧Fr No w w' :=by
 refine enter (N:=6) Tryz.func111 rfl rfl (by simp) ?_
 refine aP<|aZ<| ?_
 refine nx (ox rfl fun g1 w1 hg1 hf1 hb1=> ?_)
 rw[bq]at hb1
 refine nq (ab rfl)<|aY<|aD<|aP<|aZ<|nq (aR rfl b5 bj ((by rw[ax];exact ha)) hb1.au)<| ?_
 refine nx (dY rfl Tryz.call183 (bytes a _ ha) ?_)
 rintro e_ w2 ⟨v,rfl,hv,hf2⟩
 refine⟨_,rfl, ?_⟩
 obtain⟨Av,cv,rfl,hcv⟩:=hv.slice
 refine nx (dY rfl Tryz.call182 (DQ Av _ cv a _ ((Own.rd hv).2.2) (by omega)) ?_)
 rintro e_ w3 ⟨rfl,hf3⟩
 refine⟨_,rfl, ?_⟩
 refine nq (ab rfl)<|aY<|br (ae (t:=2) rfl<|ae (t:=1) rfl<|ae (t:=0) rfl<|aA)<|aD<|dK<| ?_
 exact eW trivial rfl rfl ⟨rfl,(hf1.b9 hf2).b9 hf3⟩
theorem pa(d:List UInt8)(h:d.length=32):bY (b8 d)=(d,0):=by
 rw[bY,oK]
 simp only
 rw[if_pos h]
end Go.Proofs.YtmibdabdlgmafaaGreatDoor
end
section
namespace Go.Hx
open Go.Eng
abbrev Aq(ds:List (List UInt8)):Prop:=∀d∈ds,d.length=32
def kD:List (List UInt8)→List UInt8→List (List UInt8)
 | [],d=>[d]
 |a::r,d=>if cb a d<0 then a::kD r d else if a=d then a::r else d::a::r
theorem nT:∀(ds:List (List UInt8)) (d:List UInt8) (k:Nat),k≤ds.length→(∀i,i<k→cb (ds.getD i []) d<0)→(k<ds.length→¬cb (ds.getD k []) d<0)→
  kD ds d=if k<ds.length∧ds.getD k []=d then ds else ds.take k++[d]++ds.drop k
 | [],d,k,hk,_,_=>by
  obtain rfl:k=0:=by simpa using hk
  simp[kD]
 |a::r,d,0,_,_,h=>by
  have h0:=h (by simp)
  simp only[List.getD_cons_zero]at h0
  simp only[kD,if_neg h0,List.getD_cons_zero,List.take_zero,List.nil_append,List.drop_zero,List.singleton_append,List.length_cons,Nat.zero_lt_succ,true_and]
 |a::r,d,k+1,hk,h1,h2=>by
  have ha:=h1 0 (by omega)
  simp only[List.getD_cons_zero]at ha
  have ih:=nT r d k (by simpa using hk) (fun i hi=>by have:=h1 (i+1) (by omega);simpa using this) (fun hl=>by have:=h2 (by simpa using hl);simpa using this)
  simp only[kD,if_pos ha,ih,List.getD_cons_succ,List.length_cons,Nat.succ_lt_succ_iff,List.take_succ_cons,List.drop_succ_cons,List.cons_append]
  split <;> rfl
theorem sO(ds:List (List UInt8))(d:List UInt8):ds.length≤(kD ds d).length∧(kD ds d).length≤ds.length+1:=by
 induction ds with
 |nil=>simp[kD]
 |cons a r ih=>
  simp only[kD]
  split
  ·simp only[List.length_cons];omega
  ·split <;> simp
theorem x6{ds:List (List UInt8)}{d:List UInt8}(h:Aq ds)(hd:d.length=32):Aq (kD ds d):=by
 induction ds with
 |nil=>intro x hx;simp[kD]at hx;subst hx;exact hd
 |cons a r ih=>
  have ih' :=ih (fun x hx=>h x (List.mem_cons_of_mem _ hx))
  have ha:=h a (List.mem_cons_self ..)
  intro x hx
  simp only[kD]at hx
  split at hx
  ·rcases List.mem_cons.1 hx with rfl|hx
   ·exact ha
   ·exact ih' x hx
  ·split at hx
   ·exact h x hx
   ·rcases List.mem_cons.1 hx with rfl|hx
    ·exact hd
    ·exact h x hx
end Go.Hx
end
section
set_option maxRecDepth 20000
namespace Go.Proofs.YtmibdabdlgmafaaGreatDoor
open Go.Eng Go.Hx
theorem Ch{w:World}{A:Option Addr}{n:Nat}{ds:List (List UInt8)}(h:Rd w 32 A n (dc ds))(hd:Aq ds):ds.length=n:=by
 have:=h.1
 rw[vL hd]at this
 omega
end Go.Proofs.YtmibdabdlgmafaaGreatDoor
end
section
set_option maxRecDepth 20000
namespace Go.Proofs.YtmibdabdlgmafaaGreatDoor
open Go.Eng Go.Hx
end Go.Proofs.YtmibdabdlgmafaaGreatDoor
end
section
set_option maxRecDepth 20000
namespace Go.Proofs.YtmibdabdlgmafaaGreatDoor
open Go.Eng Go.Hx
theorem number(n:Nat)(w:World)(hn:n<4294967296):
  Calls Tryz.prog 160 #[.int .i64 (n:Int)] w fun e w' =>∃v,e= .returned v∧Go.Eng.Own w' w.heap.size 5 1 v 4 (aK (gx n))∧Fr No w w' :=by
 refine enter (N:=21) Tryz.func160 rfl rfl (by simp) ?_
 refine aP<|aZ<|nq (ab rfl)<|aY<|aD<|aP<|aZ<|nq (aa rfl)<|nq (bJ rfl Tryz.underlying3 Tryz.underlying166 ((uu (by omega) (by omega))))<|nq (ab rfl)<|aY<|br (ae (t:=3) rfl<|ae (t:=2) rfl<|ae (t:=0) rfl<|aA)<|aD<|aP<|aZ<|nq (aa rfl)<|nq (gr rfl rfl (by omega) (by omega))<|nq (bJ rfl Tryz.underlying166 Tryz.underlying5 ((show IntKind.u8.wrap ((n:Int) % 256)=((UInt8.ofNat n).toNat:Int) by simp[IntKind.wrap,IntKind.signed,IntKind.bits])))<|nq (aa rfl)<|nq (jF rfl rfl (by omega) (by omega) (uu (by omega) (by omega)))<|nq (gr rfl rfl (by omega) (by omega))<|nq (bJ rfl Tryz.underlying166 Tryz.underlying5 ((show IntKind.u8.wrap ((n:Int)/256 % 256)=((UInt8.ofNat (n/256)).toNat:Int) by simp[IntKind.wrap,IntKind.signed,IntKind.bits])))<|nq (aa rfl)<|nq (jF rfl rfl (by omega) (by omega) (uu (by omega) (by omega)))<|nq (gr rfl rfl (by omega) (by omega))<|nq (bJ rfl Tryz.underlying166 Tryz.underlying5 ((show IntKind.u8.wrap ((n:Int)/65536 % 256)=((UInt8.ofNat (n/65536)).toNat:Int) by simp[IntKind.wrap,IntKind.signed,IntKind.bits])))<|nq (aa rfl)<|nq (jF rfl rfl (by omega) (by omega) (uu (by omega) (by omega)))<|nq (bJ rfl Tryz.underlying166 Tryz.underlying5 ((show IntKind.u8.wrap ((n:Int)/16777216)=((UInt8.ofNat (n/16777216)).toNat:Int) by simp[IntKind.wrap,IntKind.signed,IntKind.bits])))<| ?_
 refine nx (kR Tryz.underlying27 ey rfl rfl rfl (by simp[Value.cells,B8]) (by decide) (by decide) fun g w1 hg hf1 hb1=> ?_)
 refine nq (ab rfl)<|aY<|br (ae (t:=2) rfl<|ae (t:=3) rfl<|ae (t:=0) rfl<|aA)<|aD<|dK<| ?_
 exact eW trivial rfl rfl ⟨_,rfl,Own.made hb1 hg (Nat.le_refl _) (by decide) rfl,hf1⟩
end Go.Proofs.YtmibdabdlgmafaaGreatDoor
end
section
set_option maxRecDepth 20000
namespace Go.Proofs.YtmibdabdlgmafaaGreatDoor
open Go.Eng Go.Hx
theorem vn{A:Option Addr}{n c:Nat}{l:List UInt8}{m:Nat}(hc:n≤c)(hn:n≤140737488351232):cj Tryz.prog 32 [.slice A n c,.int .i64 (m:Int)] [] [dw 1 A n (aK l)] (fun v_ X_ S_=>∃v,v_=v∧X_=[aF 5 1 v (min n m) (aK (l.take m))]∧S_=[]):=by
 exact gX fun mm=>Calls.mono (Fc A n c l m _ (mm.rd 0 rfl) hc hn) (fun e w' ⟨v,h,ho,hf⟩=>⟨v,v,_,_,_,_,h,⟨v,rfl,rfl,rfl⟩,ho,hf⟩)
theorem zE{n m:Int}(h1:-9223372036854775808≤n)(h2:n≤9223372036854775807)(hm:0<m):cj Tryz.prog 16 [.int .i64 n,.int .i64 m] [] [] (fun v_ X_ S_=>v_=(.int .i64 (iQ n m))∧X_=[]∧S_=[]):=by
 exact fx fun mm=>Calls.mono (xn n m _ h1 h2 hm) (fun e w' ⟨h,hw⟩=>⟨_,h,⟨rfl,rfl,rfl⟩,hw▸Fr.refl _ _⟩)
theorem rB{A:Option Addr}{n c:Nat}{l:List UInt8}(hn:n≤70368744177664):cj Tryz.prog 189 [.slice A n c] [] [dw 1 A n (aK l)] (fun v_ X_ S_=>∃v,v_=v∧X_=[aF 5 1 v (n+4) (aK (gy l))]∧S_=[]):=by
 exact gX fun m=>Calls.mono (za A n c l _ (m.rd 0 rfl) hn) (fun e w' ⟨v,h,ho,hf⟩=>⟨v,v,_,_,_,_,h,⟨v,rfl,rfl,rfl⟩,ho,hf⟩)
theorem Cs{a:List UInt8}(ha:a.length=32):cj Tryz.prog 183 [.agg (aK a).toArray] [] [] (fun v_ X_ S_=>∃v,v_=v∧X_=[aF 5 1 v 32 (aK a)]∧S_=[]):=by
 exact gX fun m=>Calls.mono (bytes a _ ha) (fun e w' ⟨v,h,ho,hf⟩=>⟨v,v,_,_,_,_,h,⟨v,rfl,rfl,rfl⟩,ho,hf⟩)
theorem vd{n:Nat}(hn:n<4294967296):cj Tryz.prog 160 [.int .i64 (n:Int)] [] [] (fun v_ X_ S_=>∃v,v_=v∧X_=[aF 5 1 v 4 (aK (gx n))]∧S_=[]):=by
 exact gX fun m=>Calls.mono (number n _ hn) (fun e w' ⟨v,h,ho,hf⟩=>⟨v,v,_,_,_,_,h,⟨v,rfl,rfl,rfl⟩,ho,hf⟩)
theorem wb{a b:List UInt8}(ha:a.length=32)(hb:b.length=32):cj Tryz.prog 171 [.agg (aK a).toArray,.agg (aK b).toArray] [] [] (fun v_ X_ S_=>v_=(.int .i64 (cb a b))∧X_=[]∧S_=[]):=by
 exact fx fun m=>Calls.mono (wv a b _ ha hb) (fun e w' ⟨h,hf⟩=>⟨_,h,⟨rfl,rfl,rfl⟩,hf⟩)
end Go.Proofs.YtmibdabdlgmafaaGreatDoor
end
section
set_option maxRecDepth 20000
namespace Go.Proofs.YtmibdabdlgmafaaGreatDoor
open Go.Eng Go.Hx
theorem wH{a:List UInt8}(ha:a.length=32):cj Tryz.prog 104 [.agg (aK a).toArray] [] [] (fun v_ X_ S_=>v_=(.string (strOf (b8 a)))∧X_=[]∧S_=[]):=by
 exact fx fun m=>Calls.mono (name a _ ha) (fun e w' ⟨h,hf⟩=>⟨_,h,⟨rfl,rfl,rfl⟩,hf⟩)
theorem uH{a:List UInt8}(ha:a.length=32):cj Tryz.prog 111 [.agg (aK a).toArray] [] [] (fun v_ X_ S_=>v_=(.string (strOf (b8 a)))∧X_=[]∧S_=[]):=by
 exact fx fun m=>Calls.mono (D3 a _ ha) (fun e w' ⟨h,hf⟩=>⟨_,h,⟨rfl,rfl,rfl⟩,hf⟩)
theorem y1{s:List UInt8}(hs:s.length≤1000000):cj Tryz.prog 92 [.string (strOf s)] [] [] (fun v_ X_ S_=>v_=(.tuple #[.agg (aK (bY s).1).toArray,.int .i64 (bY s).2])∧X_=[]∧S_=[]):=by
 exact fx fun m=>Calls.mono (zM s _ (by omega)) (fun e w' ⟨h,hf⟩=>⟨_,h,⟨rfl,rfl,rfl⟩,hf⟩)
theorem vr{s:List UInt8}(hs:s.length≤1000000):cj Tryz.prog 95 [.string (strOf s)] [] [] (fun v_ X_ S_=>v_=(.tuple #[.agg (aK (bY s).1).toArray,.int .i64 (bY s).2])∧X_=[]∧S_=[]):=by
 exact fx fun m=>Calls.mono (z7 s _ (by omega)) (fun e w' ⟨h,hf⟩=>⟨_,h,⟨rfl,rfl,rfl⟩,hf⟩)
theorem Cc{k q:Int}:cj Tryz.prog 103 [.iface 47 (.int .i64 k),.iface 47 (.int .i64 q)] [] [] (fun v_ X_ S_=>v_=(.bool (decide (k=q)))∧X_=[]∧S_=[]):=by
 exact fx fun m=>Calls.mono (n7 k q _) (fun e w' ⟨h,hw⟩=>⟨_,h,⟨rfl,rfl,rfl⟩,hw▸Fr.refl _ _⟩)
theorem DJ{A:Option Addr}{n c:Nat}{l:List UInt8}{k:Nat}(hn:n≤140737488351232)(hk:k≤1000000):cj Tryz.prog 101 [.slice A n c,.int .i64 (k:Nat)] [] [dw 1 A n (aK l)] (fun v_ X_ S_=>∃v,v_=v∧X_=[aF 5 1 v k (aK (fill l k))]∧S_=[]):=by
 exact gX fun m=>Calls.mono (BS A n c l k _ (m.rd 0 rfl) hn hk) (fun e w' ⟨v,h,ho,hf⟩=>⟨v,v,_,_,_,_,h,⟨v,rfl,rfl,rfl⟩,ho,hf⟩)
end Go.Proofs.YtmibdabdlgmafaaGreatDoor
end
section
set_option maxRecDepth 20000
namespace Go.Proofs.YtmibdabdlgmafaaGreatDoor
open Go.Eng Go.Hx
theorem rR{l:List UInt8}{c:UInt8}:cj Tryz.prog 267 [.string (strOf l),B8 c] [] [] (fun v_ X_ S_=>v_=(.int .i64 (Lib.indexByte l c))∧X_=[]∧S_=[]):=by
 refine aU (N:=8) Tryz.func267 rfl rfl (by simp) fun b=> ?_
 refine ah<|aj<|hy (fun _=>ab rfl)<|ai<|ag<|ah<|aj<|hy (fun _=>aa rfl)<|hy (fun _=>aa rfl)<| ?_
 refine hx (fj (fun m=>yZ rfl Tryz.func295 (by kernel_rfl) (by kernel_rfl) (by kernel_rfl) (show _=some Extern.BytealgIndexByte.indexByte by kernel_rfl) (Lib.run_indexByteString _ _ _)) ?_)
 refine hy (fun _=>ab rfl)<|ai<|al (ρ' :=[(4,_),(0,_),(1,_)]) ⟨rfl,rfl,rfl,trivial⟩<|ag<|aQ<| ?_
 exact bd trivial rfl rfl [] rfl [] rfl ⟨(by congr 2;simp),rfl,rfl⟩
theorem vQ{l:List UInt8}{c:UInt8}:cj Tryz.prog 274 [.string (strOf l),.string (strOf [c])] [] [] (fun v_ X_ S_=>v_=(.int .i64 (Lib.indexByte l c))∧X_=[]∧S_=[]):=by
 refine aU (N:=143) Tryz.func274 rfl rfl (by simp) fun b=> ?_
 refine ah<|aj<|hy (fun _=>ab rfl)<|ai<|ag<|ah<|aj<|hy (fun _=>aa rfl)<|hy (fun _=>yV (cQ rfl Tryz.underlying9) ((rfl:_=Value.int .i64 1)))<|hy (fun _=>ab rfl)<|ai<|al (ρ' :=[(5,_),(4,_),(0,_),(1,_)]) ⟨rfl,rfl,rfl,rfl,trivial⟩<|ag<|ah<|aN<|ah<|aj<|hy (fun _=>aa rfl)<|hy (fun _=>cy rfl rfl)<|hy (fun _=>aa rfl)<| ?_
 refine ca (o:=_) rfl rfl rfl (fun _=>aa rfl)<|ca (o:=_) rfl rfl rfl (fun _=>aa rfl)<|ca (o:=_) rfl rfl rfl (fun _=>p6 rfl rfl)<|hy (fun _=>a7 rfl rfl)<|hy (fun _=>ab rfl)<|ai<|al (ρ' :=[(16,_),(5,_),(4,_),(0,_),(1,_)]) ⟨rfl,rfl,rfl,rfl,rfl,trivial⟩<|ag<| ?_
 refine cI rfl (fun h=> ?_) (fun h=> ?_)
 ·obtain rfl:=cE.1 h
  refine ah<|aj<|hy (fun _=>ab rfl)<|ai<|ag<|aQ<|bc<|ay<| ?_
  exact bd trivial rfl rfl [] rfl [] rfl ⟨(by simp[Lib.indexByte]),rfl,rfl⟩
 ·refine ah<|aj<|hy (fun _=>aa rfl)<|hy (fun _=>cy rfl rfl)<|hy (fun _=>ab rfl)<|ai<|al (ρ' :=[(24,_),(16,_),(5,_),(4,_),(0,_),(1,_)]) ⟨rfl,rfl,rfl,rfl,rfl,rfl,trivial⟩<|ag<| ?_
  refine fe rfl (rfl) ?_
  refine ah<|aj<|hy (fun _=>aa rfl)<|hy (fun _=>aa rfl)<|hy (fun _=>yV (eC rfl rfl Tryz.underlying9 rfl (ic (by simp))) ((rfl:_=B8 c)))<| ?_
  refine hx (aq rfl Tryz.call267 (rR) [] rfl [] rfl ?_)
  rintro _ _ _ ⟨rfl,rfl,rfl⟩
  refine hy (fun _=>ab rfl)<|ai<|al (ρ' :=[(4,_),(24,_),(16,_),(5,_),(0,_),(1,_)]) ⟨rfl,rfl,rfl,rfl,rfl,rfl,trivial⟩<|ak (X' :=[]) (S' :=[]) (fun _ m=>m)<|ag<|aQ<|bc<|ay<| ?_
  exact bd trivial rfl rfl [] rfl [] rfl ⟨rfl,rfl,rfl⟩
theorem om{l:List UInt8}{c:UInt8}:cj Tryz.prog 233 [.string (strOf l),.string (strOf [c])] [] [] (fun v_ X_ S_=>v_=(.int .i64 (Lib.indexByte l c))∧X_=[]∧S_=[]):=by
 refine aU (N:=8) Tryz.func233 rfl rfl (by simp) fun b=> ?_
 refine ah<|aj<|hy (fun _=>ab rfl)<|ai<|ag<|ah<|aj<|hy (fun _=>aa rfl)<|hy (fun _=>aa rfl)<| ?_
 refine hx (aq rfl Tryz.call274 (vQ) [] rfl [] rfl ?_)
 rintro _ _ _ ⟨rfl,rfl,rfl⟩
 refine hy (fun _=>ab rfl)<|ai<|al (ρ' :=[(4,_),(0,_),(1,_)]) ⟨rfl,rfl,rfl,trivial⟩<|ak (X' :=[]) (S' :=[]) (fun _ m=>m)<|ag<|aQ<| ?_
 exact bd trivial rfl rfl [] rfl [] rfl ⟨rfl,rfl,rfl⟩
theorem tI{l:List UInt8}{c:UInt8}:cj Tryz.prog 184 [.string (strOf l),.string (strOf [c])] [] [] (fun v_ X_ S_=>v_=(.bool (decide (c∈l)))∧X_=[]∧S_=[]):=by
 refine aU (N:=9) Tryz.func184 rfl rfl (by simp) fun b=> ?_
 refine ah<|aj<|hy (fun _=>ab rfl)<|ai<|ag<|ah<|aj<|hy (fun _=>aa rfl)<|hy (fun _=>aa rfl)<| ?_
 refine hx (aq rfl Tryz.call233 (om) [] rfl [] rfl ?_)
 rintro _ _ _ ⟨rfl,rfl,rfl⟩
 refine hy (fun _=>gG rfl rfl)<|hy (fun _=>ab rfl)<|ai<|al (ρ' :=[(4,_),(0,_),(1,_)]) ⟨rfl,rfl,rfl,trivial⟩<|ak (X' :=[]) (S' :=[]) (fun _ m=>m)<|ag<|aQ<| ?_
 exact bd trivial rfl rfl [] rfl [] rfl ⟨(by congr 1;rw[←Lib.contains_iff_indexByte];simp),rfl,rfl⟩
def jH(p:List UInt8):Prop:=p≠ []∧p.length≤96∧¬(0:UInt8)∈p
instance(p:List UInt8):Decidable (jH p):=by unfold jH;infer_instance
theorem uB(p:List UInt8):strOf p≠⟨#[]⟩↔p≠ []:=by
 rw[show(⟨#[]⟩:ByteArray)=strOf []from rfl]
 simp only[ne_eq,cE]
theorem yd{p:List UInt8}:cj Tryz.prog 115 [.string (strOf p)] [] [] (fun v_ X_ S_=>v_=(.bool (decide (jH p)))∧X_=[]∧S_=[]):=by
 have hsz:=cU p
 refine aU (N:=15) Tryz.func115 rfl rfl (by simp) fun b=> ?_
 refine ah<|aj<|hy (fun _=>ab rfl)<|ai<|ag<|ah<|aj<|hy (fun _=>aa rfl)<|hy (fun _=>nV rfl rfl)<|hy (fun _=>aa rfl)<| ?_
 refine eG 5 rfl (fun h1=> ?_) (fun h1=> ?_)
 ·have h1' :=(uB p).1 h1
  refine ca (o:=_) rfl rfl rfl (fun _=>aa rfl)<|ca (o:=_) rfl rfl rfl (fun _=>cQ rfl Tryz.underlying9)<|ca (o:=_) rfl rfl rfl (fun _=>lA rfl rfl)<|hy (fun _=>bo rfl rfl)<|hy (fun _=>aa rfl)<| ?_
  refine eG 10 rfl (fun h2=> ?_) (fun h2=> ?_)
  ·have h2' :p.length≤96:=by omega
   refine ca (o:=_) rfl rfl rfl (fun _=>aa rfl)<| ?_
   refine tw (o:=_) rfl rfl rfl (aq rfl Tryz.call184 (tI) [] rfl [] rfl ?_)
   rintro _ _ _ ⟨rfl,rfl,rfl⟩
   refine ca (o:=_) rfl rfl rfl (fun _=>dT rfl)<|hy (fun _=>bo rfl rfl)<|hy (fun _=>ab rfl)<|ai<|al (ρ' :=[(2,_),(0,_)]) ⟨rfl,rfl,trivial⟩<|ak (X' :=[]) (S' :=[]) (fun _ m=>m)<|ag<|aQ<| ?_
   exact bd trivial rfl rfl [] rfl [] rfl ⟨(by congr 1;simp only[jH];simp[h1',h2']),rfl,rfl⟩
  ·have h2' :¬p.length≤96:=by omega
   refine a6 rfl rfl rfl (by decide)<|a6 rfl rfl rfl (by decide)<|a6 rfl rfl rfl (by decide)<|hy (fun _=>a7 rfl rfl)<|hy (fun _=>ab rfl)<|ai<|al (ρ' :=[(2,_),(0,_)]) ⟨rfl,rfl,trivial⟩<|ag<|aQ<| ?_
   exact bd trivial rfl rfl [] rfl [] rfl ⟨(by congr 1;simp only[jH];simp[h2']),rfl,rfl⟩
 ·have h1' :¬p≠ []:=fun h=>h1 ((uB p).2 h)
  refine a6 rfl rfl rfl (by decide)<|a6 rfl rfl rfl (by decide)<|a6 rfl rfl rfl (by decide)<|hy (fun _=>a7 rfl rfl)<|hy (fun _=>aa rfl)<| ?_
  refine a6 rfl rfl rfl (by decide)<|a6 rfl rfl rfl (by decide)<|a6 rfl rfl rfl (by decide)<|hy (fun _=>a7 rfl rfl)<|hy (fun _=>ab rfl)<|ai<|al (ρ' :=[(2,_),(0,_)]) ⟨rfl,rfl,trivial⟩<|ag<|aQ<| ?_
  exact bd trivial rfl rfl [] rfl [] rfl ⟨(by congr 1;simp only[jH];simp[h1']),rfl,rfl⟩
end Go.Proofs.YtmibdabdlgmafaaGreatDoor
end
section
set_option maxRecDepth 20000
namespace Go.Proofs.YtmibdabdlgmafaaGreatDoor
open Go.Eng Go.Hx
abbrev dM:=List (List UInt8×ej)
def dW(l:dM):List (List UInt8×Value):=l.map fun x=>(x.1,x.2.val)
def m7(l:dM):Nat:=(l.map fun x=>x.2.n).sum
theorem lv:∀(l:dM) (p:List UInt8),bX (dW l) p=(bX l p).map ej.val
 | [],p=>rfl
 |(k,r)::q,p=>by
  have:=lv q p
  simp only[dW,List.map_cons,bX]at this ⊢
  split <;> simp_all
theorem oa:∀(l:dM) (p:List UInt8) (r:ej),cC (dW l) p r.val=dW (cC l p r)
 | [],p,r=>rfl
 |(k,u)::q,p,r=>by
  have:=oa q p r
  simp only[dW,List.map_cons,cC]at this ⊢
  split <;> simp_all
theorem r8:∀(l:dM) (p:List UInt8),fa (dW l) p=dW (fa l p)
 | [],p=>rfl
 |(k,u)::q,p=>by
  have:=r8 q p
  simp only[dW,List.map_cons,fa]at this ⊢
  split <;> simp_all
theorem uU{l:dM}{j:Nat}{p:List UInt8×Value}(h:(dW l)[j]? =some p):∃r,l[j]? =some (p.1,r)∧p.2=r.val:=by
 simp only[dW,List.getElem?_map]at h
 cases hl:l[j]? with
 |none=>rw[hl]at h;cases h
 |some x=>
  rw[hl]at h
  simp only[Option.map_some,Option.some.injEq]at h
  subst h
  exact⟨x.2,rfl,rfl⟩
theorem kW(l:dM)(j:Nat):(dW l).eraseIdx j=dW (l.eraseIdx j):=(map_eraseIdx _ l j).symm
theorem qi:∀{l:dM} {j:Nat} {x:List UInt8×ej},l[j]? =some x→m7 (l.eraseIdx j)+x.2.n=m7 l
 | [],j,x,h=>by simp at h
 |a::q,0,x,h=>by
  simp only[List.getElem?_cons_zero,Option.some.injEq]at h
  subst h
  simp[m7];omega
 |a::q,j+1,x,h=>by
  simp only[List.getElem?_cons_succ]at h
  have:=qi h
  simp only[m7,List.eraseIdx_cons_succ,List.map_cons,List.sum_cons]at this ⊢
  omega
inductive iZ
 |written (p:List UInt8) (r:ej)
 |renamed (a b:List UInt8)
 |removed (p:List UInt8)
def iZ.row:iZ→Option ej
 | .written _ r=>some r
 |_=>none
def iZ.val:iZ→Value
 | .written p r=>.iface 189 (.agg [SV p,r.val].toArray)
 | .renamed a b=>.iface 257 (.agg [SV a,SV b].toArray)
 | .removed p=>.iface 237 (.agg [SV p].toArray)
structure c7 where
 room:Int
 gs:Nat
 gl:Nat
 seen:dM
 dS:dM
 waits:List iZ
 wA:Option Addr
 wc:Nat
 cA:Int
def rowsOf(st:c7):List ej:=st.seen.map (·.2)++st.dS.map (·.2)++st.waits.filterMap iZ.row
def ln(st:c7):List Value:=[.int .i64 st.room,.map (some st.gs),.map (some st.gl),.slice st.wA st.waits.length st.wc,.int .i64 st.cA]
abbrev bM(g:Nat)(st:c7):bf:=eX [aH g 177 (ln st),dR SV st.gs (dW st.seen),dR SV st.gl (dW st.dS),aF 232 1 (.slice st.wA st.waits.length st.wc) st.waits.length (st.waits.map iZ.val),ik (rowsOf st)]
def lE(n:Int)(gs gl:Nat):c7:=⟨n,gs,gl,[],[],[],none,0,-1⟩
theorem EP{n:Int}(h1:1≤n)(h2:n≤1048576):cj Tryz.prog 24 [.int .i64 n] [] [] (fun v_ X_ S_=>∃g gs gl,v_=(.tuple #[.pointer (some ⟨g,0,none⟩),.int .i64 0])∧X_=[bM g (lE n gs gl)]∧S_=[]):=by
 refine aU (N:=15) Tryz.func24 rfl rfl (by simp) fun b=> ?_
 refine ah<|aj<|hy (fun _=>ab rfl)<|hy (fun _=>ab rfl)<|ai<|ag<|ah<|ah<|aj<|hy (fun _=>aa rfl)<|hy (fun _=>bk rfl rfl)<|hy (fun _=>aa rfl)<| ?_
 refine eG 6 rfl (fun h=> ?_) (fun h=> ?_)
 ·exact absurd h (by omega)
 ·refine ca (o:=_) rfl rfl rfl (fun _=>aa rfl)<|ca (o:=_) rfl rfl rfl (fun _=>cF rfl rfl)<|hy (fun _=>a7 rfl rfl)<|ai<|al (ρ' :=[(9,_),(3,_),(2,_),(0,_)]) ⟨rfl,rfl,rfl,rfl,trivial⟩<|ag<| ?_
  refine dx rfl (decide_eq_false (by omega)) ?_
  refine aC<|ag<|ah<|aj<|hy (fun _=>aa rfl)<| ?_
  refine hx (lL SV (fun g11=> ?_))
  refine hx (lL SV (fun g12=> ?_))
  refine hy (fun _=>yV (cD Ei rfl rfl (by kernel_rfl) (.cons (o:=0) (sz:=1) (by kernel_rfl) rfl rfl (Nat.le_of_ble_eq_true rfl) (.cons (o:=1) (sz:=1) (by kernel_rfl) rfl rfl (Nat.le_of_ble_eq_true rfl) (.cons (o:=2) (sz:=1) (by kernel_rfl) rfl rfl (Nat.le_of_ble_eq_true rfl) (.cons (o:=4) (sz:=1) (by kernel_rfl) rfl rfl (Nat.le_of_ble_eq_true rfl) .nil))))) ((rfl:_=Value.agg (ln (lE n g11 g12)).toArray)))<| ?_
  refine hx (cp rfl (fun g14=> ?_))
  refine hy (fun _=>ab rfl)<|hy (fun _=>ab rfl)<|ai<|al (ρ' :=[(3,_),(2,_),(9,_),(0,_)]) ⟨rfl,rfl,rfl,rfl,trivial⟩<|ak (X' :=[_,_,_]) (S' :=[]) (fun _ m=>m)<|ag<|aQ<| ?_
  refine ak (fun w m=>m.cL (r' :=aF 232 1 (.slice none 0 0) 0 []) (.refl _ _) (Own.nil _ _ _ _) (fun k hk=>hk.elim)) ?_
  refine ak (fun w m=>m.yr) ?_
  refine ak (X' :=bM g14 (lE n g11 g12)::_) (fun w m=>(m.perm (az [2,3,2,1,0] _ [_,_,_,_,_] _ rfl)).pack) ?_
  exact cW trivial rfl rfl rfl [0] rfl [] rfl ⟨_,_,_,rfl,rfl,rfl⟩
theorem EC{g:Nat}{st:c7}:cj Tryz.prog 87 [.pointer (some ⟨g,0,none⟩)] [bM g st] [] (fun v_ X_ S_=>v_=(.bool (decide (st.cA≠0)))∧X_=[bM g st]∧S_=[]):=by
 refine aU (N:=8) Tryz.func87 rfl rfl (by simp) fun b=> ?_
 refine bD (fun w m=>(m.perm (az [0] _ [_] _ rfl)).unpack) ?_
 refine ah<|aj<|hy (fun _=>ab rfl)<|ai<|ag<|ah<|aj<|hy (fun _=>aa rfl)<|hy (fun _=>bx rfl)<|hy (fun _=>aI rfl nR (by decide))<|hy (fun m=>av rfl dV (aB (m.aT 0 rfl) rfl))<|hy (fun _=>cM rfl rfl)<|hy (fun _=>ab rfl)<|ai<|al (ρ' :=[(2,_),(0,_)]) ⟨rfl,rfl,trivial⟩<|ag<|aQ<| ?_
 refine ak (X' :=bM g st::_) (fun w m=>(m.perm (az [0,0,0,0,0] _ [_,_,_,_,_] _ rfl)).pack) ?_
 exact bd trivial rfl rfl [0] rfl [] rfl ⟨rfl,rfl,rfl⟩
def c7.fk(st:c7):c7:={st with cA:=if 0<st.cA then st.cA-1 else st.cA}
theorem s5{g:Nat}{st:c7}(hp:st.cA≤1000000000000):cj Tryz.prog 181 [.pointer (some ⟨g,0,none⟩)] [bM g st] [] (fun v_ X_ S_=>v_=(.tuple #[])∧X_=[bM g st.fk]∧S_=[]):=by
 refine aU (N:=14) Tryz.func181 rfl rfl (by simp) fun b=> ?_
 refine bD (fun w m=>(m.perm (az [0] _ [_] _ rfl)).unpack) ?_
 refine ah<|aj<|hy (fun _=>aa rfl)<|hy (fun _=>bx rfl)<|hy (fun _=>aI rfl nR (by decide))<|hy (fun m=>av rfl dV (aB (m.aT 0 rfl) rfl))<|hy (fun _=>cF rfl rfl)<|ai<|al (ρ' :=[(6,_),(0,_)]) ⟨rfl,rfl,trivial⟩<|ag<| ?_
 refine cI rfl (fun h=> ?_) (fun h=> ?_)
 ·have e:st.fk={st with cA:=st.cA-1}:=by simp only[c7.fk,if_pos h]
  rw[e]
  refine aj<|hy (fun _=>aa rfl)<|hy (fun _=>bx rfl)<|hy (fun _=>aI rfl nR (by decide))<|hy (fun m=>av rfl dV (aB (m.aT 0 rfl) rfl))<|hy (fun _=>b6 rfl rfl (bB (by omega) (by omega)))<|hy (fun _=>bx rfl)<|hy (fun _=>aI rfl nR (by decide))<| ?_
  refine cN (ct 0 rfl rfl rfl rl rfl (by first|exact Nat.le_of_ble_eq_true rfl|simp) ?_)
  refine ai<|al (ρ' :=[(6,_),(0,_)]) ⟨rfl,rfl,trivial⟩<|ak (X' :=[_,_,_,_,_]) (S' :=[]) (fun _ m=>m)<| ?_
  refine ak (X' :=bM g {st with cA:=st.cA-1}::_) (fun w m=>(m.perm (az [0,0,0,0,0] _ [_,_,_,_,_] _ rfl)).pack) ?_
  exact gH trivial rfl [0] rfl [] rfl ⟨rfl,rfl,rfl⟩
 ·have e:st.fk=st:=by simp only[c7.fk,if_neg h]
  rw[e]
  refine aC<| ?_
  refine ak (X' :=bM g st::_) (fun w m=>(m.perm (az [0,0,0,0,0] _ [_,_,_,_,_] _ rfl)).pack) ?_
  exact gH trivial rfl [0] rfl [] rfl ⟨rfl,rfl,rfl⟩
theorem DL{g:Nat}{st:c7}(ht:m7 st.seen≤1000000000000):cj Tryz.prog 88 [.pointer (some ⟨g,0,none⟩)] [bM g st] [] (fun v_ X_ S_=>v_=(.int .i64 (m7 st.seen:Nat))∧X_=[bM g st]∧S_=[]):=by
 refine aU (N:=20) Tryz.func88 rfl rfl (by simp) fun b=> ?_
 refine bD (fun w m=>(m.perm (az [0] _ [_] _ rfl)).unpack) ?_
 refine ah<|aj<|hy (fun _=>ab rfl)<|ai<|ag<|ah<|aj<|hy (fun _=>ab rfl)<|ai<|ag<|ah<|ah<|aj<|hy (fun _=>aa rfl)<|hy (fun _=>bx rfl)<|hy (fun _=>aI rfl iB (by decide))<|hy (fun m=>av rfl mP (aB (m.aT 0 rfl) rfl))<| ?_
 refine hx (rA 1 rfl rfl Tryz.underlying174 (fun r10=> ?_))
 refine ai<|al (ρ' :=[(10,_),(3,_),(2,_),(0,_)]) ⟨rfl,rfl,rfl,rfl,trivial⟩<|ak (X' :=[_,_,_,_,_]) (S' :=[]) (fun _ m=>m)<|ag<|aN<| ?_
 refine gY (fun left n cur=>left.length) (fun left n cur=>[(3,.int .i64 (n:Nat))]) (fun left n cur=>[j4 SV r10 st.gs (dW st.seen) (dW left) cur]) (fun left n cur=>[]) (fun left n cur=>n+m7 left=m7 st.seen) st.seen 0 none [(10,_),(2,_),(0,_)] ⟨rfl,rfl,rfl,trivial⟩ [0] rfl [] rfl (Nat.zero_add _) ⟨rfl,trivial⟩ (fun left n cur hI=> ?_)
 refine ah<|aj<| ?_
 refine hx (uQ 0 rfl rfl (fun h0=> ?_) (fun j p hp=> ?_))
 ·obtain rfl:left=[]:=List.map_eq_nil_iff.1 h0
  have hn:n=m7 st.seen:=by simpa[m7]using hI
  subst hn
  refine hy (fun _=>ao rfl rfl)<|ai<|al (ρ' :=[(12,_),(3,_),(10,_),(2,_),(0,_)]) ⟨rfl,rfl,rfl,rfl,rfl,trivial⟩<|ag<|ah<| ?_
  refine dx rfl (rfl) ?_
  refine bS<|ar<|ar<|aE<|ag<|ah<|aj<|hy (fun _=>aa rfl)<|hy (fun _=>ab rfl)<|ai<|al (ρ' :=[(2,_),(12,_),(3,_),(10,_),(0,_)]) ⟨rfl,rfl,rfl,rfl,rfl,trivial⟩<|ag<|aQ<| ?_
  refine ak (fun w m=>m.xe 0 rfl) ?_
  refine ak (X' :=bM g st::_) (fun w m=>(m.perm (az [1,0,0,0,0] _ [_,_,_,_,_] _ rfl)).pack) ?_
  exact bd trivial rfl rfl [0] rfl [] rfl ⟨rfl,rfl,rfl⟩
 ·obtain⟨k,v⟩:=p
  obtain⟨r,hr,e⟩:=uU hp
  obtain rfl:v=r.val:=e
  have ht:=qi hr
  have hlt:=(List.getElem?_eq_some_iff.1 hr).1
  simp only at ht
  refine hy (fun _=>ao rfl rfl)<|ai<|al (ρ' :=[(12,_),(3,_),(10,_),(2,_),(0,_)]) ⟨rfl,rfl,rfl,rfl,rfl,trivial⟩<|ag<|ah<| ?_
  refine fe rfl (rfl) ?_
  refine aC<|ag<|aN<|ah<|aj<|hy (fun m=>sd rfl (m.DF 0 rfl))<|hy (fun _=>yV (ao rfl rfl) ((rfl:_=Value.slice r.A r.n r.c)))<|hy (fun _=>ab rfl)<|ai<|al (ρ' :=[(5,_),(12,_),(3,_),(10,_),(2,_),(0,_)]) ⟨rfl,rfl,rfl,rfl,rfl,rfl,trivial⟩<|ag<|aj<|hy (fun _=>aa rfl)<|hy (fun _=>aa rfl)<|hy (fun _=>aX rfl Tryz.underlying27)<|hy (fun _=>aM rfl rfl (bB (by omega) (by omega)))<|hy (fun _=>ab rfl)<|ai<|al (ρ' :=[(3,_),(5,_),(12,_),(10,_),(2,_),(0,_)]) ⟨rfl,rfl,rfl,rfl,rfl,rfl,trivial⟩<|aW<| ?_
  refine ak (fun w m=>m.bQ 0 rfl (show _=j4 SV r10 st.gs (dW st.seen) (dW (left.eraseIdx j)) (some (k,r.val))from congrArg (fun q=>j4 SV r10 st.gs (dW st.seen) q (some (k,r.val))) (kW left j))) ?_
  refine gV (left.eraseIdx j) (n+r.n) (some (k,r.val)) ⟨rfl,rfl,rfl,rfl,trivial⟩ [0,0,0,0,0] rfl [] rfl (by omega) (by rw[List.length_eraseIdx,if_pos hlt];omega)
theorem oN{l:dM}(p:List UInt8):(bX l p=none∧bX (dW l) p=none)∨∃r,bX l p=some r∧bX (dW l) p=some r.val:=by
 rw[lv]
 cases bX l p with
 |none=>exact .inl ⟨rfl,rfl⟩
 |some r=>exact .inr ⟨r,rfl,rfl⟩
def er(st:c7)(p:List UInt8):Int:=if st.cA=0 then 6 else if bX st.seen p=none then 4 else 0
theorem wz{g:Nat}{st:c7}{p:List UInt8}:cj Tryz.prog 158 [.pointer (some ⟨g,0,none⟩),.string (strOf p)] [bM g st] [] (fun v_ X_ S_=>v_=(.int .i64 (er st p))∧X_=[bM g st]∧S_=[]):=by
 have hf:er st p=er st p:=rfl
 refine aU (N:=23) Tryz.func158 rfl rfl (by simp) fun b=> ?_
 refine bD (fun w m=>(m.perm (az [0] _ [_] _ rfl)).unpack) ?_
 have hh:(bX (dW st.seen) p).isSome=decide (bX st.seen p≠none):=by
  rcases oN (l:=st.seen) p with⟨h1,h2⟩|⟨r,h1,h2⟩ <;> simp[h1,h2]
 refine ah<|aj<|hy (fun _=>ab rfl)<|ai<|ag<|ah<|aj<|hy (fun _=>aa rfl)<|hy (fun _=>bx rfl)<|hy (fun _=>aI rfl iB (by decide))<|hy (fun m=>av rfl mP (aB (m.aT 0 rfl) rfl))<|hy (fun _=>aa rfl)<|hy (fun m=>iG (enc:=SV) rfl rfl Tryz.underlying174 qK (j3 Tryz.underlying9) (m.mF 1 rfl))<|hy (fun _=>aa rfl)<|hy (fun _=>ao rfl rfl)<|hy (fun _=>yV (ao rfl rfl) ((show Value.bool (bX (dW st.seen) p).isSome= .bool (decide (bX st.seen p≠none)) by rw[hh])))<|hy (fun _=>ab rfl)<|hy (fun _=>ab rfl)<|ai<|al (ρ' :=[(6,_),(4,_),(0,_),(1,_)]) ⟨rfl,rfl,rfl,rfl,trivial⟩<|ag<|ah<|aN<|ah<|aj<| ?_
 refine aV (X' :=bM g st::_) (fun w m=>(m.perm (az [0,0,0,0,0] _ [_,_,_,_,_] _ rfl)).pack) ?_
 refine hy (fun _=>aa rfl)<| ?_
 refine hx (aq rfl Tryz.call87 (EC) [0] rfl [] rfl ?_)
 rintro _ _ _ ⟨rfl,rfl,rfl⟩
 refine hy (fun _=>dT rfl)<|hy (fun _=>ab rfl)<|ai<|al (ρ' :=[(16,_),(6,_),(4,_),(0,_),(1,_)]) ⟨rfl,rfl,rfl,rfl,rfl,trivial⟩<|ak (X' :=[_]) (S' :=[]) (fun _ m=>m)<|ag<| ?_
 refine cI rfl (fun h1=> ?_) (fun h1=> ?_)
 ·refine ah<|aj<|hy (fun _=>ab rfl)<|ai<|ag<|aQ<|bc<|ay<| ?_
  exact bd trivial rfl rfl [0] rfl [] rfl ⟨(by rw[er,if_pos (by omega)]),rfl,rfl⟩
 ·refine ah<|aj<|hy (fun _=>aa rfl)<|hy (fun _=>dT rfl)<|hy (fun _=>ab rfl)<|ai<|al (ρ' :=[(20,_),(16,_),(6,_),(4,_),(0,_),(1,_)]) ⟨rfl,rfl,rfl,rfl,rfl,rfl,trivial⟩<|ag<| ?_
  refine cI rfl (fun h2=> ?_) (fun h2=> ?_)
  ·refine ah<|aj<|hy (fun _=>ab rfl)<|ai<|ag<|aQ<|bc<|ay<| ?_
   exact bd trivial rfl rfl [0] rfl [] rfl ⟨(by rw[er,if_neg (by omega),if_pos (Decidable.not_not.1 h2)]),rfl,rfl⟩
  ·refine aC<|aW<|ag<|ah<|aj<|hy (fun _=>ab rfl)<|ai<|ag<|aQ<| ?_
   exact bd trivial rfl rfl [0] rfl [] rfl ⟨(by rw[er,if_neg (by omega),if_neg (fun e=>h2 (fun h=>h e))]),rfl,rfl⟩
end Go.Proofs.YtmibdabdlgmafaaGreatDoor
end
section
set_option maxRecDepth 20000
namespace Go.Proofs.YtmibdabdlgmafaaGreatDoor
open Go.Eng Go.Hx
theorem sc{st:c7}{p:List UInt8}{r:ej}(h:bX st.seen p=some r):r∈rowsOf st:=by
 unfold rowsOf
 refine List.mem_append_left _ (List.mem_append_left _ ?_)
 exact List.mem_map.2 ⟨_,jg h,rfl⟩
def cR(st:c7)(p:List UInt8):List UInt8:=if er st p=0 then((bX st.seen p).map (·.l)).getD []else []
theorem sn{st:c7}{p:List UInt8}(h:er st p≠0):cR st p=[]:=by rw[cR,if_neg h]
theorem sD{st:c7}{p:List UInt8}{r:ej}(h:er st p=0)(hr:bX st.seen p=some r):cR st p=r.l:=by rw[cR,if_pos h,hr];rfl
theorem si{st:c7}{p:List UInt8}(h:er st p=0):∃r,bX st.seen p=some r:=by
 unfold er at h
 split at h
 ·omega
 ·split at h
  ·omega
  ·rename_i h2
   cases hq:bX st.seen p with
   |none=>exact absurd hq h2
   |some r=>exact⟨r,rfl⟩
def Small(st:c7):Prop:=∀r∈rowsOf st,r.n≤1000000000
theorem Ea{g:Nat}{st:c7}{p:List UInt8}(hs:Small st):cj Tryz.prog 90 [.pointer (some ⟨g,0,none⟩),.string (strOf p)] [bM g st] [] (fun v_ X_ S_=>∃v,v_=(.tuple #[v,.int .i64 (er st p)])∧X_=[bM g st,aF 5 1 v (cR st p).length (aK (cR st p))]∧S_=[]):=by
 refine aU (N:=20) Tryz.func90 rfl rfl (by simp) fun b=> ?_
 refine ah<|aj<|hy (fun _=>ab rfl)<|hy (fun _=>ab rfl)<|ai<|ag<|ah<|ah<|aj<|hy (fun _=>aa rfl)<|hy (fun _=>aa rfl)<| ?_
 refine hx (aq rfl Tryz.call158 (wz) [0] rfl [] rfl ?_)
 rintro _ _ _ ⟨rfl,rfl,rfl⟩
 refine hy (fun _=>ab rfl)<|ai<|al (ρ' :=[(6,_),(5,_),(4,_),(0,_),(1,_)]) ⟨rfl,rfl,rfl,rfl,rfl,trivial⟩<|ak (X' :=[_]) (S' :=[]) (fun _ m=>m)<|ag<|ah<|aj<|hy (fun _=>aa rfl)<|hy (fun _=>cM rfl rfl)<|ai<|al (ρ' :=[(11,_),(6,_),(5,_),(4,_),(0,_),(1,_)]) ⟨rfl,rfl,rfl,rfl,rfl,rfl,trivial⟩<|ag<| ?_
 refine cI rfl (fun h=> ?_) (fun h=> ?_)
 ·rw[sn h]
  refine ah<|aj<|hy (fun _=>aa rfl)<|hy (fun _=>ab rfl)<|hy (fun _=>ab rfl)<|ai<|al (ρ' :=[(5,_),(4,_),(11,_),(6,_),(0,_),(1,_)]) ⟨rfl,rfl,rfl,rfl,rfl,rfl,trivial⟩<|ag<|aQ<|ay<| ?_
  refine ak (fun w m=>m.cL (r' :=aF 5 1 (.slice none 0 0) 0 []) (.refl _ _) (Own.nil _ _ _ _) (fun k hk=>hk.elim)) ?_
  exact cW trivial rfl rfl rfl [1,0] rfl [] rfl ⟨_,rfl,rfl,rfl⟩
 ·have h0:=Decidable.not_not.1 h
  obtain⟨r,hr⟩:=si h0
  have hv:bX (dW st.seen) p=some r.val:=by rw[lv,hr];rfl
  rw[sD h0 hr,h0]
  have hmem:=sc hr
  obtain⟨i,hi⟩:=List.mem_iff_getElem?.1 hmem
  have hsm:=hs r hmem
  refine bD (fun w m=>(m.perm (az [0] _ [_] _ rfl)).unpack) ?_
  refine ba (fun m=>fG ((View.ok (View.row hi)).1 _ (m.Ez 4 rfl))) fun hrl=> ?_
  have hrl:=hrl.1
  refine aC<|ag<|ah<|aj<|hy (fun _=>aa rfl)<|hy (fun _=>bx rfl)<|hy (fun _=>aI rfl iB (by decide))<|hy (fun m=>av rfl mP (aB (m.aT 0 rfl) rfl))<|hy (fun _=>aa rfl)<|hy (fun m=>yV (iG (enc:=SV) rfl rfl Tryz.underlying174 qK (j3 Tryz.underlying9) (m.mF 1 rfl)) ((show gN false (.slice none 0 0) (bX (dW st.seen) p)= .slice r.A r.n r.c by rw[hv];rfl)))<| ?_
  refine hx (bT rfl Tryz.call117 (k8 (by omega)) [] rfl (.x 4 rfl (View.row hi) .nil) ?_)
  rintro _ _ _ ⟨v,rfl,rfl,rfl⟩
  refine⟨rfl, ?_⟩
  refine aw (fun m=>(m.own 0 rfl).slice) ?_
  rintro⟨A_x,c_x,rfl,hc_x⟩
  refine aw (fun m=>(m.ord 0 rfl).2.1) fun hA_x=> ?_
  refine hy (fun _=>ab rfl)<|hy (fun _=>ab rfl)<|ai<|al (ρ' :=[(5,_),(4,_),(11,_),(6,_),(0,_),(1,_)]) ⟨rfl,rfl,rfl,rfl,rfl,rfl,trivial⟩<|ak (X' :=[_,_,_,_,_,_]) (S' :=[]) (fun _ m=>m)<|ag<|aQ<| ?_
  refine ak (X' :=bM g st::_) (fun w m=>(m.perm (az [1,1,1,1,1] _ [_,_,_,_,_] _ rfl)).pack) ?_
  exact cW trivial rfl rfl rfl [0,0] rfl [] rfl ⟨_,rfl,(by rw[hrl]),rfl⟩
theorem CF{g:Nat}{l:List (List UInt8×Value)}{p:List UInt8}{r:ej}:cj Tryz.prog 153 [.agg [SV p,r.val].toArray,.map (some g)] [dR SV g l] [] (fun v_ X_ S_=>v_=(.tuple #[])∧X_=[dR SV g (cC l p r.val)]∧S_=[]):=by
 refine aU (N:=9) Tryz.func153 rfl rfl (by simp) fun b=> ?_
 refine ah<|aj<| ?_
 refine hx (cp rfl (fun g2=> ?_))
 refine ai<|ak (X' :=[_,_]) (S' :=[]) (fun _ m=>m)<|ag<|aj<|hy (fun _=>aa rfl)<|hy (fun _=>aI rfl zc (by decide))<|hy (fun m=>av rfl kL (aB (m.aT 0 rfl) rfl))<|hy (fun _=>aI rfl Ai (by decide))<|hy (fun m=>av rfl dO (aB (m.aT 0 rfl) rfl))<| ?_
 refine cN (oW (enc:=SV) 1 rfl rfl rfl rfl Tryz.underlying174 (j3 Tryz.underlying9) ?_)
 refine ai<|al (ρ' :=[(2,_),(0,_),(1,_)]) ⟨rfl,rfl,rfl,trivial⟩<|ak (X' :=[_,_]) (S' :=[]) (fun _ m=>m)<| ?_
 exact gH trivial rfl [0] rfl [] rfl ⟨rfl,rfl,rfl⟩
theorem mj{l:dM}{p:List UInt8}{r x:ej}(h:x∈(cC l p r).map (·.2)):x∈l.map (·.2)∨x=r:=by
 induction l with
 |nil=>simp only[cC,List.map_cons,List.map_nil,List.mem_singleton]at h;exact .inr h
 |cons a q ih=>
  obtain⟨k,u⟩:=a
  simp only[cC]at h
  split at h
  ·simp only[List.map_cons,List.mem_cons]at h ⊢
   rcases h with rfl|h
   ·exact .inr rfl
   ·exact .inl (.inr h)
  ·simp only[List.map_cons,List.mem_cons]at h ⊢
   rcases h with rfl|h
   ·exact .inl (.inl rfl)
   ·rcases ih h with h|h
    ·exact .inl (.inr h)
    ·exact .inr h
def c7.wrote(st:c7)(p:List UInt8)(r:ej)(A:Option Addr)(c:Nat):c7:={st.fk with seen:=cC st.seen p r,waits:=st.waits++[.written p r],wA:=A,wc:=c}
theorem oP{st:c7}{p:List UInt8}{r:ej}{A:Option Addr}{c:Nat}:∀x∈rowsOf (st.wrote p r A c),x∈rowsOf st∨x=r:=by
 intro x hx
 unfold rowsOf c7.wrote at hx
 simp only[c7.fk,List.mem_append,List.filterMap_append]at hx
 unfold rowsOf
 simp only[List.mem_append]
 rcases hx with(h|h)|h|h
 ·rcases mj h with h|h
  ·exact .inl (.inl (.inl h))
  ·exact .inr h
 ·exact .inl (.inl (.inr h))
 ·exact .inl (.inr h)
 ·simp[iZ.row]at h
  exact .inr h
theorem EO{g:Nat}{st:c7}{p:List UInt8}{r:ej}{e:TypeId}(hp:st.cA≤1000000000000)(hw:st.waits.length≤1000000):cj Tryz.prog 116 [.pointer (some ⟨g,0,none⟩),(iZ.written p r).val] [bM g st,aF e 1 (.slice r.A r.n r.c) r.n (aK r.l)] [] (fun v_ X_ S_=>∃A c,v_=(.tuple #[])∧X_=[bM g (st.wrote p r A c)]∧S_=[]):=by
 have hsw:st.fk.waits.length=st.waits.length:=rfl
 refine aU (N:=25) Tryz.func116 rfl rfl (by simp) fun b=> ?_
 refine ah<|aj<|hy (fun _=>aa rfl)<| ?_
 refine hx (aq rfl Tryz.call181 (s5 (by omega)) [0] rfl [] rfl ?_)
 rintro _ _ _ ⟨rfl,rfl,rfl⟩
 refine aV (fun w m=>(m.perm (az [0] _ [_] _ rfl)).unpack) ?_
 refine ai<|al (ρ' :=[(0,_),(1,_)]) ⟨rfl,rfl,trivial⟩<|ak (X' :=[_,_,_,_,_,_]) (S' :=[]) (fun _ m=>m)<|ag<|ah<|cV [8] [(0,some 0),(1,some 0),(2,some 0),(3,some 0),(4,some 0),(5,some 0),(6,some 0),(7,some 0),(8,none)] (by kernel_rfl) (by kernel_rfl) rfl 0<|an (aa rfl)<|an (aa rfl)<|an (bx rfl)<|an (aI rfl iB (by decide))<|cn (fun m=>av rfl mP (aB (m.aT 0 rfl) rfl))<|an (j1 rfl rfl)<|an (xK rfl (by kernel_rfl))<|an (aa rfl)<| ?_
 refine eK (ye rfl rfl (fun w=>by kernel_rfl) Tryz.call153 (CF) [1] rfl [] rfl ?_)
 rintro _ _ _ ⟨rfl,rfl,rfl⟩
 refine⟨(fun h=>absurd h (by decide)), ?_⟩
 refine bE<|al (ρ' :=[(0,_),(1,_)]) ⟨rfl,rfl,trivial⟩<|ak (X' :=[_,_,_,_,_,_]) (S' :=[]) (fun _ m=>m)<|ag<|aj<|hy (fun _=>aa rfl)<|hy (fun _=>aa rfl)<|hy (fun _=>bx rfl)<|hy (fun _=>aI rfl l0 (by decide))<|hy (fun m=>av rfl Bb (aB (m.aT 1 rfl) rfl))<|hy (fun _=>aa rfl)<| ?_
 refine hx (cg Tryz.underlying175 uF rfl rfl rfl (by simp[Value.cells,iZ.val]) (by decide) (by decide) (fun g21=> ?_))
 have hA_b21:0<1→(some (⟨g21,0,none⟩:Addr))≠none:=fun _ h=>by cases h
 refine aV (fun w m=>m.bQ 0 rfl (show _=aF 232 1 (.slice (some ⟨g21,0,none⟩) 1 1) 1 [(iZ.written p r).val]from rfl)) ?_
 refine hx (bu 4 rfl rfl rfl Tryz.underlying175 Tryz.underlying175 (by exact .inl rfl) uF rfl (fun m=>Src.bN (m.ord 0 rfl)) (by simp[iZ.val,Value.oneCell']) (by unfold maxLen;omega) (by omega) (fun u=> ?_))
 refine aw (fun m=>(m.own 0 rfl).slice) ?_
 rintro⟨A_d3,c_d3,rfl,hc_d3⟩
 refine aw (fun m=>(m.ord 0 rfl).2.1) fun hA_d3=> ?_
 refine hy (fun _=>bx rfl)<|hy (fun _=>aI rfl l0 (by decide))<| ?_
 refine cN (ct 3 rfl rfl rfl xd rfl (by first|exact Nat.le_of_ble_eq_true rfl|simp) ?_)
 refine ai<|al (ρ' :=[(0,_),(1,_)]) ⟨rfl,rfl,trivial⟩<|ak (X' :=[_,_,_,_,_,_,_]) (S' :=[]) (fun _ m=>m)<| ?_
 refine ak (fun w m=>m.bQ 0 rfl (show _=aH g 177 (ln (st.wrote p r A_d3 c_d3))from by simp[ln,c7.wrote,c7.fk])) ?_
 refine ak (fun w m=>m.bQ 3 rfl (show _=dR SV st.gs (dW (st.wrote p r A_d3 c_d3).seen)from congrArg (dR SV st.gs) (oa _ _ _))) ?_
 refine ak (fun w m=>m.bQ 2 rfl (show _=aF 232 1 (.slice A_d3 (st.wrote p r A_d3 c_d3).waits.length c_d3) (st.wrote p r A_d3 c_d3).waits.length ((st.wrote p r A_d3 c_d3).waits.map iZ.val)from by simp[c7.wrote,c7.fk])) ?_
 refine ak (X' :=ik (rowsOf (st.wrote p r A_d3 c_d3))::_) (fun w m=>(m.perm (az [5,5] _ [_,_] _ rfl)).yb (oP)) ?_
 refine ak (X' :=bM g (st.wrote p r A_d3 c_d3)::_) (fun w m=>(m.perm (az [3,2,3,1,0] _ [_,_,_,_,_] _ rfl)).pack) ?_
 exact gH trivial rfl [0] rfl [] rfl ⟨_,_,rfl,rfl,rfl⟩
def bZ(st:c7)(p:List UInt8)(n:Nat):Int:=if¬jH p then 1 else if st.cA=0 then 6 else if st.room<(m7 st.seen:Int)-(((bX st.seen p).map (·.n)).getD 0:Nat)+n then 5 else 0
theorem w8:∀{l:dM} {m:Nat},(∀x∈l,x.2.n≤m)→m7 l≤l.length*m
 | [],m,h=>by simp[m7]
 |a::q,m,h=>by
  have:=w8 (l:=q) (m:=m) (fun x hx=>h x (List.mem_cons_of_mem _ hx))
  have h1:=h a (List.mem_cons_self ..)
  simp only[m7,List.map_cons,List.sum_cons,List.length_cons,Nat.add_mul]at this ⊢
  omega
structure nO(st:c7)(k:Nat):Prop where
 cA:st.cA≤1000000000000
 room:st.room≤1048576
 seen:st.seen.length≤k
 rest:st.dS.length+st.waits.length≤k
 small:∀r∈rowsOf st,r.n≤1048576
theorem nO.le{st:c7}{k k' :Nat}(h:nO st k)(hk:k≤k'):nO st k' :=⟨h.cA,h.room,Nat.le_trans h.seen hk,Nat.le_trans h.rest hk,h.small⟩
theorem nO.m7{st:c7}{k:Nat}(h:nO st k):m7 st.seen≤k*1048576:=Nat.le_trans (w8 (m:=1048576) (fun x hx=>h.small _ (by unfold rowsOf;exact List.mem_append_left _ (List.mem_append_left _ (List.mem_map.2 ⟨x,hx,rfl⟩))))) (Nat.mul_le_mul_right _ h.seen)
theorem nO.sm{st:c7}{k:Nat}(h:nO st k):Small st:=fun r hr=>Nat.le_trans (h.small r hr) (by decide)
theorem nO.init{n:Int}{gs gl:Nat}(h:n≤1048576):nO (lE n gs gl) 0:=⟨by simp[lE],h,Nat.le_refl _,Nat.le_refl _,fun r hr=>by simp[rowsOf,lE]at hr⟩
theorem oy(l:dM)(p:List UInt8)(r:ej):(cC l p r).length≤l.length+1:=by
 induction l with
 |nil=>simp[cC]
 |cons a q ih=>
  obtain⟨k,u⟩:=a
  simp only[cC]
  split <;> simp only[List.length_cons] <;> omega
theorem rY(l:dM)(p:List UInt8):(fa l p).length≤l.length:=by
 induction l with
 |nil=>simp[fa]
 |cons a q ih=>
  obtain⟨k,u⟩:=a
  simp only[fa]
  split <;> simp only[List.length_cons] <;> omega
theorem jU{st:c7}(h:st.cA≤1000000000000):st.fk.cA≤1000000000000:=by
 simp only[c7.fk]
 split <;> omega
theorem nO.wrote{st:c7}{k:Nat}(h:nO st k){p:List UInt8}{r:ej}(hr:r.n≤1048576)(A:Option Addr)(c:Nat):nO (st.wrote p r A c) (k+1):=by
 refine⟨jU h.cA,h.room, ?_, ?_,fun x hx=> ?_⟩
 ·have:=oy st.seen p r
  have:=h.seen
  show(cC st.seen p r).length≤k+1
  omega
 ·have:=h.rest
  show st.dS.length+(st.waits++[iZ.written p r]).length≤k+1
  simp only[List.length_append,List.length_cons,List.length_nil]
  omega
 ·rcases oP x hx with h' |rfl
  ·exact h.small x h'
  ·exact hr
theorem Bx{g:Nat}{st:c7}{p:List UInt8}{A:Option Addr}{n c:Nat}{l:List UInt8}{k:Nat}(ok:nO st k)(hk:k≤100000)(hn:n≤1048576):cj Tryz.prog 33 [.pointer (some ⟨g,0,none⟩),.string (strOf p),.slice A n c] [bM g st] [dw 1 A n (aK l)] (fun v_ X_ S_=>∃st1 B c1 A1 c2,v_=(.int .i64 (bZ st p n))∧X_=[bM g st1]∧S_=[]∧((bZ st p n≠0∧st1=st)∨(bZ st p n=0∧st1=st.wrote p ⟨B,n,c1,l⟩ A1 c2))):=by
 have hp:=ok.cA
 have hw:st.waits.length≤1000000:=by have:=ok.rest;omega
 have ht:m7 st.seen≤1000000000000:=by have:=ok.m7;omega
 have hs:=ok.sm
 refine aU (N:=41) Tryz.func33 rfl rfl (by simp) fun b=> ?_
 refine ba (fun m=>fG (m.rd 0 rfl)) ?_
 rintro⟨hl_r,hA_r⟩
 refine ah<|aj<|hy (fun _=>ab rfl)<|ai<|ag<|ah<|aN<|ah<|aj<|hy (fun _=>aa rfl)<| ?_
 refine hx (aq rfl Tryz.call115 (yd) [] rfl [] rfl ?_)
 rintro _ _ _ ⟨rfl,rfl,rfl⟩
 refine hy (fun _=>dT rfl)<|hy (fun _=>ab rfl)<|ai<|al (ρ' :=[(7,_),(6,_),(0,_),(1,_),(2,_)]) ⟨rfl,rfl,rfl,rfl,rfl,trivial⟩<|ak (X' :=[_]) (S' :=[_]) (fun _ m=>m)<|ag<| ?_
 refine cI rfl (fun h1=> ?_) (fun h1=> ?_)
 ·have e:bZ st p n=1:=by rw[bZ,if_pos h1]
  rw[e]
  refine ah<|aj<|hy (fun _=>ab rfl)<|ai<|ag<|aQ<|bc<|ay<| ?_
  exact bd trivial rfl rfl [0] rfl [] rfl ⟨_,none,0,none,0,rfl,rfl,rfl,.inl ⟨by decide,rfl⟩⟩
 ·refine ah<|aj<|hy (fun _=>aa rfl)<| ?_
  refine hx (aq rfl Tryz.call87 (EC) [0] rfl [] rfl ?_)
  rintro _ _ _ ⟨rfl,rfl,rfl⟩
  refine hy (fun _=>dT rfl)<|hy (fun _=>ab rfl)<|ai<|al (ρ' :=[(11,_),(7,_),(6,_),(0,_),(1,_),(2,_)]) ⟨rfl,rfl,rfl,rfl,rfl,rfl,trivial⟩<|ak (X' :=[_]) (S' :=[_]) (fun _ m=>m)<|ag<| ?_
  refine cI rfl (fun h2=> ?_) (fun h2=> ?_)
  ·have e:bZ st p n=6:=by rw[bZ,if_neg h1,if_pos (by omega)]
   rw[e]
   refine ah<|aj<|hy (fun _=>ab rfl)<|ai<|ag<|aQ<|bc<|ay<| ?_
   exact bd trivial rfl rfl [0] rfl [] rfl ⟨_,none,0,none,0,rfl,rfl,rfl,.inl ⟨by decide,rfl⟩⟩
  ·have hwe:bZ st p n=if st.room<(m7 st.seen:Int)-(((bX st.seen p).map (·.n)).getD 0:Nat)+n then 5 else 0:=by rw[bZ,if_neg h1,if_neg (by omega)]
   have hv:∃B m c0,gN false (.slice none 0 0) (bX (dW st.seen) p)= .slice B m c0∧m=((bX st.seen p).map (·.n)).getD 0∧m≤1000000000:=by
    rw[lv]
    cases hq:bX st.seen p with
    |none=>exact⟨none,0,0,rfl,rfl,by decide⟩
    |some r=>exact⟨r.A,r.n,r.c,rfl,rfl,hs r (sc hq)⟩
   obtain⟨B,m,c0,hv1,hv2,hv3⟩:=hv
   rw[←hv2]at hwe
   refine ah<|cV [1] [(0,some 0),(2,some 1),(3,some 1),(4,some 1),(5,some 1),(6,some 1),(7,some 1),(8,some 1),(10,some 1),(11,some 1),(13,some 1),(14,some 1),(15,some 1),(16,some 1),(1,none),(9,some 1),(12,some 1),(17,some 1),(18,some 1)] (by kernel_rfl) (by kernel_rfl) rfl 99<|an (aa rfl)<|an (aa rfl)<|an (bx rfl)<|an (aI rfl iB (by decide))<|cn (fun m=>av rfl mP (aB (show eP _ _ _ _ from m.Er 0 rfl 0 rfl) rfl))<|an (aa rfl)<|cn (fun m=>yV (iG (enc:=SV) rfl rfl Tryz.underlying174 qK (j3 Tryz.underlying9) (show fy _ _ _ _ from m.Er 0 rfl 1 rfl)) (hv1))<|an (aX rfl Tryz.underlying27)<|an (aa rfl)<|an (aX rfl Tryz.underlying27)<|an (aa rfl)<|an (bx rfl)<|an (aI rfl zF (by decide))<|cn (fun m=>av rfl dV (aB (show eP _ _ _ _ from m.Er 0 rfl 0 rfl) rfl))<| ?_
   refine eK (aq rfl Tryz.call88 (DL (by omega)) [0] rfl [] rfl ?_)
   rintro _ _ _ ⟨rfl,rfl,rfl⟩
   refine⟨(fun _=>wk [0] [0] rfl rfl), ?_⟩
   refine an (b6 rfl rfl (bB (by omega) (by omega)))<|an (aM rfl rfl (bB (by omega) (by omega)))<|an (cF rfl rfl)<|an (ab rfl)<|bE<|al (ρ' :=[(15,_),(11,_),(7,_),(6,_),(0,_),(1,_),(2,_)]) ⟨rfl,rfl,rfl,rfl,rfl,rfl,rfl,trivial⟩<|ak (X' :=[_]) (S' :=[_]) (fun _ m=>m)<|ag<| ?_
   refine cI rfl (fun h3=> ?_) (fun h3=> ?_)
   ·rw[if_pos (by omega)]at hwe
    rw[hwe]
    refine ah<|aj<|hy (fun _=>ab rfl)<|ai<|ag<|aQ<|bc<|ay<| ?_
    exact bd trivial rfl rfl [0] rfl [] rfl ⟨_,none,0,none,0,rfl,rfl,rfl,.inl ⟨by decide,rfl⟩⟩
   ·rw[if_neg (by omega)]at hwe
    rw[hwe]
    refine aC<|aW<|ag<|ah<|aj<|hy (fun _=>aa rfl)<|hy (fun _=>aa rfl)<|hy (fun _=>aa rfl)<| ?_
    refine hx (aq rfl Tryz.call117 (k8 (by omega)) [] rfl [0] rfl ?_)
    rintro _ _ _ ⟨v,rfl,rfl,rfl⟩
    refine aw (fun m=>(m.own 0 rfl).slice) ?_
    rintro⟨A_x,c_x,rfl,hc_x⟩
    refine aw (fun m=>(m.ord 0 rfl).2.1) fun hA_x=> ?_
    refine hy (fun _=>yV (cD DN rfl rfl (by kernel_rfl) (.cons (o:=0) (sz:=1) (by kernel_rfl) rfl rfl (Nat.le_of_ble_eq_true rfl) (.cons (o:=1) (sz:=1) (by kernel_rfl) rfl rfl (Nat.le_of_ble_eq_true rfl) .nil))) ((rfl:_=Value.agg [SV p,Value.slice A_x n c_x].toArray)))<|hy (fun _=>kS rfl Tryz.underlying189 (fun _ h=>by cases h))<| ?_
    refine hx (aq rfl Tryz.call116 (EO (by omega) (by omega) (r:=⟨A_x,n,c_x,l⟩)) [1,0] rfl [] rfl ?_)
    rintro _ _ _ ⟨A2,c2,rfl,rfl,rfl⟩
    refine ai<|al (ρ' :=[(15,_),(11,_),(7,_),(6,_),(0,_),(1,_),(2,_)]) ⟨rfl,rfl,rfl,rfl,rfl,rfl,rfl,trivial⟩<|ak (X' :=[_]) (S' :=[_]) (fun _ m=>m)<|ag<|ah<|aj<|hy (fun _=>ab rfl)<|ai<|ag<|aQ<| ?_
    exact bd trivial rfl rfl [0] rfl [] rfl ⟨_,_,_,_,_,rfl,rfl,rfl,.inr ⟨rfl,rfl⟩⟩
theorem zg{g:Nat}{l:List (List UInt8×Value)}:cj Tryz.prog 154 [.map (some g)] [dR SV g l] [] (fun v_ X_ S_=>∃g1,v_=(.map (some g1))∧X_=[dR SV g l,dR SV g1 l]∧S_=[]):=by
 refine aU (N:=9) Tryz.func154 rfl rfl (by simp) fun b=> ?_
 refine ah<|aj<|hy (fun _=>ab rfl)<|ai<|ag<|ah<|ah<|aj<|hy (fun _=>aa rfl)<|hy (fun _=>BV rfl rfl Tryz.underlying174)<|ai<|al (ρ' :=[(4,_),(2,_),(0,_)]) ⟨rfl,rfl,rfl,trivial⟩<|ag<| ?_
 refine dx rfl (rfl) ?_
 refine aC<|ag<|ah<|aj<|hy (fun _=>aa rfl)<|hy (fun _=>kS rfl Tryz.underlying174 (fun _ h=>by cases h))<| ?_
 refine hx (vJ 0 rfl rfl Tryz.func209 (by kernel_rfl) (by kernel_rfl) (by kernel_rfl) (by kernel_rfl) (fun g1=> ?_))
 refine hy (fun _=>pC rfl (show _=Result.ok (Value.map (some g1)) _ by kernel_rfl))<|hy (fun _=>ab rfl)<|ai<|al (ρ' :=[(2,_),(4,_),(0,_)]) ⟨rfl,rfl,rfl,trivial⟩<|ak (X' :=[_,_]) (S' :=[]) (fun _ m=>m)<|ag<|aQ<| ?_
 exact bd trivial rfl rfl [1,0] rfl [] rfl ⟨_,rfl,rfl,rfl⟩
def c7.synced(st:c7)(gl:Nat):c7:={st.fk with gl:=gl,dS:=st.seen,waits:=[],wA:=none,wc:=0}
def ei(st:c7):Int:=if st.cA=0 then 6 else 0
theorem nt{st:c7}{gl:Nat}:∀x∈rowsOf (st.synced gl),x∈rowsOf st:=by
 intro x hx
 unfold rowsOf c7.synced at hx
 simp only[c7.fk,List.filterMap_nil,List.append_nil,List.mem_append,or_self]at hx
 unfold rowsOf
 exact List.mem_append_left _ (List.mem_append_left _ hx)
theorem nO.synced{st:c7}{k:Nat}(h:nO st k)(gl:Nat):nO (st.synced gl) k:=
 ⟨jU h.cA,h.room,h.seen,by show st.seen.length+0≤k;have:=h.seen;omega,fun x hx=>h.small x (nt x hx)⟩
theorem DO{g:Nat}{st:c7}{k:Nat}(ok:nO st k):cj Tryz.prog 110 [.pointer (some ⟨g,0,none⟩)] [bM g st] [] (fun v_ X_ S_=>∃st1 gl,v_=(.int .i64 (ei st))∧X_=[bM g st1]∧S_=[]∧((st.cA=0∧st1=st)∨(st.cA≠0∧st1=st.synced gl))):=by
 refine aU (N:=19) Tryz.func110 rfl rfl (by simp) fun b=> ?_
 refine ah<|aj<|hy (fun _=>ab rfl)<|ai<|ag<|ah<|ah<|aj<|hy (fun _=>aa rfl)<| ?_
 refine hx (aq rfl Tryz.call87 (EC) [0] rfl [] rfl ?_)
 rintro _ _ _ ⟨rfl,rfl,rfl⟩
 refine hy (fun _=>dT rfl)<|ai<|al (ρ' :=[(5,_),(2,_),(0,_)]) ⟨rfl,rfl,rfl,trivial⟩<|ak (X' :=[_]) (S' :=[]) (fun _ m=>m)<|ag<| ?_
 refine cI rfl (fun h1=> ?_) (fun h1=> ?_)
 ·have h0:st.cA=0:=Decidable.not_not.1 h1
  have e:ei st=6:=by rw[ei,if_pos h0]
  rw[e]
  refine ah<|aj<|hy (fun _=>ab rfl)<|ai<|ag<|aQ<|ay<| ?_
  exact bd trivial rfl rfl [0] rfl [] rfl ⟨_,0,rfl,rfl,rfl,.inl ⟨h0,rfl⟩⟩
 ·have h0:st.cA≠0:=fun e=>h1 (fun h=>h e)
  have e:ei st=0:=by rw[ei,if_neg h0]
  rw[e]
  have hp:=ok.cA
  refine aC<|ag<|ah<|aj<|hy (fun _=>aa rfl)<| ?_
  refine hx (aq rfl Tryz.call181 (s5 (by omega)) [0] rfl [] rfl ?_)
  rintro _ _ _ ⟨rfl,rfl,rfl⟩
  refine aV (fun w m=>(m.perm (az [0] _ [_] _ rfl)).unpack) ?_
  refine ai<|al (ρ' :=[(5,_),(2,_),(0,_)]) ⟨rfl,rfl,rfl,trivial⟩<|ak (X' :=[_,_,_,_,_]) (S' :=[]) (fun _ m=>m)<|ag<|ah<|aj<|hy (fun _=>aa rfl)<|hy (fun _=>aa rfl)<|hy (fun _=>aa rfl)<|hy (fun _=>bx rfl)<|hy (fun _=>aI rfl iB (by decide))<|hy (fun m=>av rfl mP (aB (m.aT 0 rfl) rfl))<| ?_
  refine hx (aq rfl Tryz.call154 (zg) [1] rfl [] rfl ?_)
  rintro _ _ _ ⟨g1,rfl,rfl,rfl⟩
  refine hy (fun _=>bx rfl)<|hy (fun _=>aI rfl AS (by decide))<| ?_
  refine cN (ct 2 rfl rfl rfl DW rfl (by first|exact Nat.le_of_ble_eq_true rfl|simp) ?_)
  refine hy (fun _=>bx rfl)<|hy (fun _=>aI rfl l0 (by decide))<| ?_
  refine cN (ct 0 rfl rfl rfl xd rfl (by first|exact Nat.le_of_ble_eq_true rfl|simp) ?_)
  refine ai<|al (ρ' :=[(5,_),(2,_),(0,_)]) ⟨rfl,rfl,rfl,trivial⟩<|ak (X' :=[_,_,_,_,_,_]) (S' :=[]) (fun _ m=>m)<|ag<|ah<|aj<|hy (fun _=>ab rfl)<|ai<|ag<|aQ<| ?_
  refine ak (fun w m=>m.cL (r' :=aF 232 1 (.slice none 0 0) 0 []) (.refl _ _) (Own.nil _ _ _ _) (fun k hk=>hk.elim)) ?_
  refine ak (fun w m=>Mem.xj (X:=[_]) (m.perm (az [4] _ [_] _ rfl))) ?_
  refine ak (fun w m=>Mem.xj (X:=[_]) (m.perm (az [4] _ [_] _ rfl))) ?_
  refine ak (fun w m=>m.bQ 1 rfl (show _=aH g 177 (ln (st.synced g1))from rfl)) ?_
  refine ak (X' :=ik (rowsOf (st.synced g1))::_) (fun w m=>(m.perm (az [4] _ [_] _ rfl)).yi (nt)) ?_
  refine ak (X' :=bM g (st.synced g1)::_) (fun w m=>(m.perm (az [1,2,2,1,0] _ [_,_,_,_,_] _ rfl)).pack) ?_
  exact bd trivial rfl rfl [0] rfl [] rfl ⟨_,_,rfl,rfl,rfl,.inr ⟨h0,rfl⟩⟩
end Go.Proofs.YtmibdabdlgmafaaGreatDoor
end
section
namespace Go.Eng
open Go.RowKit Go.ChangeShapes Go.WideShapes
theorem o7{zs:List Int}(h:∀n∈zs,(Lit.int .u8 n).wf=true):zs.map (Value.int .u8)=aK (zs.map fun n=>UInt8.ofNat n.toNat):=by
 rw[aK,List.map_map]
 apply List.map_congr_left
 intro n hn
 have:=bounds_u8 (h n hn)
 simp only[B8,Function.comp]
 have e:(UInt8.ofNat n.toNat).toNat=n.toNat:=by
  rw[UInt8.toNat_ofNat']
  exact Nat.mod_eq_of_lt (by omega)
 rw[e]
 congr 1
 omega
theorem tt{W:World}{x:Addr}{len cap:Nat}{zs:List Int}(hl:len≤cap)(hz:zs.length=cap)(hcell:∀i,i<zs.length→W.cell? (x.add i)=some (.int .u8 (zs.getD i 0)))(hw:∀n∈zs,(Lit.int .u8 n).wf=true):
  Rd W 1 (some x) len (aK ((zs.take len).map fun n=>UInt8.ofNat n.toNat)):=by
 rw[←o7 (fun n hn=>hw n (List.mem_of_mem_take hn))]
 refine⟨by simp;omega,fun _ e=>(by cases e),fun j u hu=> ?_⟩
 have hj:=(List.getElem?_eq_some_iff.1 hu).1
 simp at hj
 have hc:=hcell j (by omega)
 rw[List.getElem?_map,List.getElem?_take,if_pos (by omega)]at hu
 rw[List.getD,List.getElem?_eq_getElem (by omega)]at hc
 rw[List.getElem?_eq_getElem (by omega)]at hu
 simp at hu hc
 rw[Option.getD_some,hc,←hu]
theorem s7{H:Type}{enc:TypeId×Value→H}{P:Program}{W:World}{t e:TypeId}{A:Option Addr}{len cap:Nat}{d:DataW H}{ps:List MemPlace}{spare:Nat→Bool}{held:Bool}
  (hu:P.underlying t=some (.slice e)) (he:P.underlying e=some (.int .u8)) (hc:P.cellsOf e=1) (h:DataW.Trod enc P W 0 spare held t (.slice A len cap) d ps):len≤cap∧∃l,Rd W 1 A len (aK l):=by
 obtain⟨fuel,hf⟩:=h
 rcases open_ints hu he hc hf with⟨hcs,_⟩|⟨x,l,c,zs,hcs,_,hl,hm,hz,_,hcell,hwz⟩
 ·simp[Value.cells]at hcs
  obtain⟨rfl,rfl,rfl⟩:=hcs
  exact⟨Nat.le_refl _,[],Rd.nil _ _ _⟩
 ·simp[Value.cells]at hcs
  obtain⟨rfl,rfl,rfl⟩:=hcs
  refine⟨hl,_,tt (cap:=zs.length) (by rw[hz];split <;> omega) rfl hcell hwz⟩
theorem rV{H:Type}{enc:TypeId×Value→H}{P:Program}{W:World}{base:Nat}{spare:Nat→Bool}{held:Bool}{t e:TypeId}{k:IntKind}{a:Option Addr}{len cap:Nat}{d:DataW H}{ps:List MemPlace}{ts:List TypeId}{ds:List (DataW H)}{j:Nat}
  (hsz:(DataW.weightsEach P ts ds).all (· ≤reachBytes)=true) (ht:ts[j]? =some t) (hd:ds[j]? =some d) (hu:P.underlying t=some (.slice e)) (he:P.underlying e=some (.int k)) (hc:P.cellsOf e=1) (hB:P.bytesOf e=1)
  (h:DataW.Trod enc P W base spare held t (.slice a len cap) d ps):len≤140737488351232:=by
 obtain⟨fuel,hf⟩:=h
 rcases open_ints hu he hc hf with⟨hcs,_⟩|⟨x,l,c,zs,hcs,_,hl,_,hz,hx,_,_⟩
 ·simp[Value.cells]at hcs
  obtain⟨rfl,rfl,rfl⟩:=hcs
  simp
 ·simp[Value.cells]at hcs
  obtain⟨rfl,rfl,rfl⟩:=hcs
  obtain⟨hx,_⟩:=Prod.mk.inj hx
  subst hx
  have z:=sized_slice hsz ht hd hu
  rw[hB,Nat.mul_one]at z
  have hl2:len≤zs.length:=by rw[hz];split <;> omega
  have h1:(lits (H:=H) k (zs.take len)).length+(lits (H:=H) k (zs.drop len)).length=zs.length:=by
   simp[lits]
   omega
  rw[h1]at z
  exact Nat.le_trans hl2 z
end Go.Eng
end
section
namespace Go.Eng
open Go.RowKit Go.ChangeShapes Go.WideShapes
inductive Cell
 |v (x:Value)
 |s (sz:Nat) (A:Option Addr) (n c:Nat) (xs:List Cell)
def Cell.val:Cell→Value
 | .v x=>x
 | .s _ A n c _=>.slice A n c
mutual
def Cell.dj:Cell→Nat→Prop
 | .v _=>fun _=>False
 | .s _ A _ _ xs=>fun k=>(xs≠ []∧∃a,A=some a∧k=a.block)∨tO xs k
def tO:List Cell→Nat→Prop
 | []=>fun _=>False
 |x::r=>fun k=>x.dj k∨tO r k
end
mutual
def Cell.holds(w:World):Cell→Prop
 | .v _=>True
 | .s sz A n c xs=>Rd w sz A n (xs.map Cell.val)∧n≤c∧iM w xs
def iM(w:World):List Cell→Prop
 | []=>True
 |x::r=>x.holds w∧iM w r
end
theorem fY{w:World}:∀{xs:List Cell},iM w xs↔∀x∈xs,x.holds w
 | []=>by simp[iM]
 |x::r=>by simp only[iM,fY (xs:=r),List.mem_cons,forall_eq_or_imp]
mutual
theorem Cell.ia{S:Nat→Prop}{w w' :World}(f:Fr S w w'):∀(c:Cell),(∀k,c.dj k→¬S k)→c.holds w→c.holds w'
 | .v _,_,_=>trivial
 | .s sz A n c xs,h,hh=>by
  obtain⟨h1,h2,h3⟩:=hh
  refine⟨Rd.ia h1 f (fun k hk=>h k ?_),h2,Bv f xs (fun k hk=>h k (.inr hk)) h3⟩
  obtain⟨hne,a,ha,hk⟩:=hk
  exact .inl ⟨fun e=>hne (by rw[e];rfl),a,ha,hk⟩
theorem Bv{S:Nat→Prop}{w w' :World}(f:Fr S w w'):∀(xs:List Cell),(∀k,tO xs k→¬S k)→iM w xs→iM w' xs
 | [],_,_=>trivial
 |x::r,h,hh=>⟨Cell.ia f x (fun k hk=>h k (.inl hk)) hh.1,Bv f r (fun k hk=>h k (.inr hk)) hh.2⟩
end
mutual
theorem Cell.low{w:World}:∀(c:Cell) {k:Nat},c.holds w→c.dj k→k<w.heap.size
 | .v _,_,_,h=>h.elim
 | .s sz A n c xs,k,hh,hk=>by
  obtain⟨h1,h2,h3⟩:=hh
  rcases hk with⟨hne,a,ha,hk⟩|hk
  ·exact(dw sz A n (xs.map Cell.val)).low h1 ⟨fun e=>hne (List.map_eq_nil_iff.1 e),a,ha,hk⟩
  ·exact C9 xs h3 hk
theorem C9{w:World}:∀(xs:List Cell) {k:Nat},iM w xs→tO xs k→k<w.heap.size
 | [],_,_,h=>h.elim
 |x::r,k,hh,hk=>by
  rcases hk with hk|hk
  ·exact Cell.low x hh.1 hk
  ·exact C9 r hh.2 hk
end
def pS(c:Cell):bf:=⟨c.dj,fun w=>c.holds w,fun f h x=>c.ia f h x,fun x hk=>c.low x hk⟩
theorem View.ER{sz n c:Nat}{A:Option Addr}{xs:List Cell}:View (pS (.s sz A n c xs)) (dw sz A n (xs.map Cell.val)):=
 .of (fun w h=>h.1) (fun k hk=>by
  obtain⟨hne,a,ha,hk⟩:=hk
  exact .inl ⟨fun e=>hne (by rw[e];rfl),a,ha,hk⟩)
inductive Ty(P:Program):TypeId→List Cell→Prop
 |int {t:TypeId} {k:IntKind} {z:Int} (ht:P.underlying t=some (.int k)) (hw:(Lit.int k z).wf=true):Ty P t [.v (.int k z)]
 |bool {t:TypeId} {b:Bool} (ht:P.underlying t=some .bool):Ty P t [.v (.bool b)]
 |str {t:TypeId} {s:List UInt8} (ht:P.underlying t=some .string) (hs:s.length≤140737488351232):Ty P t [.v (.string (strOf s))]
 |slice {t e:TypeId} {A:Option Addr} {n c:Nat} {xs:List Cell} (ht:P.underlying t=some (.slice e)) (hc:n≤c) (hn:n*P.bytesOf e≤140737488351232) (hl:xs.length=n*P.cellsOf e)
   (h:∀i,i<n→Ty P e ((xs.drop (i*P.cellsOf e)).take (P.cellsOf e))):Ty P t [.s (P.cellsOf e) A n c xs]
 |arr {t e:TypeId} {n:Nat} {xs:List Cell} (ht:P.underlying t=some (.array n e)) (hl:xs.length=P.cellsOf t) (h:∀i,i<n→Ty P e ((xs.drop (i*P.cellsOf e)).take (P.cellsOf e))):Ty P t xs
 |struct {t:TypeId} {fs:Array Field} {xs:List Cell} (ht:P.underlying t=some (.struct fs)) (hl:xs.length=P.cellsOf t) (h:∀(i:Nat) (f:Field),fs[i]? =some f→Ty P f.type ((xs.drop f.offset).take (P.cellsOf f.type))):Ty P t xs
def iT(P:Program):List Field→Nat→Nat→Bool
 | [],o,e=>o == e
 |f::r,o,e=>f.offset == o && iT P r (o+P.cellsOf f.type) e
def parts(P:Program):Nat→TypeId→Bool
 |0,_=>false
 |n+1,t=>match P.underlying t with
  |some (.int _)|some .bool|some .string=>true
  |some (.slice e)=>parts P n e && decide (0<P.cellsOf e)
  |some (.array m e)=>parts P n e && (P.cellsOf t == m*P.cellsOf e)
  |some (.struct fs)=>fs.toList.all (fun f=>parts P n f.type) && iT P fs.toList 0 (P.cellsOf t)
  |_=>false
section
variable{H:Type}{enc:TypeId×Value→H}{P:Program}{w:World}{base:Nat}{spare:Nat→Bool}{held:Bool}
theorem vT{b:Nat}{a:Addr}{n:Nat}{cs:List Value}(h:w.cells? b a n=some cs):cs.length=n∧∀j u,cs[j]? =some u→w.cell? (a.add j)=some u:=by
 obtain⟨hb,hl,hcell⟩:=World.cells?_some h
 refine⟨hl,fun j u hu=> ?_⟩
 have hj:j<n:=by rw[←hl];exact(List.getElem?_eq_some_iff.1 hu).1
 rw[hcell j hj,hu]
theorem hC{e:TypeId}{d:DataW H}{n:Nat}:∀{ds:List (DataW H)},d∈ds→n∈d.weights P e→n∈DataW.weightsAll P e ds
 | [],h,_=>by cases h
 |a::r,h,hn=>by
  simp only[DataW.weightsAll,List.mem_append]
  rcases List.mem_cons.1 h with rfl|h
  ·exact .inl hn
  ·exact .inr (hC h hn)
theorem pieces{sz:Nat}{Q:List Cell→Prop}{R:Nat→List Value→Prop}:∀(m:Nat),(∀i,i<m→∃ys:List Cell,ys.length=sz∧Q ys∧R i (ys.map Cell.val)∧iM w ys)→
  ∃xs:List Cell,xs.length=m*sz∧(∀i,i<m→Q ((xs.drop (i*sz)).take sz)∧R i (((xs.drop (i*sz)).take sz).map Cell.val))∧iM w xs
 |0,_=>⟨[],by simp,fun i hi=>absurd hi (by omega),trivial⟩
 |m+1,h=>by
  obtain⟨xs,h1,h2,h3⟩:=pieces m (fun i hi=>h i (by omega))
  obtain⟨ys,h4,h5,h6,h7⟩:=h m (by omega)
  have hlen:(m+1)*sz=m*sz+sz:=by rw[Nat.add_mul,Nat.one_mul]
  refine⟨xs++ys,by rw[List.length_append,h1,h4,hlen],fun i hi=> ?_,fY.2 fun x hx=> ?_⟩
  ·by_cases hm:i=m
   ·subst hm
    have e:((xs++ys).drop (i*sz)).take sz=ys:=by
     rw[←h1,List.drop_left,List.take_of_length_le (by omega)]
    rw[e]
    exact⟨h5,h6⟩
   ·have hi' :i<m:=by omega
    have hle:i*sz+sz≤m*sz:=by
     have:=Nat.mul_le_mul_right sz (show i+1≤m by omega)
     rwa [Nat.add_mul,Nat.one_mul]at this
    have e:((xs++ys).drop (i*sz)).take sz=(xs.drop (i*sz)).take sz:=by
     rw[List.drop_append_of_le_length (by omega),List.take_append_of_le_length (by rw[List.length_drop];omega)]
    rw[e]
    exact h2 i hi'
  ·rcases List.mem_append.1 hx with hx|hx
   ·exact fY.1 h3 x hx
   ·exact fY.1 h7 x hx
theorem mI{xs:List Value}{sz i j:Nat}(hj:j<sz):((xs.drop (i*sz)).take sz)[j]? =xs[i*sz+j]? :=by
 rw[List.getElem?_take,if_pos hj,List.getElem?_drop]
theorem lZ{cs:List Value}:∀(fs:List Field) (o e:Nat),iT P fs o e=true→(∀f∈fs,∃ys:List Cell,ys.length=P.cellsOf f.type∧Ty P f.type ys∧ys.map Cell.val=(cs.drop f.offset).take (P.cellsOf f.type)∧iM w ys)→
  o≤e∧∃xs:List Cell,xs.length=e-o∧xs.map Cell.val=(cs.drop o).take (e-o)∧iM w xs∧∀f∈fs,o≤f.offset∧Ty P f.type ((xs.drop (f.offset-o)).take (P.cellsOf f.type))
 | [],o,e,hc,_=>by
  have:o=e:=by simpa[iT]using hc
  subst this
  exact⟨Nat.le_refl _,[],by simp,by simp,trivial,by simp⟩
 |f::r,o,e,hc,h=>by
  simp only[iT,Bool.and_eq_true,beq_iff_eq]at hc
  obtain⟨h0,hc⟩:=hc
  obtain⟨hle,xs,h1,h2,h3,h4⟩:=lZ r _ e hc (fun g hg=>h g (List.mem_cons_of_mem _ hg))
  obtain⟨ys,h5,h6,h7,h8⟩:=h f (List.mem_cons_self ..)
  rw[h0]at h7
  refine⟨by omega,ys++xs,by rw[List.length_append,h1,h5];omega, ?_,fY.2 fun x hx=> ?_,fun g hg=> ?_⟩
  ·rw[List.map_append,h7,h2,←List.drop_drop,show e-o=P.cellsOf f.type+(e-(o+P.cellsOf f.type)) by omega,List.take_add]
  ·rcases List.mem_append.1 hx with hx|hx
   ·exact fY.1 h8 x hx
   ·exact fY.1 h3 x hx
  ·rcases List.mem_cons.1 hg with rfl|hg
   ·refine⟨by omega, ?_⟩
    rw[h0,Nat.sub_self,List.drop_zero,←h5,List.take_left]
    exact h6
   ·obtain⟨h9,h10⟩:=h4 g hg
    refine⟨by omega, ?_⟩
    have e1:(ys++xs).drop (g.offset-o)=xs.drop (g.offset-(o+P.cellsOf f.type)):=by
     rw[List.drop_append,List.drop_of_length_le (by omega),List.nil_append]
     congr 1
     omega
    rw[e1]
    exact h10
theorem ju:∀(k fuel:Nat) (t:TypeId) (cs:List Value) (x:DataW H×List MemPlace),parts P k t=true→DataW.trod enc P w 0 spare held fuel t cs=some x→(∀q∈DataW.weights P t x.1,q≤140737488351232)→∃xs:List Cell,xs.map Cell.val=cs∧iM w xs∧Ty P t xs
 |0,fuel,t,cs,x,hp,_,_=>by simp[parts]at hp
 |k+1,fuel,t,cs,x,hp,h,hw=>by
  unfold parts at hp
  split at hp
  ·rename_i q ht
   obtain⟨z,rfl,_,hz⟩:=DataW.trod_int ht h
   exact⟨[.v (.int q z)],rfl,⟨trivial,trivial⟩,.int ht hz⟩
  ·rename_i ht
   obtain⟨b,rfl,_⟩:=DataW.trod_bool ht h
   exact⟨[.v (.bool b)],rfl,⟨trivial,trivial⟩,.bool ht⟩
  ·rename_i ht
   obtain⟨s,rfl,hx,_⟩:=DataW.trod_string ht h
   have h1:=hw s.data.toList.length (by rw[hx];simp[DataW.weights])
   exact⟨[.v (.string s)],rfl,⟨trivial,trivial⟩,.str (s:=bytesOf s) ht h1⟩
  ·rename_i e ht
   simp only[Bool.and_eq_true,decide_eq_true_eq]at hp
   rcases DataW.trod_slice ht h with⟨rfl,rfl⟩|⟨a,len,cap,elems,rest,m,_,rfl,hx,hb,hl,hm,hlen,hel,_,_⟩
   ·exact⟨[.s (P.cellsOf e) none 0 0 []],rfl,⟨⟨Rd.nil _ _ _,Nat.le_refl _,trivial⟩,trivial⟩,.slice ht (Nat.le_refl _) (by simp) (by simp) (fun i hi=>absurd hi (by omega))⟩
   ·have hwe:∀d∈elems.map (·.1),∀q∈DataW.weights P e d,q≤140737488351232:=fun d hd q hq=>hw q (by
     rw[hx]
     simp only[DataW.weights,ht,List.mem_cons,List.mem_append]
     exact .inr (.inl (hC hd hq)))
    obtain⟨xs,h1,h2,h3⟩:=pieces (w:=w) (sz:=P.cellsOf e) (Q:=Ty P e) (R:=fun i vs=>∀j u,vs[j]? =some u→w.cell? (a.add (i*P.cellsOf e+j))=some u) len (fun i hi=>by
     have h1:=hel i hi
     rw[List.getElem?_eq_getElem (by omega)]at h1
     obtain⟨c,hc1,hc2⟩:=Option.bind_eq_some_iff.1 h1
     obtain⟨hcl,hcc⟩:=vT hc1
     obtain⟨ys,h4,h5,h6⟩:=ju k _ e c _ hp.1 hc2 (fun q hq=>hwe _ (List.mem_map.2 ⟨_,List.getElem_mem _,rfl⟩) q hq)
     refine⟨ys,by rw[←hcl,←h4,List.length_map],h6,fun j u hu=> ?_,h5⟩
     rw[h4]at hu
     have:=hcc j u hu
     rwa [add_add]at this)
    have hR:Rd w (P.cellsOf e) (some a) len (xs.map Cell.val):=⟨by rw[List.length_map,h1],fun _ e=>(by cases e),fun q u hu=>by
     have hq:q<len*P.cellsOf e:=by
      have:=(List.getElem?_eq_some_iff.1 hu).1
      rwa [List.length_map,h1]at this
     have hd:q/P.cellsOf e<len:=(Nat.div_lt_iff_lt_mul hp.2).2 hq
     have hmod:=Nat.mod_lt q hp.2
     have hqe:q/P.cellsOf e*P.cellsOf e+q % P.cellsOf e=q:=by
      have:=Nat.div_add_mod q (P.cellsOf e)
      rw[Nat.mul_comm]at this
      exact this
     have:=(h2 _ hd).2 (q % P.cellsOf e) u (by rw[List.map_take,List.map_drop,mI hmod,hqe];exact hu)
     rw[hqe]at this
     simpa using this⟩
    have hn:len*P.bytesOf e≤140737488351232:=by
     have:=hw ((elems.length+rest.length)*P.bytesOf e) (by rw[hx];simp[DataW.weights,ht])
     rw[hlen,Nat.add_mul]at this
     omega
    exact⟨[.s (P.cellsOf e) (some a) len cap xs],rfl,⟨⟨hR,hl,h3⟩,trivial⟩,.slice ht hl hn h1 (fun i hi=>(h2 i hi).1)⟩
  ·rename_i m e ht
   simp only[Bool.and_eq_true,beq_iff_eq]at hp
   obtain⟨ys,n,_,hx,hlen,hyl,hel⟩:=DataW.trod_array ht h
   have hwe:∀d∈ys.map (·.1),∀q∈DataW.weights P e d,q≤140737488351232:=fun d hd q hq=>hw q (by
    rw[hx]
    simp only[DataW.weights,ht]
    exact hC hd hq)
   obtain⟨xs,h1,h2,h3⟩:=pieces (w:=w) (sz:=P.cellsOf e) (Q:=Ty P e) (R:=fun i vs=>vs=(cs.drop (i*P.cellsOf e)).take (P.cellsOf e)) m (fun i hi=>by
    have h1:=hel i hi
    rw[List.getElem?_eq_getElem (by omega)]at h1
    obtain⟨zs,h4,h5,h6⟩:=ju k _ e _ _ hp.1 h1 (fun q hq=>hwe _ (List.mem_map.2 ⟨_,List.getElem_mem _,rfl⟩) q hq)
    refine⟨zs, ?_,h6,h4,h5⟩
    have:=congrArg List.length h4
    rw[List.length_map,List.length_take,List.length_drop,hlen,hp.2]at this
    have hle:i*P.cellsOf e+P.cellsOf e≤m*P.cellsOf e:=by
     have:=Nat.mul_le_mul_right (P.cellsOf e) (show i+1≤m by omega)
     rwa [Nat.add_mul,Nat.one_mul]at this
    omega)
   refine⟨xs, ?_,h3,.arr ht (by rw[h1,hp.2]) (fun i hi=>(h2 i hi).1)⟩
   apply List.ext_getElem?
   intro q
   by_cases hq:q<m*P.cellsOf e
   ·have hpos:0<P.cellsOf e:=by
     rcases Nat.eq_zero_or_pos (P.cellsOf e)with h0|h0
     ·rw[h0,Nat.mul_zero]at hq;omega
     ·exact h0
    have hd:q/P.cellsOf e<m:=(Nat.div_lt_iff_lt_mul hpos).2 hq
    have hmod:=Nat.mod_lt q hpos
    have hqe:q/P.cellsOf e*P.cellsOf e+q % P.cellsOf e=q:=by
     have:=Nat.div_add_mod q (P.cellsOf e)
     rw[Nat.mul_comm]at this
     exact this
    have h4:=congrArg (fun l:List Value=>l[q % P.cellsOf e]?) (h2 _ hd).2
    simp only[List.map_take,List.map_drop]at h4
    rwa [mI hmod,mI hmod,hqe]at h4
   ·rw[List.getElem?_eq_none (by rw[List.length_map,h1];omega),List.getElem?_eq_none (by rw[hlen,hp.2];omega)]
  ·rename_i fs ht
   simp only[Bool.and_eq_true,List.all_eq_true]at hp
   obtain⟨ys,n,_,hx,hlen,hyl,hel⟩:=DataW.trod_struct ht h
   have hw2:∀(i:Nat) (f:Field) (d:DataW H),fs[i]? =some f→(ys.map (·.1))[i]? =some d→∀q∈DataW.weights P f.type d,q≤140737488351232:=fun i f d hf hd q hq=>hw q (by
    rw[hx]
    simp only[DataW.weights,ht]
    exact DataW.weights_mem_each (j:=i) (t:=f.type) (d:=d) (by simp[hf]) hd q hq)
   obtain⟨_,xs,h1,h2,h3,h4⟩:=lZ (P:=P) (w:=w) (cs:=cs) fs.toList 0 (P.cellsOf t) hp.2 (fun f hf=>by
    obtain⟨i,hi⟩:=List.mem_iff_getElem?.1 hf
    have hi' :fs[i]? =some f:=by simpa using hi
    have h1:=hel i f hi'
    have hlt:i<ys.length:=by
     rw[hyl]
     exact(Array.getElem?_eq_some_iff.1 hi').1
    rw[List.getElem?_eq_getElem hlt]at h1
    obtain⟨zs,h5,h6,h7⟩:=ju k _ f.type _ _ (hp.1 f hf) h1 (fun q hq=>hw2 i f _ hi' (by rw[List.getElem?_map,List.getElem?_eq_getElem hlt];rfl) q hq)
    have hz:zs.length=P.cellsOf f.type:=by
     have hz:=congrArg List.length h5
     rw[List.length_map,List.length_take,List.length_drop,hlen]at hz
     have hin:∀(l:List Field) (o e:Nat),iT P l o e=true→f∈l→f.offset+P.cellsOf f.type≤e∧o≤e:=by
      intro l
      induction l with
      |nil=>intro o e _ hm;cases hm
      |cons g r ih=>
       intro o e hc hm
       simp only[iT,Bool.and_eq_true,beq_iff_eq]at hc
       have hge:∀(l:List Field) (o e:Nat),iT P l o e=true→o≤e:=by
        intro l
        induction l with
        |nil=>intro o e hc;simp[iT]at hc;omega
        |cons g r ih=>intro o e hc;simp only[iT,Bool.and_eq_true,beq_iff_eq]at hc;have:=ih _ _ hc.2;omega
       rcases List.mem_cons.1 hm with rfl|hm
       ·have:=hge _ _ _ hc.2
        omega
       ·have:=ih _ _ hc.2 hm
        omega
     have:=hin _ _ _ hp.2 hf
     omega
    exact⟨zs,hz,h7,h5,h6⟩)
   refine⟨xs, ?_,h3,.struct ht (by rw[h1];omega) (fun i f hf=> ?_)⟩
   ·rw[h2,List.drop_zero,Nat.sub_zero,←hlen,List.take_length]
   ·have:=(h4 f (by rw[Array.mem_toList_iff];exact Array.mem_of_getElem? hf)).2
    rwa [Nat.sub_zero]at this
  ·cases hp
end
section
variable{P:Program}{t e:TypeId}{xs:List Cell}
theorem BI{k:IntKind}(ht:P.underlying t=some (.int k))(h:Ty P t xs):∃z,xs=[.v (.int k z)]∧(Lit.int k z).wf=true:=by
 cases h with
 |int ht' hw=>rw[ht]at ht';cases ht';exact⟨_,rfl,hw⟩
 |bool ht' =>rw[ht]at ht';cases ht'
 |str ht' =>rw[ht]at ht';cases ht'
 |slice ht' =>rw[ht]at ht';cases ht'
 |arr ht' =>rw[ht]at ht';cases ht'
 |struct ht' =>rw[ht]at ht';cases ht'
theorem CG(ht:P.underlying t=some (.int .i64))(h:Ty P t xs):∃z,xs=[.v (.int .i64 z)]∧-9223372036854775808≤z∧z≤9223372036854775807:=by
 obtain⟨z,rfl,hw⟩:=BI ht h
 refine⟨z,rfl, ?_⟩
 simp only[Lit.wf,IntKind.min,IntKind.max,IntKind.signed,IntKind.bits]at hw
 simp at hw
 omega
theorem rK(ht:P.underlying t=some (.slice e))(h:Ty P t xs):∃A n c ys,xs=[.s (P.cellsOf e) A n c ys]∧n≤c∧n*P.bytesOf e≤140737488351232∧ys.length=n*P.cellsOf e∧∀i,i<n→Ty P e ((ys.drop (i*P.cellsOf e)).take (P.cellsOf e)):=by
 cases h with
 |int ht' =>rw[ht]at ht';cases ht'
 |bool ht' =>rw[ht]at ht';cases ht'
 |str ht' =>rw[ht]at ht';cases ht'
 |slice ht' hc hn hl h=>rw[ht]at ht';cases ht';exact⟨_,_,_,_,rfl,hc,hn,hl,h⟩
 |arr ht' =>rw[ht]at ht';cases ht'
 |struct ht' =>rw[ht]at ht';cases ht'
end
theorem fh{w:World}{sz n i o:Nat}{A:Option Addr}{xs:List Value}{u:Value}(h:Rd w sz A n xs)(hu:xs[i*sz+o]? =some u):w.cell? (((A.getD d0).add (i*sz)).add o)=some u:=by
 rw[add_add]
 exact h.cell hu
theorem View.rowOf{sz n c:Nat}{A:Option Addr}{xs:List Cell}{vs:List Value}(h:xs.map Cell.val=vs):View (pS (.s sz A n c xs)) (dw sz A n vs):=h▸View.ER
section
variable{H:Type}{enc:TypeId×Value→H}{P:Program}{W:World}{spare:Nat→Bool}{held:Bool}{tss:List TypeId}{dss:List (DataW H)}
theorem ti{t:TypeId}{v:Value}{d:DataW H}{ps:List MemPlace}{j:Nat}(k:Nat)(hp:parts P k t=true)(h:DataW.Trod enc P W 0 spare held t v d ps)(hsz:(DataW.weightsEach P tss dss).all (· ≤reachBytes)=true)(hjt:tss[j]? =some t)(hjd:dss[j]? =some d):
  ∃xs:List Cell,xs.map Cell.val=v.cells.toList∧iM W xs∧Ty P t xs:=by
 obtain⟨fuel,hf⟩:=h
 refine ju k fuel t _ _ hp hf (fun q hq=> ?_)
 have:=List.all_eq_true.1 hsz q (DataW.weights_mem_each hjt hjd q hq)
 have hr:reachBytes=140737488351232:=rfl
 simp at this
 omega
theorem rk{t e:TypeId}{A:Option Addr}{n c:Nat}{d:DataW H}{ps:List MemPlace}{j:Nat}(k:Nat)(hp:parts P k t=true)(ht:P.underlying t=some (.slice e))(h:DataW.Trod enc P W 0 spare held t (.slice A n c) d ps)(hsz:(DataW.weightsEach P tss dss).all (· ≤reachBytes)=true)(hjt:tss[j]? =some t)(hjd:dss[j]? =some d):
  ∃ys:List Cell,(pS (.s (P.cellsOf e) A n c ys)).holds W∧Ty P t [.s (P.cellsOf e) A n c ys]:=by
 obtain⟨xs,h1,h2,h3⟩:=ti k hp h hsz hjt hjd
 obtain⟨A',n',c',ys,rfl,_⟩:=rK ht h3
 have e1:[Cell.val (.s (P.cellsOf e) A' n' c' ys)]=[Value.slice A n c]:=h1
 simp only[Cell.val,List.cons.injEq,Value.slice.injEq,and_true]at e1
 obtain⟨rfl,rfl,rfl⟩:=e1
 exact⟨ys,h2.1,h3⟩
end
end Go.Eng
end
