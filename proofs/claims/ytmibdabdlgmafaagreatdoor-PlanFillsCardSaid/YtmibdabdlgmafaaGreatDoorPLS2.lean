/- Part. -/
import Derived.Test.YtmibdabdlgmafaaGreatDoorPLS1
import Derived.Laws.BitsAllLaws
import Derived.Test.YtmibdabdlgmafaaGreatDoorProg
import Derived.KernelRfl
import Derived.Lib.Bytealg
import Derived.Test.YtmibdabdlgmafaaGreatDoorRows
import Derived.ProofKit
import Derived.LaidMore
import Derived.OpenShut
import Derived.MakeChecks
import Derived.LaidHandle
import Derived.LaidLaws
import Derived.Lib.BytesEntry
import Derived.Lib.IndexAny
import Derived.ShutString
import Derived.ChangeOld
import Derived.SizedLaws
import Derived.ChangeSame
import Derived.Conc.MuLib
import Derived.Laws.LoneSync
import Derived.Tactics
import Derived.Tactics2
import Derived.Defers
import Derived.Laws.Pointers
import Derived.RegionTactic
import Derived.RegionCalls
set_option linter.all false
section
namespace Go.Eng
open Go.RowKit
abbrev Wd(x:UInt32):Value:=.int .u32 (x.toNat:Int)
def ee(l:List UInt32):List Value:=l.map Wd
theorem a8(l:List UInt32):(ee l).length=l.length:=by simp[ee]
theorem gO{l:List UInt32}:∀u∈ee l,u.oneCell' =true:=by
 intro u hu
 obtain⟨x,_,rfl⟩:=List.mem_map.1 hu
 rfl
theorem rY{l:List UInt32}:∀u∈ee l,u.cells.toList=[u]:=by
 intro u hu
 obtain⟨x,_,rfl⟩:=List.mem_map.1 hu
 rfl
theorem uS{l:List UInt32}:∀u∈ee l,u.cells.size=1:=by
 intro u hu
 obtain⟨x,_,rfl⟩:=List.mem_map.1 hu
 rfl
theorem br{l:List UInt32}{i:Nat}(h:i<l.length):(ee l)[i]? =some (Wd (l.getD i 0)):=by simp[ee,List.getElem?_map,List.getElem?_eq_getElem h,List.getD]
theorem mj(a b:List UInt32):ee (a++b)=ee a++ee b:=by simp[ee]
theorem ti(l:List UInt32)(i:Nat)(x:UInt32):(ee l).set i (Wd x)=ee (l.set i x):=by simp[ee,List.map_set]
theorem wrap32(n:Nat):IntKind.u32.wrap (n:Int)=((n % 4294967296:Nat):Int):=by
 simp[IntKind.wrap,IntKind.signed,IntKind.bits]
section
variable{P:Program}{N:Nat}{D:List Deferred}{ρ:Env}{w:World}{x y:Operand}{ty t t' e:TypeId}{a b:UInt32}
theorem dz(hx:ev ρ x=some (Wd a))(hy:ev ρ y=some (Wd b)):Yl P N D ρ w (.binOp .add t x y t') ty (Wd (a+b)):=aP hx hy (by
 rw[←Int.natCast_add,wrap32,UInt32.toNat_add])
theorem mF(hx:ev ρ x=some (Wd a))(hy:ev ρ y=some (Wd b)):Yl P N D ρ w (.binOp .mul t x y t') ty (Wd (a*b)):=fK hx hy (by
 rw[←Int.natCast_mul,wrap32,UInt32.toNat_mul])
theorem iJ(hx:ev ρ x=some (Wd a))(hy:ev ρ y=some (Wd b)):Yl P N D ρ w (.binOp .and t x y t') ty (Wd (a &&& b)):=gH (by simp) hx hy (by
 rw[u32_and_nat _ _ a.toNat_lt b.toNat_lt,UInt32.toNat_and])
theorem BS(hx:ev ρ x=some (Wd a))(hy:ev ρ y=some (Wd b)):Yl P N D ρ w (.binOp .or t x y t') ty (Wd (a ||| b)):=gH (by simp) hx hy (by
 rw[u32_or_nat _ _ a.toNat_lt b.toNat_lt,UInt32.toNat_or])
theorem dj(hx:ev ρ x=some (Wd a))(hy:ev ρ y=some (Wd b)):Yl P N D ρ w (.binOp .xor t x y t') ty (Wd (a ^^^ b)):=gH (by simp) hx hy (by
 rw[u32_xor_nat _ _ a.toNat_lt b.toNat_lt,UInt32.toNat_xor])
theorem oh(h0:b.toNat≠0)(hx:ev ρ x=some (Wd a))(hy:ev ρ y=some (Wd b)):Yl P N D ρ w (.binOp .quo t x y t') ty (Wd (a/b)):=kA hx hy (by omega) (by omega) (by
 rw[←Int.natCast_ediv,wrap32,UInt32.toNat_div]
 have:=a.toNat_lt
 have h2:=Nat.div_le_self a.toNat b.toNat
 rw[Nat.mod_eq_of_lt (by omega)])
theorem wj(h0:b.toNat≠0)(hx:ev ρ x=some (Wd a))(hy:ev ρ y=some (Wd b)):Yl P N D ρ w (.binOp .rem t x y t') ty (Wd (a % b)):=by
 have h:=hZ (P:=P) (N:=N) (D:=D) (w:=w) (ty:=ty) (t:=t) (t' :=t') hx hy (by omega) (by omega)
 have e:((a.toNat:Int) % (b.toNat:Int))=((a % b).toNat:Int):=by rw[UInt32.toNat_mod];rfl
 rwa [e]at h
theorem wz{k:Nat}{k' :IntKind}(hk:k<32)(hx:ev ρ x=some (Wd a))(hy:ev ρ y=some (.int k' (k:Int))):Yl P N D ρ w (.binOp .shr t x y t') ty (Wd (.ofNat (a.toNat/2 ^ k))):=by
 have h:=nt (P:=P) (N:=N) (D:=D) (w:=w) (ty:=ty) (t:=t) (t' :=t') (p:=((2 ^ k:Nat):Int)) hx hy (by omega) (by simp[IntKind.bits];omega) (by simp)
 have e:((a.toNat:Int)/((2 ^ k:Nat):Int))=((UInt32.ofNat (a.toNat/2 ^ k)).toNat:Int):=by
  rw[UInt32.toNat_ofNat',←Int.natCast_ediv]
  have:=a.toNat_lt
  have h2:=Nat.div_le_self a.toNat (2 ^ k)
  rw[Nat.mod_eq_of_lt (by omega)]
 rwa [e]at h
theorem tY{k:Nat}{k' :IntKind}(hk:k<32)(hx:ev ρ x=some (Wd a))(hy:ev ρ y=some (.int k' (k:Int))):Yl P N D ρ w (.binOp .shl t x y t') ty (Wd (.ofNat (a.toNat*2 ^ k))):=by
 refine vg (p:=((2 ^ k:Nat):Int)) hx hy (by omega) (by simp[IntKind.bits];omega) (by simp) ?_
 rw[←Int.natCast_mul,wrap32,UInt32.toNat_ofNat']
theorem lu{k:Nat}{k' :IntKind}(hk:k<32)(hb:b.toNat=2 ^ k)(hx:ev ρ x=some (Wd a))(hy:ev ρ y=some (.int k' (k:Int))):Yl P N D ρ w (.binOp .shr t x y t') ty (Wd (a/b)):=by
 have h:=wz (P:=P) (N:=N) (D:=D) (w:=w) (ty:=ty) (t:=t) (t' :=t') hk hx hy
 have e:UInt32.ofNat (a.toNat/2 ^ k)=a/b:=by
  apply UInt32.toNat_inj.1
  have:=a.toNat_lt
  have h2:=Nat.div_le_self a.toNat (2 ^ k)
  rw[UInt32.toNat_ofNat',UInt32.toNat_div,hb,Nat.mod_eq_of_lt (by omega)]
 rwa [e]at h
theorem tN{k:Nat}{k' :IntKind}(hk:k<32)(hb:b.toNat=2 ^ k)(hx:ev ρ x=some (Wd a))(hy:ev ρ y=some (.int k' (k:Int))):Yl P N D ρ w (.binOp .shl t x y t') ty (Wd (a*b)):=by
 have h:=tY (P:=P) (N:=N) (D:=D) (w:=w) (ty:=ty) (t:=t) (t' :=t') hk hx hy
 have e:UInt32.ofNat (a.toNat*2 ^ k)=a*b:=by
  apply UInt32.toNat_inj.1
  rw[UInt32.toNat_ofNat',UInt32.toNat_mul,hb]
 rwa [e]at h
theorem EI(hx:ev ρ x=some (.int .u32 4294967295))(hy:ev ρ y=some (Wd b)):Yl P N D ρ w (.binOp .sub t x y t') ty (Wd (~~~b)):=cn hx hy (by
 have:=b.toNat_lt
 rw[UInt32.toNat_not,show(4294967295:Int)-(b.toNat:Int)=((4294967295-b.toNat:Nat):Int) by omega,wrap32,Nat.mod_eq_of_lt (by omega)]
 rfl)
theorem Gv(hx:ev ρ x=some (Wd a)):Yl P N D ρ w (.unOp .xor t x) ty (Wd (~~~a)):=by
 have h:=sW (P:=P) (N:=N) (D:=D) (w:=w) (ty:=ty) (t:=t) hx a.toNat_lt
 have e:4294967295 ^^^ a.toNat=(~~~a).toNat:=by
  have h1:(BitVec.allOnes 32 ^^^ BitVec.ofNat 32 a.toNat)= ~~~ BitVec.ofNat 32 a.toNat:=BitVec.allOnes_xor
  have h2:=congrArg BitVec.toNat h1
  rw[BitVec.toNat_xor,BitVec.toNat_not,BitVec.toNat_allOnes,BitVec.toNat_ofNat,Nat.mod_eq_of_lt a.toNat_lt]at h2
  rw[UInt32.toNat_not]
  exact h2
 rwa [e]at h
theorem Bp{c:UInt8}{k:TypeDesc}(hx:ev ρ x=some (B8 c))(ht:P.underlying t=some k)(ht' :P.underlying t' =some (.int .u32)):Yl P N D ρ w (.convert t t' x) ty (Wd c.toUInt32):=bY hx ht ht' (by
 have:=c.toNat_lt
 rw[wrap32,Nat.mod_eq_of_lt (by omega),UInt8.toNat_toUInt32])
theorem Bk{k:TypeDesc}(hx:ev ρ x=some (Wd a))(ht:P.underlying t=some k)(ht' :P.underlying t' =some (.int .u8)):Yl P N D ρ w (.convert t t' x) ty (B8 (UInt8.ofNat a.toNat)):=bY hx ht ht' (by
 simp[IntKind.wrap,IntKind.signed,IntKind.bits])
end
theorem xV{P:Program}{pl:Nat→Option (Nat×Nat)}:∀(vs:List Value) (k:Nat) (d r:List Value),d.length=k→r.length=vs.length→(∀i,i<k+vs.length→pl i=some (i,1))→(∀v∈vs,v.cells.toList=[v])→xX P pl (d++r) ((List.range' k vs.length).zip vs) (d++vs)
 | [],k,d,r,hd,hr,hp,h1=>by
  obtain rfl:=List.eq_nil_of_length_eq_zero hr
  exact .nil
 |v::vs,k,d,r,hd,hr,hp,h1=>by
  match r,hr with
  |x::r,hr=>
   have hs:b8 (d++x::r) k [v]=(d++[v])++r:=by
    subst hd
    simp[b8]
   have ih:=xV (P:=P) (pl:=pl) vs (k+1) (d++[v]) r (by simp[hd]) (by simpa using hr) (fun i hi=>hp i (by simp at hi ⊢;omega)) (fun u hu=>h1 u (List.mem_cons_of_mem _ hu))
   rw[List.length_cons,List.range'_succ,List.zip_cons_cons]
   refine .cons (hp k (by simp)) (h1 v (List.mem_cons_self ..)) rfl (by simp[hd]) ?_
   rw[hs,show d++v::vs=(d++[v])++vs by simp]
   exact ih
theorem uB{P:Program}{N:Nat}{D:List Deferred}{ρ:Env}{w:World}{t ty:TypeId}{parts:List (Nat×Operand)}{vs:List Value}{z:Value}{sz bytes n:Nat}(hT:TI P t z sz bytes)(hz:z.cells.toList.length=n)(hv:oe ρ (parts.map (·.2))=some vs)(hp:(lR P t 0).isSome=true)(hn:vs.length=n)
  (hi:parts.map (·.1)=List.range' 0 n) (hpl:((List.range n).all fun i=>lR P t i == some (i,1))=true) (h1:∀v∈vs,v.cells.toList=[v]):Yl P N D ρ w (.build t parts.toArray) ty (.agg vs.toArray):=by
 refine bU hT rfl hv hp ?_
 rw[hi,←hn]
 have h:=xV (P:=P) (pl:=lR P t) vs 0 [] z.cells.toList rfl (by omega) (fun i hi=> ?_) h1
 ·exact h
 ·have:=List.all_eq_true.1 hpl i (by rw[List.mem_range];omega)
  simpa using this
theorem Own.drop{w:World}{b:Nat}{e:TypeId}{sz n c k:Nat}{A:Option Addr}{xs:List Value}(h:Own w b e sz (.slice A n c) n xs)(hk:k≤n)(hz:k≤c):Own w b e sz (.slice (if c=k then A else A.map (·.add (k*sz))) (n-k) (c-k)) (n-k) (xs.drop (k*sz)):=by
 obtain⟨hl,hx⟩:=h
 refine⟨by rw[List.length_drop,hl,Nat.sub_mul], ?_⟩
 rcases hx with⟨hv,hn⟩|⟨g,o,cap,cur,hv,hb,hB,hnc,hcm,hfit,hcs⟩
 ·cases hv
  obtain rfl:k=0:=by omega
  exact .inl ⟨rfl,rfl⟩
 ·cases hv
  by_cases hck:c=k
  ·subst hck
   obtain rfl:n=c:=by omega
   rw[if_pos rfl]
   refine .inr ⟨g,o,n-n,cur,rfl,hb,hB,by omega,by omega,by rw[Nat.sub_self,Nat.zero_mul];omega, ?_⟩
   rw[Nat.sub_self,Nat.zero_mul,List.take_zero,List.drop_of_length_le (by omega)]
  ·rw[if_neg hck]
   refine .inr ⟨g,o+k*sz,c-k,cur, ?_,hb,hB,by omega,by omega, ?_, ?_⟩
   ·simp[Addr.add]
   ·have:(c-k)*sz+k*sz=c*sz:=by rw[←Nat.add_mul];congr 1;omega
    omega
   ·rw[←hcs,List.drop_take,List.drop_drop,Nat.sub_mul]
theorem View.tj{e:TypeId}{sz n c k:Nat}{A:Option Addr}{xs:List Value}(hk:k≤n)(hz:n≤c):View (aK e sz (.slice A n c) n xs) (aK e sz (.slice (if c=k then A else A.map (·.add (k*sz))) (n-k) (c-k)) (n-k) (xs.drop (k*sz))):=
 .of (fun w h=>Own.drop h hk (by omega)) (fun i hi=>by
  cases A with
  |none=>by_cases hc:c=k <;> simp[aK,kC,hc]at hi
  |some a=>
   by_cases hc:c=k
   ·simpa[aK,kC,hc]using hi
   ·have h2:i=(a.add (k*sz)).block:=by simpa[aK,kC,hc]using hi
    show i=a.block
    rw[h2,jX])
theorem Mem.AZ{b:ct}{X S:List bl}{w:World}{r r' :bl}(m:Mem b (r::X) S w)(v:View r r'):Mem b (r' ::X) S w:=m.JI (v.ok.1 w) v.ok.2
end Go.Eng
end
section
namespace Go.Hx
open Go.Eng
def iN(n:Nat)(x:UInt32):UInt32:=.ofNat (x.toNat/2 ^ n+x.toNat % 2 ^ n*2 ^ (32-n))
theorem nM{n:Nat}(hn:n≤32)(x:UInt32):(iN n x).toNat=x.toNat/2 ^ n+x.toNat % 2 ^ n*2 ^ (32-n):=by
 rw[iN,UInt32.toNat_ofNat',Nat.mod_eq_of_lt]
 have h1:=x.toNat_lt
 have h2:2 ^ n*2 ^ (32-n)=2 ^ 32:=by rw[←Nat.pow_add];congr 1;omega
 have h3:x.toNat % 2 ^ n<2 ^ n:=Nat.mod_lt _ (Nat.two_pow_pos n)
 have h4:x.toNat/2 ^ n<2 ^ (32-n):=Nat.div_lt_of_lt_mul (by omega)
 have h5:x.toNat % 2 ^ n*2 ^ (32-n)≤(2 ^ n-1)*2 ^ (32-n):=Nat.mul_le_mul_right _ (by omega)
 have h6:(2 ^ n-1)*2 ^ (32-n)+2 ^ (32-n)=2 ^ 32:=by
  rw[←h2,Nat.sub_mul,Nat.one_mul]
  have:=Nat.le_mul_of_pos_left (2 ^ (32-n)) (Nat.two_pow_pos n)
  omega
 omega
def vU(x:UInt32):UInt32:=x/2+x % 2*2147483648
theorem zI(x:UInt32):(vU x).toNat=x.toNat/2+x.toNat % 2*2147483648:=by
 have h1:=x.toNat_lt
 rw[vU,UInt32.toNat_add,UInt32.toNat_mul,UInt32.toNat_div,UInt32.toNat_mod]
 show(x.toNat/2+x.toNat % 2*2147483648 % 4294967296) % 4294967296=_
 have:x.toNat % 2<2:=Nat.mod_lt _ (by decide)
 omega
theorem y9(x:UInt32):iN 0 x=x:=by
 apply UInt32.toNat_inj.1
 rw[nM (by decide)]
 simp[Nat.mod_one]
theorem zX{n:Nat}(hn:n<32)(x:UInt32):iN (n+1) x=vU (iN n x):=by
 apply UInt32.toNat_inj.1
 rw[zI,nM (by omega),nM (by omega)]
 obtain⟨k,hk⟩:∃k,32-n=k+1:=⟨31-n,by omega⟩
 have hk2:32-(n+1)=k:=by omega
 rw[hk,hk2,Nat.pow_succ 2 k,Nat.pow_succ 2 n]
 have hq:x.toNat/(2 ^ n*2)=x.toNat/2 ^ n/2:=(Nat.div_div_eq_div_mul ..).symm
 have hm:x.toNat % (2 ^ n*2)=x.toNat % 2 ^ n+2 ^ n*(x.toNat/2 ^ n % 2):=Nat.mod_mul ..
 rw[hq,hm]
 generalize x.toNat/2 ^ n=q
 generalize x.toNat % 2 ^ n=m
 have h31:2 ^ n*2 ^ k=2147483648:=by rw[←Nat.pow_add,show n+k=31 by omega]
 have e1:(q+m*(2 ^ k*2))/2=q/2+m*2 ^ k:=by
  rw[show m*(2 ^ k*2)=(m*2 ^ k)*2 by rw[Nat.mul_assoc]];omega
 have e2:(q+m*(2 ^ k*2)) % 2=q % 2:=by
  rw[show m*(2 ^ k*2)=(m*2 ^ k)*2 by rw[Nat.mul_assoc]];omega
 rw[e1,e2,Nat.add_mul,Nat.mul_right_comm (2 ^ n),h31]
 omega
theorem tr{n:Nat}(h0:0<n)(hn:n<32)(x:UInt32):UInt32.ofNat (x.toNat*2 ^ (32-n)) ||| UInt32.ofNat (x.toNat/2 ^ n)=iN n x:=by
 apply UInt32.toNat_inj.1
 have h1:=x.toNat_lt
 rw[nM (by omega),UInt32.toNat_or,UInt32.toNat_ofNat',UInt32.toNat_ofNat']
 have h2:2 ^ n*2 ^ (32-n)=2 ^ 32:=by rw[←Nat.pow_add];congr 1;omega
 have h4:x.toNat/2 ^ n<2 ^ (32-n):=Nat.div_lt_of_lt_mul (by omega)
 have h5:x.toNat/2 ^ n≤x.toNat:=Nat.div_le_self ..
 rw[Nat.mod_eq_of_lt (a:=x.toNat/2 ^ n) (by omega)]
 have h6:x.toNat*2 ^ (32-n) % 2 ^ 32=2 ^ (32-n)*(x.toNat % 2 ^ n):=by
  rw[←h2,Nat.mul_mod_mul_right,Nat.mul_comm]
 rw[h6,←Nat.two_pow_add_eq_or_of_lt h4,Nat.mul_comm,Nat.add_comm]
def fX:List UInt32:=[1116352408,1899447441,3049323471,3921009573,961987163,1508970993,2453635748,2870763221,3624381080,310598401,607225278,1426881987,1925078388,2162078206,2614888103,3248222580,3835390401,4022224774,264347078,604807628,770255983,1249150122,1555081692,1996064986,2554220882,2821834349,2952996808,3210313671,3336571891,3584528711,113926993,338241895,666307205,773529912,1294757372,1396182291,1695183700,1986661051,2177026350,2456956037,2730485921,2820302411,3259730800,3345764771,3516065817,3600352804,4094571909,275423344,430227734,506948616,659060556,883997877,958139571,1322822218,1537002063,1747873779,1955562222,2024104815,2227730452,2361852424,2428436474,2756734187,3204031479,3329325298]
def mQ:List UInt32:=[1779033703,3144134277,1013904242,2773480762,1359893119,2600822924,528734635,1541459225]
def turns(a b c:Nat)(x:UInt32):UInt32:=iN a x ^^^ iN b x ^^^ iN c x
def at8(b:List UInt8)(i:Nat):Nat:=(b.getD i 0).toNat
def lh(b:List UInt8)(i:Nat):UInt32:=.ofNat (at8 b i*16777216+at8 b (i+1)*65536+at8 b (i+2)*256+at8 b (i+3))
def wp(b:List UInt8)(i:Nat):Nat→Nat
 |0=>0
 |j+1=>wp b i j*256+at8 b (i+j)
theorem ow(b:List UInt8)(i:Nat):at8 b i<256:=(b.getD i 0).toNat_lt
theorem Fj(b:List UInt8)(i:Nat):∀j,wp b i j<256 ^ j
 |0=>Nat.one_pos
 |j+1=>by
  have h1:=Fj b i j
  have h2:=ow b (i+j)
  rw[wp,Nat.pow_succ]
  omega
theorem EM{b:List UInt8}{i j:Nat}(hj:j<4):(UInt32.ofNat (wp b i j)*256) ||| (b.getD (i+j) 0).toUInt32=UInt32.ofNat (wp b i (j+1)):=by
 apply UInt32.toNat_inj.1
 have h1:=Fj b i j
 have h0:256 ^ j≤256 ^ 3:=Nat.pow_le_pow_right (by decide) (by omega)
 have h2:=ow b (i+j)
 have h3:wp b i j<16777216:=Nat.lt_of_lt_of_le h1 h0
 rw[UInt32.toNat_or,UInt32.toNat_mul,UInt32.toNat_ofNat',UInt8.toNat_toUInt32,UInt32.toNat_ofNat',wp]
 show(wp b i j % 4294967296*256 % 4294967296 ||| at8 b (i+j))=_
 rw[Nat.mod_eq_of_lt (a:=wp b i j) (by omega),Nat.mod_eq_of_lt (a:=wp b i j*256) (by omega),Nat.mod_eq_of_lt (a:=wp b i j*256+_) (by omega),show wp b i j*256=2 ^ 8*wp b i j by omega,Nat.two_pow_add_eq_or_of_lt (i:=8) h2]
theorem Hr(b:List UInt8)(i:Nat):wp b i 4=at8 b i*16777216+at8 b (i+1)*65536+at8 b (i+2)*256+at8 b (i+3):=by
 have e1:wp b i 1=wp b i 0*256+at8 b (i+0):=rfl
 have e2:wp b i 2=wp b i 1*256+at8 b (i+1):=rfl
 have e3:wp b i 3=wp b i 2*256+at8 b (i+2):=rfl
 have e4:wp b i 4=wp b i 3*256+at8 b (i+3):=rfl
 have e0:wp b i 0=0:=rfl
 rw[Nat.add_zero]at e1
 rw[e4,e3,e2,e1,e0]
 generalize at8 b i=p
 generalize at8 b (i+1)=q
 generalize at8 b (i+2)=r
 generalize at8 b (i+3)=s
 omega
theorem E5(b:List UInt8)(i:Nat):UInt32.ofNat (wp b i 4)=lh b i:=congrArg UInt32.ofNat (Hr b i)
theorem zQ(b:List UInt8)(i:Nat):(b.getD i 0).toUInt32*16777216+(b.getD (i+1) 0).toUInt32*65536+(b.getD (i+2) 0).toUInt32*256+(b.getD (i+3) 0).toUInt32=lh b i:=by
 apply UInt32.toNat_inj.1
 have h0:(b.getD i 0).toNat<256:=ow b i
 have h1:(b.getD (i+1) 0).toNat<256:=ow b (i+1)
 have h2:(b.getD (i+2) 0).toNat<256:=ow b (i+2)
 have h3:(b.getD (i+3) 0).toNat<256:=ow b (i+3)
 have k1:(16777216:UInt32).toNat=16777216:=rfl
 have k2:(65536:UInt32).toNat=65536:=rfl
 have k3:(256:UInt32).toNat=256:=rfl
 simp only[lh,at8,UInt32.toNat_add,UInt32.toNat_mul,UInt8.toNat_toUInt32,UInt32.toNat_ofNat',k1,k2,k3]
 generalize(b.getD i 0).toNat=p at*
 generalize(b.getD (i+1) 0).toNat=q at*
 generalize(b.getD (i+2) 0).toNat=r at*
 generalize(b.getD (i+3) 0).toNat=s at*
 omega
def J9(x:UInt32):UInt32:=iN 7 x ^^^ iN 18 x ^^^ (x/8)
def Il(x:UInt32):UInt32:=iN 17 x ^^^ iN 19 x ^^^ (x/1024)
def nQ(w:List UInt32)(i:Nat):UInt32:=w.getD (i-16) 0+J9 (w.getD (i-15) 0)+w.getD (i-7) 0+Il (w.getD (i-2) 0)
def wl(b:List UInt8):Nat→List UInt32
 |0=>[]
 |i+1=>wl b i++[if i<16 then lh b (4*i)else nQ (wl b i) i]
theorem fO(b:List UInt8):∀i,(wl b i).length=i
 |0=>rfl
 |i+1=>by rw[wl,List.length_append,fO b i];rfl
def v_(v:List UInt32)(i:Nat):UInt32:=v.getD i 0
def rt(v:List UInt32)(k w:UInt32):UInt32:=v_ v 7+turns 6 11 25 (v_ v 4)+((v_ v 4 &&& v_ v 5) ^^^ (~~~(v_ v 4) &&& v_ v 6))+k+w
def ru(v:List UInt32):UInt32:=turns 2 13 22 (v_ v 0)+((v_ v 0 &&& v_ v 1) ^^^ (v_ v 0 &&& v_ v 2) ^^^ (v_ v 1 &&& v_ v 2))
def JQ(v:List UInt32)(k w:UInt32):List UInt32:=[rt v k w+ru v,v_ v 0,v_ v 1,v_ v 2,v_ v 3+rt v k w,v_ v 4,v_ v 5,v_ v 6]
def k0(w v:List UInt32):Nat→List UInt32
 |0=>v
 |i+1=>JQ (k0 w v i) (fX.getD i 0) (w.getD i 0)
theorem k5{w v:List UInt32}(h:v.length=8):∀i,(k0 w v i).length=8
 |0=>h
 |i+1=>rfl
def gn(v h:List UInt32)(i:Nat):List UInt32:=(List.range v.length).map fun j=>if j<i then v_ v j+v_ h j else v_ v j
def eF(h:List UInt32)(b:List UInt8):List UInt32:=gn (k0 (wl b 64) h 64) h 8
theorem jq{h:List UInt32}(hl:h.length=8)(b:List UInt8):(eF h b).length=8:=by simp[eF,gn,k5 hl]
theorem r9{v h:List UInt32}:gn v h 0=v:=by
 apply List.ext_getElem?
 intro i
 simp only[gn,Nat.not_lt_zero,if_false,List.getElem?_map]
 by_cases hi:i<v.length
 ·simp[hi,v_,List.getD]
 ·rw[List.getElem?_eq_none (by simpa using hi),List.getElem?_eq_none (by omega)];rfl
theorem sr{v h:List UInt32}{i:Nat}(hi:i<v.length):gn v h (i+1)=(gn v h i).set i (v_ (gn v h i) i+v_ h i):=by
 apply List.ext_getElem?
 intro j
 have e:v_ (gn v h i) i=v_ v i:=by simp[gn,v_,List.getD,hi]
 rw[e]
 by_cases hj:j<v.length
 ·by_cases hij:i=j
  ·subst hij
   simp[gn,hi]
  ·rw[List.getElem?_set_ne hij]
   simp only[gn,List.getElem?_map,List.getElem?_range hj,Option.map_some]
   congr 1
   by_cases h1:j<i
   ·rw[if_pos h1,if_pos (by omega)]
   ·rw[if_neg h1,if_neg (by omega)]
 ·rw[List.getElem?_eq_none (by simp[gn];omega),List.getElem?_eq_none (by simp[gn];omega)]
def pn:Nat→List UInt32→List UInt8→List UInt32
 |0,h,_=>h
 |n+1,h,l=>pn n (eF h (l.take 64)) (l.drop 64)
def fN(h:List UInt32)(l:List UInt8):List UInt32:=pn (l.length/64) h l
theorem qo:∀(n:Nat) (h:List UInt32) (l b:List UInt8),l.length=64*n→b.length=64→pn (n+1) h (l++b)=eF (pn n h l) b
 |0,h,l,b,hl,hb=>by
  obtain rfl:=List.eq_nil_of_length_eq_zero hl
  simp only[pn,List.nil_append]
  rw[List.take_of_length_le (by omega)]
 |n+1,h,l,b,hl,hb=>by
  have h1:(l++b).take 64=l.take 64:=by rw[List.take_append_of_le_length (by omega)]
  have h2:(l++b).drop 64=l.drop 64++b:=by rw[List.drop_append_of_le_length (by omega)]
  rw[pn,h1,h2,qo n _ (l.drop 64) b (by rw[List.length_drop];omega) hb]
  rfl
theorem qm{h:List UInt32}{l b:List UInt8}(hl:l.length % 64=0)(hb:b.length=64):fN h (l++b)=eF (fN h l) b:=by
 unfold fN
 rw[List.length_append,hb,show(l.length+64)/64=l.length/64+1 by omega]
 exact qo _ h l b (by omega) hb
theorem nT:∀(n:Nat) (h:List UInt32) (l:List UInt8),h.length=8→(pn n h l).length=8
 |0,h,l,hl=>hl
 |n+1,h,l,hl=>nT n _ _ (jq hl _)
theorem nu{h:List UInt32}(l:List UInt8)(hl:h.length=8):(fN h l).length=8:=nT _ _ _ hl
def C4(x:UInt32):List UInt8:=[.ofNat (x/16777216).toNat,.ofNat (x/65536).toNat,.ofNat (x/256).toNat,.ofNat x.toNat]
def eV(h:List UInt32):List UInt8:=h.flatMap C4
def uf(n:Nat):List UInt8:=(List.range 8).map fun i=>.ofNat (n/256 ^ (7-i))
def iT(n:Nat):Nat:=(119-n % 64) % 64
def jz(b:List UInt8):List UInt8:=b++(128::List.replicate (iT b.length) 0)++uf (8*b.length)
theorem oX(b:List UInt8):(jz b).length % 64=0:=by
 simp only[jz,List.length_append,List.length_cons,List.length_replicate,uf,List.length_map,List.length_range,iT]
 omega
def bL(b:List UInt8):List UInt8:=eV (fN mQ (jz b))
theorem n0{h:List UInt32}(hl:h.length=8):(eV h).length=32:=by
 match h,hl with
 | [a,b,c,d,e,f,g,i],_=>rfl
theorem bK(b:List UInt8):(bL b).length=32:=n0 (nu _ rfl)
end Go.Hx
end
section
namespace Go.Proofs.YtmibdabdlgmafaaGreatDoor
open Go.Eng
theorem dD:c7 Tryz.prog 3=some false:=by kernel_rfl
theorem ue:fo Tryz.prog 3=some 1:=by kernel_rfl
theorem HU:TI Tryz.prog 3 (.int .i64 0) 1 8:=by unfold TI;kernel_rfl
theorem iO:c7 Tryz.prog 5=some false:=by kernel_rfl
theorem dU:fo Tryz.prog 5=some 1:=by kernel_rfl
theorem fi:TI Tryz.prog 5 (.int .u8 0) 1 1:=by unfold TI;kernel_rfl
theorem mG:c7 Tryz.prog 9=some false:=by kernel_rfl
theorem Ky:fo Tryz.prog 9=some 1:=by kernel_rfl
theorem JS:TI Tryz.prog 9 (.string ⟨#[]⟩) 1 16:=by unfold TI;kernel_rfl
theorem dB:c7 Tryz.prog 27=some false:=by kernel_rfl
theorem iY:fo Tryz.prog 27=some 1:=by kernel_rfl
theorem kZ:TI Tryz.prog 27 (.slice none 0 0) 1 24:=by unfold TI;kernel_rfl
theorem Jd:c7 Tryz.prog 33=some false:=by kernel_rfl
theorem Ke:fo Tryz.prog 33=some 1:=by kernel_rfl
theorem Ko:TI Tryz.prog 33 (.slice none 0 0) 1 24:=by unfold TI;kernel_rfl
theorem og:c7 Tryz.prog 35=some false:=by kernel_rfl
theorem rJ:c7 Tryz.prog 36=some false:=by kernel_rfl
theorem IS:fo Tryz.prog 36=some 1:=by kernel_rfl
theorem Ib:c7 Tryz.prog 37=some false:=by kernel_rfl
theorem Jo:fo Tryz.prog 37=some 1:=by kernel_rfl
theorem cF:c7 Tryz.prog 39=some true:=by kernel_rfl
theorem bP:fo Tryz.prog 39=some 5:=by kernel_rfl
theorem ou:TI Tryz.prog 39 (.agg (([.int .i64 0])++([.slice none 0 0])++([.slice none 0 0])++([.slice none 0 0])++([.int .i64 0]):List Value).toArray) 5 88:=by unfold TI;kernel_rfl
theorem BY:eP Tryz.prog 39 0=some (0,1,3):=by kernel_rfl
theorem iR:eP Tryz.prog 39 1=some (1,1,36):=by kernel_rfl
theorem Ha:eP Tryz.prog 39 2=some (2,1,36):=by kernel_rfl
theorem s3:eP Tryz.prog 39 3=some (3,1,37):=by kernel_rfl
theorem jv:eP Tryz.prog 39 4=some (4,1,3):=by kernel_rfl
theorem Gt:TI Tryz.prog 44 (.slice none 0 0) 1 24:=by unfold TI;kernel_rfl
theorem lU:c7 Tryz.prog 47=some false:=by kernel_rfl
theorem y5:fo Tryz.prog 47=some 1:=by kernel_rfl
theorem JL:TI Tryz.prog 47 (.int .i64 0) 1 8:=by unfold TI;kernel_rfl
theorem b5:c7 Tryz.prog 53=some true:=by kernel_rfl
theorem bp:fo Tryz.prog 53=some 32:=by kernel_rfl
theorem dw:TI Tryz.prog 53 (.agg (aW (List.replicate 32 0):List Value).toArray) 32 32:=by unfold TI;kernel_rfl
theorem uk{l:List UInt8}(h:l.length=32):Tryz.prog.keyLits 2 53 (aW l)=some (l.map fun b=>Lit.int .u8 (b.toNat:Int)):=fE (D:=0) Tryz.underlying53 Tryz.underlying5 (by kernel_rfl) (by kernel_rfl) h
theorem nY{N:Nat}{D:List Deferred}{ρ:Env}{w:World}{ty t' :TypeId}{x y:Operand}{l m:List UInt8}(hx:ev ρ x=some (.agg (aW l).toArray))(hy:ev ρ y=some (.agg (aW m).toArray))(hl:l.length=32)(hm:m.length=32):Yl Tryz.prog N D ρ w (.binOp .eql 53 x y t') ty (.bool (decide (l=m))):=
 FA (m:=5) hx hy (by decide) (by kernel_rfl) (by kernel_rfl) b5 (by rw[ax,hl];kernel_rfl) (by rw[ax,hm];kernel_rfl) (uk hl) (uk hm) jf
theorem ta{N:Nat}{D:List Deferred}{ρ:Env}{w:World}{ty t' :TypeId}{x y:Operand}{l m:List UInt8}(hx:ev ρ x=some (.agg (aW l).toArray))(hy:ev ρ y=some (.agg (aW m).toArray))(hl:l.length=32)(hm:m.length=32):Yl Tryz.prog N D ρ w (.binOp .neq 53 x y t') ty (.bool (decide (¬l=m))):=
 FK (m:=5) hx hy (by decide) (by kernel_rfl) (by kernel_rfl) b5 (by rw[ax,hl];kernel_rfl) (by rw[ax,hm];kernel_rfl) (uk hl) (uk hm) jf
theorem gC:c7 Tryz.prog 75=some true:=by kernel_rfl
theorem gg:fo Tryz.prog 75=some 3:=by kernel_rfl
theorem AD:TI Tryz.prog 75 (.agg (([.int .i64 0])++([.int .i64 0])++([.int .i64 0]):List Value).toArray) 3 24:=by unfold TI;kernel_rfl
theorem iM:eP Tryz.prog 75 0=some (0,1,3):=by kernel_rfl
theorem kY:eP Tryz.prog 75 1=some (1,1,3):=by kernel_rfl
theorem km:eP Tryz.prog 75 2=some (2,1,3):=by kernel_rfl
theorem wy:c7 Tryz.prog 80=some false:=by kernel_rfl
theorem Kj:fo Tryz.prog 80=some 1:=by kernel_rfl
theorem Kh:TI Tryz.prog 80 (.slice none 0 0) 1 24:=by unfold TI;kernel_rfl
theorem Ih:c7 Tryz.prog 82=some true:=by kernel_rfl
theorem FR:fo Tryz.prog 82=some 36:=by kernel_rfl
theorem Iw:TI Tryz.prog 82 (.agg ((([.int .i64 0])++([.int .i64 0])++([.int .i64 0]))++(aW (List.replicate 32 0))++([.slice none 0 0]):List Value).toArray) 36 80:=by unfold TI;kernel_rfl
theorem wg:eP Tryz.prog 82 0=some (0,3,75):=by kernel_rfl
theorem GB:lR Tryz.prog 82 0=some (0,3):=by kernel_rfl
theorem Hm:eP Tryz.prog 82 1=some (3,32,53):=by kernel_rfl
theorem Hc:lR Tryz.prog 82 1=some (3,32):=by kernel_rfl
theorem sS:eP Tryz.prog 82 2=some (35,1,80):=by kernel_rfl
theorem F1:lR Tryz.prog 82 2=some (35,1):=by kernel_rfl
theorem Dt:c7 Tryz.prog 83=some false:=by kernel_rfl
theorem wW:c7 Tryz.prog 84=some false:=by kernel_rfl
theorem IU:fo Tryz.prog 84=some 1:=by kernel_rfl
theorem Kb:TI Tryz.prog 86 (.agg (([.pointer none])++(([.int .i64 0])++([.slice none 0 0])++([.slice none 0 0])++([.slice none 0 0])++([.int .i64 0]))++((([.int .i64 0])++([.int .i64 0])++([.int .i64 0]))++(aW (List.replicate 32 0))++([.slice none 0 0]))++([.pointer none])++([.slice none 0 0])++([.slice none 0 0]):List Value).toArray) 45 232:=by unfold TI;kernel_rfl
theorem my:eP Tryz.prog 86 0=some (0,1,35):=by kernel_rfl
theorem GL:lR Tryz.prog 86 0=some (0,1):=by kernel_rfl
theorem ki:eP Tryz.prog 86 1=some (1,5,39):=by kernel_rfl
theorem Gl:lR Tryz.prog 86 1=some (1,5):=by kernel_rfl
theorem oK:eP Tryz.prog 86 2=some (6,36,82):=by kernel_rfl
theorem Gq:lR Tryz.prog 86 2=some (6,36):=by kernel_rfl
theorem w6:eP Tryz.prog 86 3=some (42,1,83):=by kernel_rfl
theorem GP:lR Tryz.prog 86 3=some (42,1):=by kernel_rfl
theorem qA:eP Tryz.prog 86 4=some (43,1,84):=by kernel_rfl
theorem HA:lR Tryz.prog 86 5=some (44,1):=by kernel_rfl
theorem J0:c7 Tryz.prog 88=some true:=by kernel_rfl
theorem HX:fo Tryz.prog 88=some 36:=by kernel_rfl
theorem HI:TI Tryz.prog 88 (.agg ((([.int .i64 0])++([.int .i64 0])++([.int .i64 0]))++(aW (List.replicate 32 0))++([.slice none 0 0]):List Value).toArray) 36 80:=by unfold TI;kernel_rfl
theorem Cp:lR Tryz.prog 88 0=some (0,3):=by kernel_rfl
theorem GU:lR Tryz.prog 88 1=some (3,32):=by kernel_rfl
theorem Hd:eP Tryz.prog 88 2=some (35,1,80):=by kernel_rfl
theorem Bv:lR Tryz.prog 88 2=some (35,1):=by kernel_rfl
theorem IY:c7 Tryz.prog 96=some true:=by kernel_rfl
theorem zN:fo Tryz.prog 96=some 33:=by kernel_rfl
theorem pI:TI Tryz.prog 96 (.agg ((aW (List.replicate 32 0))++([.int .i64 0]):List Value).toArray) 33 40:=by unfold TI;kernel_rfl
theorem Gc:eP Tryz.prog 96 0=some (0,32,53):=by kernel_rfl
theorem tC:lR Tryz.prog 96 0=some (0,32):=by kernel_rfl
theorem wM:eP Tryz.prog 96 1=some (32,1,3):=by kernel_rfl
theorem tR:lR Tryz.prog 96 1=some (32,1):=by kernel_rfl
theorem xN:c7 Tryz.prog 100=some true:=by kernel_rfl
theorem jK:fo Tryz.prog 100=some 33:=by kernel_rfl
theorem l7:TI Tryz.prog 100 (.agg ((aW (List.replicate 32 0))++([.int .i64 0]):List Value).toArray) 33 40:=by unfold TI;kernel_rfl
theorem gR:eP Tryz.prog 100 0=some (0,32,53):=by kernel_rfl
theorem tO:lR Tryz.prog 100 0=some (0,32):=by kernel_rfl
theorem nI:eP Tryz.prog 100 1=some (32,1,3):=by kernel_rfl
theorem sQ:lR Tryz.prog 100 1=some (32,1):=by kernel_rfl
theorem uF:c7 Tryz.prog 101=some true:=by kernel_rfl
theorem lY:fo Tryz.prog 101=some 33:=by kernel_rfl
theorem u7:TI Tryz.prog 101 (.agg ((aW (List.replicate 32 0))++([.int .i64 0]):List Value).toArray) 33 40:=by unfold TI;kernel_rfl
theorem Ei:eP Tryz.prog 101 0=some (0,32,53):=by kernel_rfl
theorem Du:lR Tryz.prog 101 0=some (0,32):=by kernel_rfl
theorem xz:eP Tryz.prog 101 1=some (32,1,3):=by kernel_rfl
theorem Dx:lR Tryz.prog 101 1=some (32,1):=by kernel_rfl
theorem rW:c7 Tryz.prog 156=some true:=by kernel_rfl
theorem fh:fo Tryz.prog 156=some 2:=by kernel_rfl
theorem jg:TI Tryz.prog 156 (.agg (([.string ⟨#[]⟩])++([.string ⟨#[]⟩]):List Value).toArray) 2 32:=by unfold TI;kernel_rfl
theorem fe:eP Tryz.prog 156 0=some (0,1,9):=by kernel_rfl
theorem pO:eP Tryz.prog 156 1=some (1,1,9):=by kernel_rfl
theorem bV:c7 Tryz.prog 166=some false:=by kernel_rfl
theorem bI:fo Tryz.prog 166=some 1:=by kernel_rfl
theorem mf:TI Tryz.prog 166 (.int .u32 0) 1 4:=by unfold TI;kernel_rfl
theorem pg:c7 Tryz.prog 174=some false:=by kernel_rfl
theorem Iu:fo Tryz.prog 174=some 1:=by kernel_rfl
theorem Cf:c7 Tryz.prog 175=some false:=by kernel_rfl
theorem Af:fo Tryz.prog 175=some 1:=by kernel_rfl
theorem Jm:TI Tryz.prog 177 (.agg (([.int .i64 0])++([.map none])++([.map none])++([.slice none 0 0])++([.int .i64 0]):List Value).toArray) 5 56:=by unfold TI;kernel_rfl
theorem E6:eP Tryz.prog 177 0=some (0,1,3):=by kernel_rfl
theorem iZ:eP Tryz.prog 177 1=some (1,1,174):=by kernel_rfl
theorem DB:eP Tryz.prog 177 2=some (2,1,174):=by kernel_rfl
theorem lv:eP Tryz.prog 177 3=some (3,1,175):=by kernel_rfl
theorem nz:eP Tryz.prog 177 4=some (4,1,3):=by kernel_rfl
theorem Fe:c7 Tryz.prog 186=some true:=by kernel_rfl
theorem FH:fo Tryz.prog 186=some 4:=by kernel_rfl
theorem sK:TI Tryz.prog 186 (.agg (([.int .i64 0])++([.string ⟨#[]⟩])++([.string ⟨#[]⟩])++([.string ⟨#[]⟩]):List Value).toArray) 4 56:=by unfold TI;kernel_rfl
theorem yz:eP Tryz.prog 186 0=some (0,1,3):=by kernel_rfl
theorem pR:eP Tryz.prog 186 1=some (1,1,9):=by kernel_rfl
theorem E7:eP Tryz.prog 186 2=some (2,1,9):=by kernel_rfl
theorem E2:eP Tryz.prog 186 3=some (3,1,9):=by kernel_rfl
theorem I4:TI Tryz.prog 189 (.agg (([.string ⟨#[]⟩])++([.slice none 0 0]):List Value).toArray) 2 40:=by unfold TI;kernel_rfl
theorem Ey:eP Tryz.prog 189 0=some (0,1,9):=by kernel_rfl
theorem Dj:eP Tryz.prog 189 1=some (1,1,27):=by kernel_rfl
theorem FI:c7 Tryz.prog 212=some true:=by kernel_rfl
theorem sL:fo Tryz.prog 212=some 3:=by kernel_rfl
theorem uo:TI Tryz.prog 212 (.agg (([.int .i64 0])++([.int .i64 0])++([.int .i64 0]):List Value).toArray) 3 24:=by unfold TI;kernel_rfl
theorem nF:eP Tryz.prog 212 0=some (0,1,3):=by kernel_rfl
theorem yg:eP Tryz.prog 212 1=some (1,1,3):=by kernel_rfl
theorem D0:eP Tryz.prog 212 2=some (2,1,3):=by kernel_rfl
theorem x3:TI Tryz.prog 232 (.nilIface) 1 16:=by unfold TI;kernel_rfl
theorem Io:TI Tryz.prog 257 (.agg (([.string ⟨#[]⟩])++([.string ⟨#[]⟩]):List Value).toArray) 2 32:=by unfold TI;kernel_rfl
theorem sP:eP Tryz.prog 257 0=some (0,1,9):=by kernel_rfl
theorem C7:eP Tryz.prog 257 1=some (1,1,9):=by kernel_rfl
theorem rL:c7 Tryz.prog 265=some false:=by kernel_rfl
theorem Ie:TI Tryz.prog 267 (.agg ((([.int .i64 0])++([.int .i64 0])++([.int .i64 0]))++([.slice none 0 0])++([.map none]):List Value).toArray) 5 56:=by unfold TI;kernel_rfl
theorem Dz:eP Tryz.prog 267 0=some (0,3,75):=by kernel_rfl
theorem pV:eP Tryz.prog 267 1=some (3,1,84):=by kernel_rfl
theorem lC:eP Tryz.prog 267 2=some (4,1,265):=by kernel_rfl
theorem AY:c7 Tryz.prog 271=some true:=by kernel_rfl
theorem qG:fo Tryz.prog 271=some 3:=by kernel_rfl
theorem jV:TI Tryz.prog 271 (.agg (([.int .i64 0])++([.int .i64 0])++([.int .i64 0]):List Value).toArray) 3 24:=by unfold TI;kernel_rfl
theorem EH:eP Tryz.prog 271 0=some (0,1,3):=by kernel_rfl
theorem yH:eP Tryz.prog 271 1=some (1,1,3):=by kernel_rfl
theorem DQ:eP Tryz.prog 271 2=some (2,1,3):=by kernel_rfl
theorem FL:fo Tryz.prog 288=some 1:=by kernel_rfl
theorem ym:TI Tryz.prog 288 (.agg (([.int .i64 0]):List Value).toArray) 1 8:=by unfold TI;kernel_rfl
theorem E8:eP Tryz.prog 288 0=some (0,1,47):=by kernel_rfl
theorem sF:c7 Tryz.prog 295=some true:=by kernel_rfl
theorem jH:fo Tryz.prog 295=some 3:=by kernel_rfl
theorem pc:TI Tryz.prog 295 (.agg (([.slice none 0 0])++([.int .i64 0])++([.int .i64 0]):List Value).toArray) 3 40:=by unfold TI;kernel_rfl
theorem ED:eP Tryz.prog 295 0=some (0,1,27):=by kernel_rfl
theorem Da:eP Tryz.prog 295 2=some (2,1,47):=by kernel_rfl
theorem yA:c7 Tryz.prog 298=some true:=by kernel_rfl
theorem l5:fo Tryz.prog 298=some 2:=by kernel_rfl
theorem sA:TI Tryz.prog 298 (.agg (([.int .i64 0])++([.int .i64 0]):List Value).toArray) 2 16:=by unfold TI;kernel_rfl
theorem lM:eP Tryz.prog 298 0=some (0,1,3):=by kernel_rfl
theorem x8:eP Tryz.prog 298 1=some (1,1,3):=by kernel_rfl
theorem sC:c7 Tryz.prog 306=some true:=by kernel_rfl
theorem l8:fo Tryz.prog 306=some 8:=by kernel_rfl
theorem yp:TI Tryz.prog 306 (.agg ((List.replicate 8 ([.int .u32 0])).flatten:List Value).toArray) 8 32:=by unfold TI;kernel_rfl
theorem FB:TI Tryz.prog 308 (.agg (((List.replicate 8 ([.int .u32 0])).flatten)++([.int .i64 0])++([.slice none 0 0]):List Value).toArray) 10 64:=by unfold TI;kernel_rfl
theorem qa:eP Tryz.prog 308 0=some (0,8,306):=by kernel_rfl
theorem nr:eP Tryz.prog 308 1=some (8,1,3):=by kernel_rfl
theorem kg:eP Tryz.prog 308 2=some (9,1,27):=by kernel_rfl
theorem oR:c7 Tryz.prog 322=some false:=by kernel_rfl
theorem Fo:c7 Tryz.prog 354=some true:=by kernel_rfl
theorem xC:fo Tryz.prog 354=some 64:=by kernel_rfl
theorem CG:TI Tryz.prog 354 (.agg ((List.replicate 64 ([.int .u32 0])).flatten:List Value).toArray) 64 256:=by unfold TI;kernel_rfl
theorem AS:c7 Tryz.prog 357=some false:=by kernel_rfl
theorem JB:TI Tryz.prog 359 (.agg (([.slice none 0 0])++([.map none])++([.int .i64 0]):List Value).toArray) 3 40:=by unfold TI;kernel_rfl
theorem kc:eP Tryz.prog 359 0=some (0,1,27):=by kernel_rfl
theorem tG:eP Tryz.prog 359 1=some (1,1,357):=by kernel_rfl
theorem iv:eP Tryz.prog 359 2=some (2,1,3):=by kernel_rfl
theorem xw:c7 Tryz.prog 364=some true:=by kernel_rfl
theorem vh:fo Tryz.prog 364=some 4:=by kernel_rfl
theorem I8:TI Tryz.prog 364 (.agg (aW (List.replicate 4 0):List Value).toArray) 4 4:=by unfold TI;kernel_rfl
theorem Fh:c7 Tryz.prog 386=some false:=by kernel_rfl
theorem Jv:TI Tryz.prog 389 (.agg ((([.int .i64 0])++([.int .i64 0])++([.int .i64 0]))++([.int .u32 0])++([.pointer none])++([.slice none 0 0]):List Value).toArray) 6 64:=by unfold TI;kernel_rfl
theorem nv:eP Tryz.prog 389 0=some (0,3,75):=by kernel_rfl
theorem Eg:eP Tryz.prog 389 1=some (3,1,166):=by kernel_rfl
theorem yB:eP Tryz.prog 389 2=some (4,1,386):=by kernel_rfl
theorem nJ:eP Tryz.prog 389 3=some (5,1,27):=by kernel_rfl
end Go.Proofs.YtmibdabdlgmafaaGreatDoor
end
section
namespace Go.Hx
open Go.Eng
def ny(x:Nat):Nat:=if x % 2=1 then(x/2) ^^^ 2197175160 else x/2
theorem AE{x:Nat}(h:x<4294967296):ny x<4294967296:=by
 unfold ny
 split
 ·exact Nat.xor_lt_two_pow (n:=32) (by omega) (by decide)
 ·omega
def gD:Nat→Nat→Nat
 |0,x=>x
 |n+1,x=>ny (gD n x)
theorem lP{x:Nat}(h:x<4294967296):∀n,gD n x<4294967296
 |0=>h
 |n+1=>AE (lP h n)
def kz(n:Nat)(l:List UInt8):Nat:=l.foldl (fun n b=>gD 8 (n ^^^ b.toNat)) n
theorem nh{n:Nat}(h:n<4294967296):∀l:List UInt8,kz n l<4294967296:=by
 intro l
 induction l generalizing n with
 |nil=>exact h
 |cons a r ih=>exact ih (lP (Nat.xor_lt_two_pow (n:=32) h (by have:=a.toNat_lt;omega)) 8)
theorem qR(n:Nat)(l:List UInt8)(b:UInt8):kz n (l++[b])=gD 8 (kz n l ^^^ b.toNat):=by simp[kz]
theorem vJ{m:Nat}(h:m<4294967296):4294967295 ^^^ m=4294967295-m:=by
 have h1:(BitVec.allOnes 32 ^^^ BitVec.ofNat 32 m)= ~~~ BitVec.ofNat 32 m:=BitVec.allOnes_xor
 have h2:=congrArg BitVec.toNat h1
 rw[BitVec.toNat_xor,BitVec.toNat_not,BitVec.toNat_allOnes,BitVec.toNat_ofNat,Nat.mod_eq_of_lt h]at h2
 exact h2
def dE(l:List UInt8):Nat:=4294967295-kz 4294967295 l
theorem jW(l:List UInt8):dE l<4294967296:=by unfold dE;omega
def jY(n:Nat):List UInt8:=[UInt8.ofNat n,UInt8.ofNat (n/256),UInt8.ofNat (n/65536),UInt8.ofNat (n/16777216)]
def sU:Nat→Nat→Nat
 |0,n=>n
 |k+1,n=>sU k n/256
def F9(k n:Nat):List UInt8:=(List.range k).map fun i=>UInt8.ofNat (sU i n)
theorem Be(k n:Nat):F9 (k+1) n=F9 k n++[UInt8.ofNat (sU k n)]:=by simp[F9,List.range_succ]
theorem AJ(n:Nat):F9 4 n=jY n:=by
 simp only[F9,List.range_succ,List.range_zero,List.nil_append,List.cons_append,List.map_cons,List.map_nil,sU,jY,Nat.div_div_eq_div_mul]
theorem yh{n b:Nat}(h:n<b):∀k,sU k n<b
 |0=>h
 |k+1=>by have:=yh h k;simp only[sU];omega
theorem iI(n:Nat):(jY n).length=4:=rfl
def BN(l:List UInt8):List UInt8:=l++jY (dE l)
theorem za(x:Nat)(h:x<4294967296):(x/2) ^^^ (2197175160*(x % 2))=ny x:=by
 unfold ny
 split
 ·rename_i h1;rw[h1]
 ·rename_i h1
  have:x % 2=0:=by omega
  rw[this];simp
theorem jm(n:Nat):IntKind.u8.wrap (n:Int)=((UInt8.ofNat n).toNat:Int):=by
 simp[IntKind.wrap,IntKind.signed,IntKind.bits]
theorem Ks(x:Nat)(h:x<4294967296):bits .and .u32 (x:Int) 1=((x % 2:Nat):Int):=by
 have:=u32_and_nat x 1 h (by decide)
 rw[Nat.and_one_is_mod]at this
 exact this
theorem BE(x:Nat)(h:x<4294967296):bits .xor .u32 ((x:Int)/2) (2197175160*((x % 2:Nat):Int))=((ny x:Nat):Int):=by
 have h2:x % 2=0∨x % 2=1:=by omega
 have h3:2197175160*(x % 2)<4294967296:=by rcases h2 with h2|h2 <;> rw[h2] <;> decide
 have:=u32_xor_nat (x/2) (2197175160*(x % 2)) (by omega) h3
 rw[za x h]at this
 rw[←this]
 congr 1
theorem uU(x:Nat)(h:x<4294967296)(b:UInt8):bits .xor .u32 (x:Int) (b.toNat:Int)=((x ^^^ b.toNat:Nat):Int):=u32_xor_nat x b.toNat h (by have:=b.toNat_lt;omega)
theorem B2(x:Nat)(h:x<4294967296):bits .xor .u32 ((x:Int)/2) 2197175160=(((x/2) ^^^ 2197175160:Nat):Int):=u32_xor_nat (x/2) 2197175160 (by omega) (by decide)
theorem o9{x:Nat}(h:x<4294967296)(b:UInt8):x ^^^ b.toNat<4294967296:=Nat.xor_lt_two_pow (n:=32) h (by have:=b.toNat_lt;omega)
end Go.Hx
end
section
namespace Go.Hx
open Go.Eng
def kj:List UInt8:=[48,49,50,51,52,53,54,55,56,57,97,98,99,100,101,102]
def qp(b:UInt8):List UInt8:=[kj.getD (b.toNat/16) 0,kj.getD (b.toNat % 16) 0]
def cq(l:List UInt8):List UInt8:=l.flatMap qp
theorem dQ(l:List UInt8):(cq l).length=2*l.length:=by
 induction l with
 |nil=>rfl
 |cons a r ih=>simp only[cq,List.flatMap_cons,List.length_append,List.length_cons]at ih ⊢;rw[ih];simp[qp];omega
theorem vm(l m:List UInt8):cq (l++m)=cq l++cq m:=by simp[cq]
theorem dG{l:List UInt8}{k:Nat}(h:k<l.length):l.take (k+1)=l.take k++[l.getD k 0]:=by
 rw[List.take_succ_eq_append_getElem h];simp[List.getD,List.getElem?_eq_getElem h]
theorem se{l:List UInt8}{k:Nat}(h:k<l.length):cq (l.take (k+1))=cq (l.take k)++qp (l.getD k 0):=by
 rw[dG h,vm];simp[cq]
theorem vz(j:Nat)(h:j<16):((bytesOf ⟨#[48,49,50,51,52,53,54,55,56,57,97,98,99,100,101,102]⟩).take (j+1)).drop j=[kj.getD j 0]:=by
 revert j;decide
theorem yY{l:List UInt8}{k:Nat}(h:k<l.length):strOf (cq (l.take k))++strOf (((bytesOf ⟨#[48,49,50,51,52,53,54,55,56,57,97,98,99,100,101,102]⟩).take ((l.getD k 0).toNat/16+1)).drop ((l.getD k 0).toNat/16))++
  strOf (((bytesOf ⟨#[48,49,50,51,52,53,54,55,56,57,97,98,99,100,101,102]⟩).take ((l.getD k 0).toNat % 16+1)).drop ((l.getD k 0).toNat % 16))=strOf (cq (l.take (k+1))):=by
 have hb:=(l.getD k 0).toNat_lt
 rw[vz _ (by omega),vz _ (by omega),dC,dC,se h]
 simp[qp]
theorem xW(i:Int)(h0:0≤i)(h:i<16):(#[48,49,50,51,52,53,54,55,56,57,97,98,99,100,101,102]:Array UInt8)[i.toNat]? =some (kj.getD i.toNat 0):=by
 have:i.toNat<16:=by omega
 generalize i.toNat=j at this
 revert j
 decide
theorem Dy(x:UInt8):(#[48,49,50,51,52,53,54,55,56,57,97,98,99,100,101,102]:Array UInt8)[((x.toNat:Int)/16).toNat]? =some (kj.getD (x.toNat/16) 0):=by
 have h:=x.toNat_lt
 rw[xW _ (by omega) (by omega)]
 rfl
theorem Ev(x:UInt8):(#[48,49,50,51,52,53,54,55,56,57,97,98,99,100,101,102]:Array UInt8)[((x.toNat % 16:Nat):Int).toNat]? =some (kj.getD (x.toNat % 16) 0):=by
 rw[xW _ (by omega) (by omega)]
 rfl
theorem I6(x:UInt8):bits .and .u8 (x.toNat:Int) 15=((x.toNat % 16:Nat):Int):=by
 have:=u8_and_nat x.toNat 15 (by have:=x.toNat_lt;omega) (by decide)
 rw[show((15:Nat):Int)=15 from rfl]at this
 rw[this]
 congr 1
 exact Nat.and_two_pow_sub_one_eq_mod x.toNat 4
end Go.Hx
end
section
namespace Go.Hx
open Go.Eng
def kl(c:UInt8):Int:=if 48≤c.toNat∧c.toNat≤57 then(c.toNat:Int)-48 else if 97≤c.toNat∧c.toNat≤102 then(c.toNat:Int)-87 else-1
theorem iB(c:UInt8):-1≤kl c∧kl c≤15:=by unfold kl;split <;> (try split) <;> omega
def unhex:List UInt8→Option (List UInt8)
 | []=>some []
 | [_]=>none
 |a::b::r=>if kl a<0∨kl b<0 then none else(unhex r).map (UInt8.ofNat (16*(kl a).toNat+(kl b).toNat)::·)
theorem mE:∀(l:List UInt8) (n:Nat) (a b:UInt8) (x:List UInt8),l.length=2*n→unhex l=some x→unhex (l++[a,b])=if kl a<0∨kl b<0 then none else some (x++[UInt8.ofNat (16*(kl a).toNat+(kl b).toNat)])
 | [],n,a,b,x,_,h=>by
  simp only[unhex,Option.some.injEq]at h
  subst h
  simp[unhex]
 | [c],n,a,b,x,hl,h=>by simp at hl;omega
 |c::d::r,n,a,b,x,hl,h=>by
  simp only[unhex]at h
  simp only[List.cons_append,unhex]
  split at h
  ·cases h
  ·rename_i hcd
   rw[if_neg hcd]
   simp only[Option.map_eq_some_iff]at h
   obtain⟨y,hy,rfl⟩:=h
   rw[mE r (n-1) a b y (by simp at hl;omega) hy]
   split <;> simp
theorem gi:∀(l m:List UInt8) (n:Nat),l.length=2*n→unhex l=none→unhex (l++m)=none
 | [],m,n,_,h=>by simp[unhex]at h
 | [c],m,n,hl,h=>by simp at hl;omega
 |c::d::r,m,n,hl,h=>by
  simp only[unhex]at h
  simp only[List.cons_append,unhex]
  split at h
  ·rename_i hcd;rw[if_pos hcd]
  ·rename_i hcd
   rw[if_neg hcd]
   simp only[Option.map_eq_none_iff]at h
   rw[gi r m (n-1) (by simp at hl;omega) h]
   rfl
theorem oP:∀(l:List UInt8),l.length % 2=1→unhex l=none
 | [],h=>by simp at h
 | [_],_=>rfl
 |a::b::r,h=>by
  simp only[unhex]
  split
  ·rfl
  ·rw[oP r (by simp at h;omega)];rfl
theorem fR:∀(l x:List UInt8),unhex l=some x→l.length=2*x.length
 | [],x,h=>by simp[unhex]at h;subst h;rfl
 | [_],x,h=>by simp[unhex]at h
 |a::b::r,x,h=>by
  simp only[unhex]at h
  split at h
  ·cases h
  ·simp only[Option.map_eq_some_iff]at h
   obtain⟨y,hy,rfl⟩:=h
   have:=fR r y hy
   simp;omega
theorem vy(k:Nat)(h:k<16):kl (kj.getD k 0)=k:=by
 revert k;decide
theorem j5:∀(l:List UInt8),unhex (cq l)=some l
 | []=>rfl
 |a::r=>by
  have ih:=j5 r
  have ha:=a.toNat_lt
  have h1:=vy (a.toNat/16) (by omega)
  have h2:=vy (a.toNat % 16) (by omega)
  have e:cq (a::r)=kj.getD (a.toNat/16) 0::kj.getD (a.toNat % 16) 0::cq r:=by simp[cq,qp]
  rw[e,unhex,h1,h2,if_neg (by omega),ih]
  simp only[Option.map_some,Int.toNat_natCast]
  congr 2
  have e2:16*(a.toNat/16)+a.toNat % 16=a.toNat:=by omega
  rw[e2]
  simp
theorem BD(a b:UInt8)(ha:0≤kl a)(hb:0≤kl b):16*kl a+kl b=((UInt8.ofNat (16*(kl a).toNat+(kl b).toNat)).toNat:Int):=by
 have h1:=iB a
 have h2:=iB b
 rw[UInt8.toNat_ofNat',Nat.mod_eq_of_lt (by omega)]
 omega
theorem vX{l:List UInt8}{k:Nat}(h:2*k+1<l.length):l.take (2*(k+1))=l.take (2*k)++[l.getD (2*k) 0,l.getD (2*k+1) 0]:=by
 have e:2*(k+1)=2*k+1+1:=by omega
 rw[e,dG h,dG (by omega)]
 simp
theorem BT{l m:List UInt8}(h:cq l=cq m):l=m:=by
 have:=j5 l
 rw[h,j5 m]at this
 simpa using this.symm
theorem qg(c:UInt8):Lib.indexByte kj c=kl c:=by
 have h:∀n,n<256→Lib.indexByte kj (UInt8.ofNat n)=kl (UInt8.ofNat n):=by decide+kernel
 have:=h c.toNat c.toNat_lt
 rwa [UInt8.ofNat_toNat]at this
theorem Gi(a b:Int)(ha:0≤a)(ha' :a<16)(hb:0≤b)(hb' :b<16):bits .or .i64 (a*16) b=16*a+b:=by
 have h:∀n,n<16→∀m,m<16→bits .or .i64 (((n:Nat):Int)*16) ((m:Nat):Int)=16*((n:Nat):Int)+((m:Nat):Int):=by decide+kernel
 have:=h a.toNat (by omega) b.toNat (by omega)
 rwa [Int.toNat_of_nonneg ha,Int.toNat_of_nonneg hb]at this
end Go.Hx
end
section
set_option maxRecDepth 20000
namespace Go.Proofs.YtmibdabdlgmafaaGreatDoor
open Go.Eng Go.Hx
theorem DH(g:Nat)(bt:TypeId)(x:Nat)(hx:x<4294967296)(w:World)(hb:eQ w g bt [.int .u32 (x:Int)]):
  Calls Tryz.prog 298 #[.pointer (some ⟨g,0,none⟩)] w fun e w' =>e= .returned (.tuple #[])∧Fr (fun i=>i=g) w w' ∧eQ w' g bt [.int .u32 (ny x:Nat)]:=by
 have hc:w.cell? ⟨g,0,none⟩=some (.int .u32 (x:Int)):=hb.cell rfl
 have h3:(0:Int)≤2197175160*((x % 2:Nat):Int)∧2197175160*((x % 2:Nat):Int)<4294967296:=by omega
 refine enter (N:=9) Tryz.func298 rfl rfl (by simp) ?_
 refine bd<|bm<|nq (ao rfl bV hc)<|nq (gH (by simp) rfl rfl (Ks x hx))<|nq (al rfl)<|bj<|bN (aa (t:=1) rfl<|aa (t:=0) rfl<|aI)<|aL<|bm<|nq (ao rfl bV hc)<|nq (nt (p:=2) rfl rfl (by decide) (by decide) (by decide))<|nq (ah rfl)<|nq (fK rfl rfl (yw h3.1 h3.2))<|nq (gH (by simp) rfl rfl (BE x hx))<| ?_
 refine C6 (xO rfl rfl bI rfl hb (by simp) fun w1 hf1 hb1 hs1=> ?_)
 refine bj<|bN (aa (t:=1) rfl<|aa (t:=0) rfl<|aI)<| ?_
 exact JA trivial rfl ⟨rfl,hf1,hb1⟩
theorem Ae(x n:Nat)(hx:x<4294967296)(hn:n≤1000000)(w:World):
  Calls Tryz.prog 273 #[.int .u32 (x:Int),.int .i64 (n:Int)] w fun e w' =>e= .returned (.int .u32 (gD n x:Nat))∧Fr No w w' :=by
 refine enter (N:=14) Tryz.func273 rfl rfl (by simp) ?_
 refine bd<|bm<| ?_
 refine nx (qC rfl fun g w1 hg hf1 hb1=> ?_)
 refine nq (al rfl)<|bj<|aL<|bd<|bm<|nq (fU rfl rfl)<|nq (al rfl)<|bj<|bN (aa (t:=5) rfl<|aa (t:=4) rfl<|aa (t:=2) rfl<|aa (t:=0) rfl<|aa (t:=1) rfl<|aI)<|aL<|bd<|bd<|bm<|nq (ah rfl)<|nq (ah rfl)<|bj<|aL<|c9<| ?_
 refine kV (fun k=>n-k) (fun k=>[(2,.pointer (some ⟨g,0,none⟩)),(5,.func (.func 298) #[] #[.pointer (some ⟨g,0,none⟩)]),(7,.int .i64 (n:Int)),(8,.int .i64 (k:Nat))]) (fun k w' =>k≤n∧Fr No w w' ∧eQ w' g 166 [.int .u32 (gD k x:Nat)]) 0 (⟨Nat.zero_le _,hf1,hb1⟩) (aa (t:=2) rfl<|aa (t:=5) rfl<|aa (t:=7) rfl<|aa (t:=8) rfl<|aI) (fun k w2 ⟨hk,hf2,hb2⟩=> ?_)
 refine bd<|bm<|nq (bw rfl rfl)<|bj<|aL<|bd<| ?_
 refine ph rfl (fun h=> ?_) (fun h=> ?_)
 ·refine dT<|aL<|bd<|c9<|bm<|nq (ah rfl)<| ?_
  refine nx (x9 rfl rfl Tryz.call298 (first:=[]) (cap:=[_]) (DH g _ _ (lP hx k) _ hb2) ?_)
  rintro e_ w3 ⟨rfl,hf3,hb3⟩
  refine⟨_,rfl, ?_⟩
  refine bj<|bN (aa (t:=9) rfl<|aa (t:=2) rfl<|aa (t:=5) rfl<|aa (t:=7) rfl<|aa (t:=8) rfl<|aI)<|fS<|aL<|bm<|nq (aP rfl rfl (bA (by omega) (by omega)))<|nq (ah rfl)<|bj<|bN (aa (t:=8) rfl<|aa (t:=9) rfl<|aa (t:=2) rfl<|aa (t:=5) rfl<|aa (t:=7) rfl<|aI)<| ?_
  refine k8 (k+1) (aa (t:=2) rfl<|aa (t:=5) rfl<|aa (t:=7) rfl<|aa (t:=8) rfl<|aI) (⟨by omega,hf2.new hf3 (fun i hi=>by omega),hb3⟩) (by omega)
 ·obtain rfl:k=n:=by omega
  refine jS<|ca<|ca<|c5<|aL<|bd<|bm<|nq (ao rfl bV ((hb2.cell rfl)))<|nq (al rfl)<|bj<|bN (aa (t:=4) rfl<|aa (t:=9) rfl<|aa (t:=2) rfl<|aa (t:=5) rfl<|aa (t:=7) rfl<|aa (t:=8) rfl<|aI)<|aL<|eb<| ?_
  exact fG trivial rfl rfl ⟨rfl,hf2⟩
theorem DM(A:Option Addr)(n c:Nat)(l:List UInt8)(s:Nat)(hs:s<4294967296)(w:World)(hr:Rd w 1 A n (aW l))(hn:n≤140737488351232):
  Calls Tryz.prog 232 #[.int .u32 (s:Int),.slice A n c] w fun e w' =>e= .returned (.int .u32 (4294967295-kz (4294967295-s) l:Nat))∧Fr No w w' :=by
 have hl:l.length=n:=by have:=hr.1;rw[ax]at this;omega
 refine enter (N:=25) Tryz.func232 rfl rfl (by simp) ?_
 refine bd<|bm<|nq (al rfl)<|bj<|aL<|bd<|bm<|nq (ah rfl)<|nq (yV (sW rfl hs) (congrArg (fun n:Nat=>Value.int .u32 (n:Int)) (vJ hs)))<|nq (al rfl)<|bj<|bN (aa (t:=5) rfl<|aa (t:=4) rfl<|aa (t:=0) rfl<|aa (t:=1) rfl<|aI)<|aL<|bd<|bd<|bm<|nq (ah rfl)<|nq (aY rfl Tryz.underlying27)<|nq (ah rfl)<|bj<|bN (aa (t:=11) rfl<|aa (t:=10) rfl<|aa (t:=5) rfl<|aa (t:=4) rfl<|aa (t:=0) rfl<|aa (t:=1) rfl<|aI)<|aL<|c9<| ?_
 refine kV (fun k=>n-k) (fun k=>[(1,.slice A n c),(5,.int .u32 (kz (4294967295-s) (l.take k):Nat)),(10,.int .i64 (n:Int)),(11,.int .i64 (k:Nat))]) (fun k w' =>k≤n∧Fr No w w') 0 (⟨Nat.zero_le _,Fr.refl _ _⟩) (aa (t:=1) rfl<|aa (t:=5) rfl<|aa (t:=10) rfl<|aa (t:=11) rfl<|aI) (fun k w2 ⟨hk,hf2⟩=> ?_)
 refine bd<|bm<|nq (bw rfl rfl)<|bj<|aL<|bd<| ?_
 refine ph rfl (fun h=> ?_) (fun h=> ?_)
 ·have hkn:k<l.length:=by omega
  have hm:=nh (n:=4294967295-s) (by omega) (l.take k)
  have hbt:=(l.getD k 0).toNat_lt
  have r2:=hr.qM hf2
  refine dT<|aL<|bd<|c9<|bd<|bm<|nq (ah rfl)<|nq (al rfl)<|bj<|bN (aa (t:=6) rfl<|aa (t:=12) rfl<|aa (t:=1) rfl<|aa (t:=5) rfl<|aa (t:=10) rfl<|aa (t:=11) rfl<|aI)<|aL<|bm<|nq (ah rfl)<|nq (ah rfl)<|nq (ah rfl)<|nq (aZ rfl rfl Tryz.underlying27 dU r2.2.1 rfl (by omega))<|nq (ao rfl iO (r2.cell (bM hkn)))<|nq (bY rfl Tryz.underlying5 Tryz.underlying166 ((yw (by omega) (by omega))))<|nq (gH (by simp) rfl rfl (uU _ hm _))<| ?_
  refine nx (eC rfl Tryz.call273 (Ae _ 8 (o9 hm _) (by decide) _) ?_)
  rintro e_ w3 ⟨rfl,hf3⟩
  refine⟨_,rfl, ?_⟩
  rw[←qR,←Go.Hx.dG hkn]
  refine nq (al rfl)<|bj<|bN (aa (t:=5) rfl<|aa (t:=6) rfl<|aa (t:=12) rfl<|aa (t:=1) rfl<|aa (t:=10) rfl<|aa (t:=11) rfl<|aI)<|fS<|aL<|bm<|nq (aP rfl rfl (bA (by omega) (by omega)))<|nq (ah rfl)<|bj<|bN (aa (t:=11) rfl<|aa (t:=5) rfl<|aa (t:=6) rfl<|aa (t:=12) rfl<|aa (t:=1) rfl<|aa (t:=10) rfl<|aI)<| ?_
  refine k8 (k+1) (aa (t:=1) rfl<|aa (t:=5) rfl<|aa (t:=10) rfl<|aa (t:=11) rfl<|aI) (⟨by omega,hf2.cK hf3⟩) (by omega)
 ·obtain rfl:k=n:=by omega
  have hm:=nh (n:=4294967295-s) (by omega) (l.take k)
  refine jS<|ca<|ca<|c5<|aL<|bd<|bm<|nq (ah rfl)<|nq (sW rfl hm)<|nq (al rfl)<|bj<|bN (aa (t:=4) rfl<|aa (t:=12) rfl<|aa (t:=1) rfl<|aa (t:=5) rfl<|aa (t:=10) rfl<|aa (t:=11) rfl<|aI)<|aL<|eb<| ?_
  rw[List.take_of_length_le (by omega)]at hm ⊢
  rw[vJ hm]
  exact fG trivial rfl rfl ⟨rfl,hf2⟩
theorem Cz(A:Option Addr)(n c:Nat)(l:List UInt8)(w:World)(hr:Rd w 1 A n (aW l))(hn:n≤140737488351232):
  Calls Tryz.prog 180 #[.slice A n c] w fun e w' =>e= .returned (.int .u32 (dE l:Nat))∧Fr No w w' :=by
 refine enter (N:=5) Tryz.func180 rfl rfl (by simp) ?_
 refine bd<|bm<|nq (al rfl)<|bj<|aL<|bd<|bm<|nq (ah rfl)<| ?_
 refine nx (eC rfl Tryz.call232 (DM A n c l 0 (by decide) w hr hn) ?_)
 rintro e_ w1 ⟨rfl,hf1⟩
 refine⟨_,rfl, ?_⟩
 refine nq (al rfl)<|bj<|bN (aa (t:=2) rfl<|aa (t:=0) rfl<|aI)<|aL<|eb<| ?_
 exact fG trivial rfl rfl ⟨rfl,hf1⟩
theorem clone(A:Option Addr)(n c:Nat)(l:List UInt8)(w:World)(hr:Rd w 1 A n (aW l))(hn:n≤140737488351232):
  Calls Tryz.prog 117 #[.slice A n c] w fun e w' =>∃v,e= .returned v∧Go.Eng.Own w' w.heap.size 5 1 v n (aW l)∧Fr No w w' :=by
 have hl:l.length=n:=by have:=hr.1;rw[ax]at this;omega
 refine enter (N:=8) Tryz.func117 rfl rfl (by simp) ?_
 refine bd<|bm<|nq (al rfl)<|bj<|aL<|bd<|bd<|bm<|nq (ah rfl)<|nq (Gj rfl rfl Tryz.underlying27)<|bj<|bN (aa (t:=4) rfl<|aa (t:=2) rfl<|aa (t:=0) rfl<|aI)<|aL<| ?_
 cases A with
 |none=>
  have h0:n=0:=by
   rcases Nat.eq_zero_or_pos n with h|h
   ·exact h
   ·exact absurd rfl (hr.2.1 h)
  subst h0
  obtain rfl:l=[]:=List.eq_nil_of_length_eq_zero hl
  refine zP rfl (rfl) ?_
  refine bd<|bm<|nq (al rfl)<|bj<|aL<|eb<|bH<| ?_
  exact fG trivial rfl rfl ⟨_,rfl,Own.nil _ _ _ _,Fr.refl _ _⟩
 |some a=>
  refine qY rfl (rfl) ?_
  refine dT<|aL<|bd<|bm<| ?_
  refine nx (GS Tryz.underlying27 fi fun g w1 hg hf1 hb1=> ?_)
  refine nq (ah rfl)<| ?_
  refine nx (mV rfl rfl Tryz.underlying27 Tryz.underlying27 (by exact .inl rfl) fi rfl (Own.HZ hb1 hg) (Src.bJ (hr.qM hf1)) jj (by unfold maxLen;omega) (by omega) hf1.size fun v w2 ho hf2 hv=> ?_)
  refine nq (al rfl)<|bj<|bN (aa (t:=2) rfl<|aa (t:=4) rfl<|aa (t:=0) rfl<|aI)<|aL<|eb<| ?_
  refine fG trivial rfl rfl ⟨v,rfl, ?_,hf1.new hf2 (fun i hi=>by have:i=g:=hi;omega)⟩
  simpa using ho
theorem An(A:Option Addr)(n c:Nat)(l:List UInt8)(s:Nat)(hs:s<4294967296)(w:World)(hr:Rd w 1 A n (aW l))(hn:n≤140737488351232):
  Calls Tryz.prog 243 #[.int .u32 (s:Int),.slice A n c] w fun e w' =>e= .returned (.int .u32 (4294967295-kz (4294967295-s) l:Nat))∧w=w' :=by
 have hl:l.length=n:=by have:=hr.1;rw[ax]at this;omega
 refine enter (N:=37) Tryz.func243 rfl rfl (by simp) ?_
 refine bd<|bm<|nq (al rfl)<|bj<|aL<|bd<|bm<|nq (ah rfl)<|nq (cn rfl rfl ((show IntKind.u32.wrap (4294967295-(s:Int))=((4294967295-s:Nat):Int) by rw[yw (by omega) (by omega)];omega)))<|nq (al rfl)<|bj<|bN (aa (t:=5) rfl<|aa (t:=4) rfl<|aa (t:=0) rfl<|aa (t:=1) rfl<|aI)<|aL<|bd<|bd<|bm<|nq (al rfl)<|bj<|aL<|c9<| ?_
 refine kV (fun k=>n-k) (fun k=>[(1,.slice A n c),(5,.int .u32 (kz (4294967295-s) (l.take k):Nat)),(6,.int .i64 (k:Nat))]) (fun k w' =>k≤n∧w=w') 0 (⟨Nat.zero_le _,rfl⟩) (aa (t:=1) rfl<|aa (t:=5) rfl<|aa (t:=6) rfl<|aI) (fun k w2 ⟨hk,hw⟩=> ?_)
 obtain rfl:=hw
 refine bd<|bd<|bm<|nq (ah rfl)<|nq (ah rfl)<|nq (aY rfl Tryz.underlying27)<|nq (bw rfl rfl)<|bj<|bN (aa (t:=13) rfl<|aa (t:=1) rfl<|aa (t:=5) rfl<|aa (t:=6) rfl<|aI)<|aL<| ?_
 refine ph rfl (fun h=> ?_) (fun h=> ?_)
 ·have hkn:k<l.length:=by omega
  have hm:=nh (n:=4294967295-s) (by omega) (l.take k)
  have hbt:=(l.getD k 0).toNat_lt
  have hx:=o9 hm (l.getD k 0)
  refine dT<|aL<|bd<|c9<|bd<|bm<|nq (ah rfl)<|nq (ah rfl)<|nq (ah rfl)<|nq (aZ rfl rfl Tryz.underlying27 dU hr.2.1 rfl (by omega))<|nq (ao rfl iO (hr.cell (bM hkn)))<|nq (bY rfl Tryz.underlying5 Tryz.underlying166 ((yw (by omega) (by omega))))<|nq (gH (by simp) rfl rfl (uU _ hm _))<|nq (al rfl)<|bj<|bN (aa (t:=5) rfl<|aa (t:=13) rfl<|aa (t:=1) rfl<|aa (t:=6) rfl<|aI)<|aL<|bd<|bm<|nq (al rfl)<|bj<|aL<|c9<| ?_
  generalize hX:kz (4294967295-s) (l.take k) ^^^ (l.getD k 0).toNat=X at hx
  refine kV (fun q=>8-q) (fun q=>[(1,.slice A n c),(5,.int .u32 (gD q X:Nat)),(6,.int .i64 (k:Nat)),(7,.int .i64 (q:Nat))]) (fun q w' =>q≤8∧w=w') 0 (⟨Nat.zero_le _,rfl⟩) (aa (t:=1) rfl<|aa (t:=5) rfl<|aa (t:=6) rfl<|aa (t:=7) rfl<|aI) (fun q w3 ⟨hq,hw⟩=> ?_)
  obtain rfl:=hw
  have hc:=lP hx q
  refine bd<|bd<|bm<|nq (ah rfl)<|nq (bw rfl rfl)<|bj<|bN (aa (t:=24) rfl<|aa (t:=1) rfl<|aa (t:=5) rfl<|aa (t:=6) rfl<|aa (t:=7) rfl<|aI)<|aL<| ?_
  refine ph rfl (fun h2=> ?_) (fun h2=> ?_)
  ·refine dT<|aL<|bd<|c9<|bd<|bm<|nq (ah rfl)<|nq (hZ rfl rfl (by omega) (by omega))<|nq (cx rfl rfl)<|bj<|bN (aa (t:=29) rfl<|aa (t:=24) rfl<|aa (t:=1) rfl<|aa (t:=5) rfl<|aa (t:=6) rfl<|aa (t:=7) rfl<|aI)<|aL<| ?_
   refine ph rfl (fun h3=> ?_) (fun h3=> ?_)
   ·refine bm<|nq (ah rfl)<|nq (kA rfl rfl (by omega) (by omega) (yw (by omega) (by omega)))<|nq (gH (by simp) rfl rfl (B2 _ hc))<|nq (al rfl)<|bj<|bN (aa (t:=5) rfl<|aa (t:=29) rfl<|aa (t:=24) rfl<|aa (t:=1) rfl<|aa (t:=6) rfl<|aa (t:=7) rfl<|aI)<|fS<|aL<|bm<|nq (ah rfl)<|nq (aP rfl rfl (bA (by omega) (by omega)))<|nq (al rfl)<|bj<|bN (aa (t:=7) rfl<|aa (t:=5) rfl<|aa (t:=29) rfl<|aa (t:=24) rfl<|aa (t:=1) rfl<|aa (t:=6) rfl<|aI)<| ?_
    rw[show gD q X/2 ^^^ 2197175160=gD (q+1) X by rw[gD,ny,if_pos (by omega)]]
    refine k8 (q+1) (aa (t:=1) rfl<|aa (t:=5) rfl<|aa (t:=6) rfl<|aa (t:=7) rfl<|aI) (⟨by omega,rfl⟩) (by omega)
   ·refine bm<|nq (ah rfl)<|nq (kA rfl rfl (by omega) (by omega) (yw (by omega) (by omega)))<|nq (al rfl)<|bj<|bN (aa (t:=5) rfl<|aa (t:=29) rfl<|aa (t:=24) rfl<|aa (t:=1) rfl<|aa (t:=6) rfl<|aa (t:=7) rfl<|aI)<|fS<|aL<|bm<|nq (ah rfl)<|nq (aP rfl rfl (bA (by omega) (by omega)))<|nq (al rfl)<|bj<|bN (aa (t:=7) rfl<|aa (t:=5) rfl<|aa (t:=29) rfl<|aa (t:=24) rfl<|aa (t:=1) rfl<|aa (t:=6) rfl<|aI)<| ?_
    rw[show(gD q X:Int)/2=((gD (q+1) X:Nat):Int) by rw[gD,ny,if_neg (by omega)];omega]
    refine k8 (q+1) (aa (t:=1) rfl<|aa (t:=5) rfl<|aa (t:=6) rfl<|aa (t:=7) rfl<|aI) (⟨by omega,rfl⟩) (by omega)
  ·obtain rfl:q=8:=by omega
   refine jS<|ca<|ca<|c5<|fS<|aL<|bm<|nq (ah rfl)<|nq (aP rfl rfl (bA (by omega) (by omega)))<|nq (al rfl)<|bj<|bN (aa (t:=6) rfl<|aa (t:=24) rfl<|aa (t:=1) rfl<|aa (t:=5) rfl<|aa (t:=7) rfl<|aI)<| ?_
   rw[←hX,←qR,←Go.Hx.dG hkn]
   refine k8 (k+1) (aa (t:=1) rfl<|aa (t:=5) rfl<|aa (t:=6) rfl<|aI) (⟨by omega,rfl⟩) (by omega)
 ·obtain rfl:k=n:=by omega
  have hm:=nh (n:=4294967295-s) (by omega) (l.take k)
  refine jS<|ca<|ca<|c5<|aL<|bd<|bm<|nq (ah rfl)<|nq (cn rfl rfl ((show IntKind.u32.wrap (4294967295-((kz (4294967295-s) (l.take k):Nat):Int))=((4294967295-kz (4294967295-s) (l.take k):Nat):Int) by rw[yw (by omega) (by omega)];omega)))<|nq (al rfl)<|bj<|bN (aa (t:=4) rfl<|aa (t:=13) rfl<|aa (t:=1) rfl<|aa (t:=5) rfl<|aa (t:=6) rfl<|aI)<|aL<|eb<| ?_
  rw[List.take_of_length_le (by omega)]
  exact fG trivial rfl rfl ⟨rfl,rfl⟩
theorem EA(A:Option Addr)(n c:Nat)(l:List UInt8)(w:World)(hr:Rd w 1 A n (aW l))(hn:n≤70368744177664):
  Calls Tryz.prog 189 #[.slice A n c] w fun e w' =>∃v,e= .returned v∧Go.Eng.Own w' w.heap.size 5 1 v (n+4) (aW (BN l))∧Fr No w w' :=by
 have hl:l.length=n:=by have:=hr.1;rw[ax]at this;omega
 refine enter (N:=24) Tryz.func189 rfl rfl (by simp) ?_
 refine bd<|bm<|nq (al rfl)<|bj<|aL<|bd<|bm<|nq (ah rfl)<| ?_
 refine nx (eC rfl Tryz.call243 (An A n c l 0 (by decide) w hr (by omega)) ?_)
 rintro e_ w1 ⟨rfl,rfl⟩
 refine⟨_,rfl, ?_⟩
 refine nq (al rfl)<|bj<|bN (aa (t:=3) rfl<|aa (t:=2) rfl<|aa (t:=0) rfl<|aI)<|aL<|bd<|bm<|nq (al rfl)<|bj<|aL<|bd<|bm<|nq (ah rfl)<|nq (ah rfl)<| ?_
 refine nx (mV rfl rfl Tryz.underlying27 Tryz.underlying27 (by exact .inl rfl) fi rfl (Own.nil w w.heap.size _ 1) (Src.bJ hr) jj (by unfold maxLen;omega) (by omega) (Nat.le_refl _) fun v w2 hv hf2 hvv=> ?_)
 have hlt:=jW l
 have f2:Fr No w w2:=hf2.mono (fun _ _ e=>e.elim)
 refine nq (al rfl)<|bj<|bN (aa (t:=4) rfl<|aa (t:=3) rfl<|aa (t:=2) rfl<|aa (t:=0) rfl<|aI)<|aL<|bd<|bd<|bm<|nq (al rfl)<|bj<|aL<|c9<| ?_
 refine w7 (fun k _=>4-k) (fun k v=>[(3,.int .u32 (sU k (dE l):Nat)),(4,v),(5,.int .i64 (k:Nat))]) (fun k v w' =>k≤4∧Go.Eng.Own w' w.heap.size 5 1 v (n+k) (aW (l++F9 k (dE l)))∧Fr No w w') 0 v (⟨Nat.zero_le _,by simpa[F9]using hv,f2⟩) (aa (t:=3) rfl<|aa (t:=4) rfl<|aa (t:=5) rfl<|aI) (fun k v w3 ⟨hk,ho,hf⟩=> ?_)
 refine bd<|bd<|bm<|nq (ah rfl)<|nq (bw rfl rfl)<|bj<|bN (aa (t:=12) rfl<|aa (t:=3) rfl<|aa (t:=4) rfl<|aa (t:=5) rfl<|aI)<|aL<| ?_
 refine ph rfl (fun h=> ?_) (fun h=> ?_)
 ·have hs8:=yh hlt k
  refine dT<|aL<|bd<|c9<|bd<|bm<|nq (ah rfl)<|nq (ah rfl)<|nq (hZ rfl rfl (by omega) (by omega))<|nq (bY rfl Tryz.underlying166 Tryz.underlying5 ((show IntKind.u8.wrap (((sU k (dE l):Nat):Int) % 256)=((UInt8.ofNat (sU k (dE l))).toNat:Int) by simp[IntKind.wrap,IntKind.signed,IntKind.bits])))<| ?_
  refine nx (qU Tryz.underlying27 fi rfl rfl rfl (by simp[Value.cells,B8]) (by decide) (by decide) fun g w4 hg hf4 hb4=> ?_)
  refine nx (mV rfl rfl Tryz.underlying27 Tryz.underlying27 (by exact .inl rfl) fi rfl (ho.qM hf4) (Src.j4 hb4 rfl) (bn (l:=[_])) (by unfold maxLen;omega) (by omega) (hf.cK hf4).size fun v5 w5 ho5 hf5 hv5=> ?_)
  refine nq (al rfl)<|bj<|bN (aa (t:=4) rfl<|aa (t:=12) rfl<|aa (t:=3) rfl<|aa (t:=5) rfl<|aI)<|aL<|bm<|nq (ah rfl)<|nq (kA rfl rfl (by omega) (by omega) (yw (by omega) (by omega)))<|nq (al rfl)<|bj<|bN (aa (t:=3) rfl<|aa (t:=4) rfl<|aa (t:=12) rfl<|aa (t:=5) rfl<|aI)<|fS<|aL<|bm<|nq (ah rfl)<|nq (aP rfl rfl (bA (by omega) (by omega)))<|nq (al rfl)<|bj<|bN (aa (t:=5) rfl<|aa (t:=3) rfl<|aa (t:=4) rfl<|aa (t:=12) rfl<|aI)<| ?_
  refine wF (k+1) v5 (aa (t:=3) rfl<|aa (t:=4) rfl<|aa (t:=5) rfl<|aI) (⟨by omega,by rw[Be,←List.append_assoc,bR];exact ho5,(hf.cK hf4).new hf5 (fun i hi=>(ho.from hi).1)⟩) (by omega)
 ·obtain rfl:k=4:=by omega
  refine jS<|ca<|ca<|c5<|aL<|bd<|bm<|nq (ah rfl)<|nq (al rfl)<|bj<|bN (aa (t:=2) rfl<|aa (t:=12) rfl<|aa (t:=3) rfl<|aa (t:=4) rfl<|aa (t:=5) rfl<|aI)<|aL<|eb<| ?_
  rw[AJ]at ho
  exact fG trivial rfl rfl ⟨v,rfl,ho,hf⟩
end Go.Proofs.YtmibdabdlgmafaaGreatDoor
end
section
set_option maxRecDepth 20000
namespace Go.Proofs.YtmibdabdlgmafaaGreatDoor
open Go.Eng Go.Hx
theorem wC(A:Option Addr)(n c:Nat)(l:List UInt8)(A' :Option Addr)(n' c' :Nat)(l' :List UInt8)(w:World)(hr:Rd w 1 A n (aW l))(hr' :Rd w 1 A' n' (aW l')):
  Calls Tryz.prog 215 #[.slice A n c,.slice A' n' c'] w fun e w' =>e= .returned (.bool (decide (l=l')))∧w=w' :=by
 refine enter (N:=10) Tryz.func215 rfl rfl (by simp) ?_
 refine bd<|bm<|nq (al rfl)<|bj<|aL<|bd<|bm<|nq (ah rfl)<|nq (ma rfl Tryz.underlying27 Tryz.underlying5 Tryz.underlying9 hr)<|nq (ah rfl)<|nq (ma rfl Tryz.underlying27 Tryz.underlying5 Tryz.underlying9 hr')<|nq (sB rfl rfl)<|nq (al rfl)<|bj<|bN (aa (t:=4) rfl<|aa (t:=0) rfl<|aa (t:=1) rfl<|aI)<|aL<|eb<| ?_
 refine fG trivial rfl rfl ⟨?_,rfl⟩
 simp only[cJ]
end Go.Proofs.YtmibdabdlgmafaaGreatDoor
end
section
set_option maxRecDepth 20000
namespace Go.Proofs.YtmibdabdlgmafaaGreatDoor
open Go.Eng Go.Hx
theorem pz{A A1:Option Addr}{n c n1 c1:Nat}{l l1:List UInt8}:b7 Tryz.prog 215 [.slice A n c,.slice A1 n1 c1] [] [cL 1 A n (aW l),cL 1 A1 n1 (aW l1)] (fun v_ X_ S_=>v_=(.bool (decide (l=l1)))∧X_=[]∧S_=[]):=by
 exact fZ fun m=>Calls.mono (wC A n c l A1 n1 c1 l1 _ (m.rd 0 rfl) (m.rd 1 rfl)) (fun e w' ⟨h,hw⟩=>⟨_,h,⟨rfl,rfl,rfl⟩,hw▸Fr.refl _ _⟩)
theorem mN{A:Option Addr}{n c:Nat}{l:List UInt8}(hn:n≤140737488351232):b7 Tryz.prog 117 [.slice A n c] [] [cL 1 A n (aW l)] (fun v_ X_ S_=>∃v,v_=v∧X_=[aK 5 1 v n (aW l)]∧S_=[]):=by
 exact nN fun m=>Calls.mono (clone A n c l _ (m.rd 0 rfl) hn) (fun e w' ⟨v,h,ho,hf⟩=>⟨v,v,_,_,_,_,h,⟨v,rfl,rfl,rfl⟩,ho,hf⟩)
end Go.Proofs.YtmibdabdlgmafaaGreatDoor
end
section
set_option maxRecDepth 20000
namespace Go.Proofs.YtmibdabdlgmafaaGreatDoor
open Go.Eng Go.Hx
def dZ:bl:=cL 1 (some ⟨1,0,none⟩) 64 (ee fX)
theorem FN{n:Nat}(h0:0<n)(hn:n<32):IntKind.u64.wrap (-(n:Int))=((18446744073709551616-n:Nat):Int):=by
 simp[IntKind.wrap,IntKind.signed,IntKind.bits]
 omega
theorem Bg{n:Nat}(h0:0<n)(hn:n<32):bits .and .u64 ((18446744073709551616-n:Nat):Int) 31=((32-n:Nat):Int):=by
 have h:=u64_and_nat (18446744073709551616-n) 31 (by omega) (by decide)
 rw[show((31:Nat):Int)=31 from rfl]at h
 rw[h,show(31:Nat)=2 ^ 5-1 from rfl,Nat.and_two_pow_sub_one_eq_mod]
 congr 1
 show(18446744073709551616-n) % 32=32-n
 omega
theorem wa{x:UInt32}{n:Nat}(h0:0<n)(hn:n<32):b7 Tryz.prog 296 [Wd x,.int .i64 (-(n:Int))] [] [] (fun v_ X_ S_=>v_=(Wd (iN n x))∧X_=[]∧S_=[]):=by
 refine aM (N:=17) Tryz.func296 rfl rfl (by simp) fun b=> ?_
 have hs:IntKind.u64.wrap (32-((32-n:Nat):Int))=(n:Int):=by
  rw[show(32:Int)-((32-n:Nat):Int)=(n:Int) by omega]
  simp[IntKind.wrap,IntKind.signed,IntKind.bits]
  omega
 refine ae<|ai<|aG rfl<|ag<|ab<|ae<|ai<|aw rfl<|hy (fun _=>bY rfl Tryz.underlying3 Tryz.underlying263 (FN h0 hn))<|hy (fun _=>gH (by simp) rfl rfl (Bg h0 hn))<|aG rfl<|ag<|aB [5,4,0,1] rfl<|ab<|ae<|ai<|aw rfl<|aw rfl<|hy (fun _=>(tY (k:=32-n) (by omega) rfl rfl))<|aw rfl<|aw rfl<|hy (fun _=>cn rfl rfl hs)<|hy (fun _=>(wz (k:=n) hn rfl rfl))<|hy (fun _=>yV (BS rfl rfl) ((show Wd (UInt32.ofNat (x.toNat*2 ^ (32-n)) ||| UInt32.ofNat (x.toNat/2 ^ n))=Wd (iN n x) by rw[tr h0 hn])))<|aG rfl<|ag<|aB [4,5,0,1] rfl<|ab<|aV<| ?_
 exact bc trivial rfl rfl [] rfl [] rfl ⟨rfl,rfl,rfl⟩
theorem x1{x:UInt32}{n1 n2 n3:Nat}(h1:0<n1∧n1<32)(h2:0<n2∧n2<32)(h3:0<n3∧n3<32):b7 Tryz.prog 269 [Wd x,.int .i64 (n1:Int),.int .i64 (n2:Int),.int .i64 (n3:Int)] [] [] (fun v_ X_ S_=>v_=(Wd (turns n1 n2 n3 x))∧X_=[]∧S_=[]):=by
 refine aM (N:=23) Tryz.func269 rfl rfl (by simp) fun b=> ?_
 refine ae<|ai<|aG rfl<|ag<|ab<|ae<|ai<|aw rfl<|aw rfl<|hy (fun _=>yD rfl (bA (by omega) (by omega)))<| ?_
 refine hx (aq rfl Tryz.call296 (wa h1.1 h1.2 (n:=n1)) [] rfl [] rfl ?_)
 rintro _ _ _ ⟨rfl,rfl,rfl⟩
 refine aw rfl<|aw rfl<|hy (fun _=>yD rfl (bA (by omega) (by omega)))<| ?_
 refine hx (aq rfl Tryz.call296 (wa h2.1 h2.2 (n:=n2)) [] rfl [] rfl ?_)
 rintro _ _ _ ⟨rfl,rfl,rfl⟩
 refine hy (fun _=>dj rfl rfl)<|aw rfl<|aw rfl<|hy (fun _=>yD rfl (bA (by omega) (by omega)))<| ?_
 refine hx (aq rfl Tryz.call296 (wa h3.1 h3.2 (n:=n3)) [] rfl [] rfl ?_)
 rintro _ _ _ ⟨rfl,rfl,rfl⟩
 refine hy (fun _=>dj rfl rfl)<|aG rfl<|ag<|aB [8,0,1,2,3] rfl<|aj (X' :=[]) (S' :=[]) (fun _ m=>m)<|ab<|aV<| ?_
 exact bc trivial rfl rfl [] rfl [] rfl ⟨rfl,rfl,rfl⟩
theorem nD{a:List UInt32}{i k n:Nat}(ha:a.length=i)(hk:k<i):(ee (a++List.replicate n 0))[k]? =some (Wd (a.getD k 0)):=by
 rw[br (by simp;omega)]
 simp[List.getD,List.getElem?_append_left (show k<a.length by omega)]
theorem Ea{a r:List UInt32}{i:Nat}{x:UInt32}(ha:a.length=i):(ee (a++x::r))[i]? =some (Wd x):=by
 subst ha
 simp[ee]
theorem yI{a r:List UInt32}{i:Nat}{x y:UInt32}(ha:a.length=i):(ee (a++x::r)).set i (Wd y)=ee (a++y::r):=by
 subst ha
 simp[ee,List.set_append]
theorem yb{a r:List UInt32}{y:UInt32}:a++y::r=(a++[y])++r:=by simp
theorem Gk{A:Option Addr}{c:Nat}{l:List UInt8}(hc:64≤c):b7 Tryz.prog 268 [.slice A 64 c] [] [cL 1 A 64 (aW l)] (fun v_ X_ S_=>v_=(.agg (ee (wl l 64)).toArray)∧X_=[]∧S_=[]):=by
 refine aM (N:=75) Tryz.func268 rfl rfl (by simp) fun b=> ?_
 refine a6 (fun m=>eG (m.rd 0 rfl)) ?_
 rintro⟨hl_r,hA_r⟩
 have hl:l.length=64:=hl_r
 refine ae<|ai<| ?_
 refine hx (bf CG (fun g2=> ?_))
 refine ag<|aj (X' :=[_]) (S' :=[_]) (fun _ m=>m)<|ab<|ae<|ai<| ?_
 refine hx (bf CG (fun g3=> ?_))
 refine aJ (fun w m=>m.bz 0 rfl (show _=aH g3 354 (ee (wl l 0++List.replicate (64-0) 0))from rfl)) ?_
 refine ag<|aj (X' :=[_,_]) (S' :=[_]) (fun _ m=>m)<|ab<|ae<|ae<|ai<|aw rfl<|ag<|ab<|aN<| ?_
 refine de (fun i=>64-i) (fun i=>[(9,.int .i64 (i:Nat))]) (fun i=>[aH g3 354 (ee (wl l i++List.replicate (64-i) 0))]) (fun i=>[]) (fun i=>i≤64) 0 [(3,_),(2,_),(0,_)] ⟨rfl,rfl,rfl,trivial⟩ [0] rfl [] rfl (Nat.zero_le _) ⟨rfl,trivial⟩ (fun i hI=> ?_)
 have hwl:=fO l i
 refine ae<|ai<|hy (fun _=>bw rfl rfl)<|ag<|ab<|ae<| ?_
 refine cB rfl (fun h=> ?_) (fun h=> ?_)
 ·have hr64:(List.replicate (64-i) (0:UInt32))=0::List.replicate (63-i) 0:=by rw[show 64-i=(63-i)+1 by omega,List.replicate_succ]
  have hr63:(64-(i+1))=63-i:=by omega
  refine aC<|ab<|ae<|aN<|ae<|ai<|aw rfl<|aG rfl<|ag<|aB [4,10,9,3,2,0] rfl<|ab<|ae<|ae<|ai<|aw rfl<|hy (fun _=>bw rfl rfl)<|ag<|aB [13,4,10,9,3,2,0] rfl<|ab<| ?_
  refine cB rfl (fun h16=> ?_) (fun h16=> ?_)
  ·have hws:wl l (i+1)=wl l i++[lh l (4*i)]:=by rw[wl,if_pos (by omega)]
   refine bk (fun w m=>m.fA 0 rfl (View.sub (k:=4*i) (m:=4) hc (by omega))) ?_
   refine a6 (fun m=>eG (m.rd 0 rfl)) ?_
   rintro⟨hl_r4,hA_r4⟩
   refine ae<|ae<|ai<|aw rfl<|aw rfl<|hy (fun _=>fK rfl rfl (bA (by omega) (by omega)))<|aw rfl<|hy (fun _=>fK rfl rfl (bA (by omega) (by omega)))<|hy (fun _=>aP rfl rfl (bA (by omega) (by omega)))<|hy (fun _=>yV (ey rfl rfl rfl Tryz.underlying27 dU (show((4*i:Nat):Int)=_ by omega) (show((4*i+4:Nat):Int)=_ by omega) (by omega) (by omega)) ((show Value.slice (if c=4*i then A else A.map (·.add (4*i*1))) (4*i+4-4*i) (c-4*i)= .slice (if c=4*i then A else A.map (·.add (4*i*1))) 4 (c-4*i) by rw[Nat.add_sub_cancel_left])))<|hy (fun _=>aY rfl Tryz.underlying27)<|aw rfl<|ag<|aB [22,21,20,13,4,10,9,3,2,0] rfl<|ab<|aN<| ?_
   refine bk (fun w m=>m.bz 0 rfl (show _=aH g3 354 (ee (wl l i++UInt32.ofNat (wp l (4*i) 0)::List.replicate (63-i) 0))from by rw[hr64];rfl)) ?_
   refine de (fun j=>4-j) (fun j=>[(22,.int .i64 (j:Nat))]) (fun j=>[aH g3 354 (ee (wl l i++UInt32.ofNat (wp l (4*i) j)::List.replicate (63-i) 0))]) (fun j=>[]) (fun j=>j≤4) 0 [(21,_),(20,_),(13,_),(4,_),(10,_),(9,_),(3,_),(2,_),(0,_)] ⟨rfl,rfl,rfl,rfl,rfl,rfl,rfl,rfl,rfl,trivial⟩ [0] rfl [] rfl (Nat.zero_le _) ⟨rfl,trivial⟩ (fun j hj4=> ?_)
   refine ae<|ai<|hy (fun _=>bw rfl rfl)<|ag<|ab<|ae<| ?_
   refine cB rfl (fun hj=> ?_) (fun hj=> ?_)
   ·have hgl:((l.drop (4*i)).take 4).getD j 0=l.getD (4*i+j) 0:=by
     simp[List.getD,List.getElem?_take,List.getElem?_drop,show j<4 by omega]
    refine aC<|ab<|ae<|aN<|ae<|ai<|hy (fun _=>aZ rfl rfl Tryz.underlying27 dU hA_r4 rfl (by omega))<|hy (fun m=>ao rfl iO ((m.rd 0 rfl).cell (bM (by omega))))<|aG rfl<|ag<|aB [6,23,22,21,20,13,4,10,9,3,2,0] rfl<|ab<|ai<|aw rfl<|aw rfl<|hy (fun _=>bS rfl rfl Tryz.underlying354 bI rfl (by omega))<|hy (fun m=>ao rfl bV ((m.aU 0 rfl).au i _ (Ea hwl)))<|hy (fun _=>tN (k:=8) (b:=256) (by decide) rfl rfl rfl)<|aw rfl<|hy (fun _=>Bp rfl Tryz.underlying5 Tryz.underlying166)<|hy (fun _=>yV (BS rfl rfl) ((show Wd ((UInt32.ofNat (wp l (4*i) j)*256) ||| (((l.drop (4*i)).take 4).getD j 0).toUInt32)=Wd (UInt32.ofNat (wp l (4*i) (j+1))) by rw[hgl,EM (by omega)])))<|hy (fun _=>bS rfl rfl Tryz.underlying354 bI rfl (by omega))<| ?_
    refine cI (b9 0 rfl rfl rfl bI rfl (by rw[a8];simp only[List.length_append,List.length_cons,List.length_replicate,hwl];omega) ?_)
    refine ag<|aB [6,23,22,21,20,13,4,10,9,3,2,0] rfl<|aj (X' :=[_,_]) (S' :=[_,_]) (fun _ m=>m)<|aS<|ab<|ai<|hy (fun _=>aP rfl rfl (bA (by omega) (by omega)))<|aw rfl<|ag<|aB [22,6,23,21,20,13,4,10,9,3,2,0] rfl<| ?_
    refine aj (fun w m=>m.bz 0 rfl (show _=aH g3 354 (ee (wl l i++UInt32.ofNat (wp l (4*i) (j+1))::List.replicate (63-i) 0))from by rw[Nat.zero_add,yI hwl])) ?_
    refine cM (j+1) ⟨rfl,rfl,rfl,rfl,rfl,rfl,rfl,rfl,rfl,rfl,trivial⟩ [0,0] rfl [0,1] rfl (by omega) (by omega)
   ·obtain rfl:j=4:=by omega
    refine bG<|an<|an<|aE<|ab<|bG<|an<|aE<|ab<|ai<|hy (fun _=>aP rfl rfl (bA (by omega) (by omega)))<|aw rfl<|ag<|aB [9,23,22,21,20,13,4,10,3,2,0] rfl<| ?_
    refine aj (fun w m=>m.bz 0 rfl (show _=aH g3 354 (ee (wl l (i+1)++List.replicate (64-(i+1)) 0))from by rw[E5,yb,hws,hr63])) ?_
    refine cM (i+1) ⟨rfl,rfl,rfl,rfl,trivial⟩ [0,0] rfl [1] rfl (by omega) (by omega)
  ·have hws:wl l (i+1)=wl l i++[nQ (wl l i) i]:=by rw[wl,if_neg (by omega)]
   refine aC<|ab<|ae<|cD [] [(0,some 0),(1,some 0),(2,some 0),(3,some 0),(4,some 0),(5,some 0),(6,some 0),(7,some 0),(8,some 0),(9,some 0)] (by kernel_rfl) (by kernel_rfl) rfl 99<|ak (ah rfl)<|ak (cn rfl rfl (bA (by omega) (by omega)))<|ak (bS rfl rfl Tryz.underlying354 bI (show((i-15:Nat):Int)=_ by omega) (by omega))<|bZ (fun m=>ao rfl bV ((m.aU 0 rfl).au (i-15) _ (nD hwl (by omega))))<|ak (ah rfl)<|ak (cn rfl rfl (bA (by omega) (by omega)))<|ak (bS rfl rfl Tryz.underlying354 bI (show((i-2:Nat):Int)=_ by omega) (by omega))<|bZ (fun m=>ao rfl bV ((m.aU 0 rfl).au (i-2) _ (nD hwl (by omega))))<|ak (al rfl)<|ak (al rfl)<|bq<|aB [8,7,13,4,10,9,3,2,0] rfl<|ab<|cD [6,8,20,22,29] [(0,some 4),(1,some 4),(2,some 4),(3,some 4),(4,some 4),(5,some 0),(7,some 1),(10,some 4),(11,some 4),(14,some 4),(15,some 4),(16,some 4),(17,some 4),(19,some 2),(21,some 3),(24,some 4),(25,some 4),(6,none),(8,none),(9,some 4),(12,some 4),(13,some 4),(18,some 4),(20,none),(22,none),(23,some 4),(26,some 4),(27,some 4),(28,some 4),(29,none)] (by kernel_rfl) (by kernel_rfl) rfl 4<|ak (ah rfl)<|ak (ah rfl)<|ak (cn rfl rfl (bA (by omega) (by omega)))<|ak (bS rfl rfl Tryz.underlying354 bI (show((i-16:Nat):Int)=_ by omega) (by omega))<|bZ (fun m=>ao rfl bV ((m.aU 0 rfl).au (i-16) _ (nD hwl (by omega))))<|ak (ah rfl)<|ak (ah rfl)<|ak (ah rfl)<|ak (lu (k:=3) (b:=8) (by decide) rfl rfl rfl)<|ak (ah rfl)<|ak (cn rfl rfl (bA (by omega) (by omega)))<|ak (bS rfl rfl Tryz.underlying354 bI (show((i-7:Nat):Int)=_ by omega) (by omega))<|bZ (fun m=>ao rfl bV ((m.aU 0 rfl).au (i-7) _ (nD hwl (by omega))))<|ak (ah rfl)<|ak (ah rfl)<|ak (ah rfl)<|ak (lu (k:=10) (b:=1024) (by decide) rfl rfl rfl)<| ?_
   refine dF (aq rfl Tryz.call296 (wa (by decide) (by decide) (n:=7)) [] rfl [] rfl ?_)
   rintro _ _ _ ⟨rfl,rfl,rfl⟩
   refine⟨(fun _=>wk [0,0] [0] rfl rfl), ?_⟩
   refine dF (aq rfl Tryz.call296 (wa (by decide) (by decide) (n:=18)) [] rfl [] rfl ?_)
   rintro _ _ _ ⟨rfl,rfl,rfl⟩
   refine⟨(fun _=>wk [0,0] [0] rfl rfl), ?_⟩
   refine ak (dj rfl rfl)<|ak (dj rfl rfl)<|ak (dz rfl rfl)<|ak (dz rfl rfl)<| ?_
   refine dF (aq rfl Tryz.call296 (wa (by decide) (by decide) (n:=17)) [] rfl [] rfl ?_)
   rintro _ _ _ ⟨rfl,rfl,rfl⟩
   refine⟨(fun _=>wk [0,0] [0] rfl rfl), ?_⟩
   refine dF (aq rfl Tryz.call296 (wa (by decide) (by decide) (n:=19)) [] rfl [] rfl ?_)
   rintro _ _ _ ⟨rfl,rfl,rfl⟩
   refine⟨(fun _=>wk [0,0] [0] rfl rfl), ?_⟩
   refine ak (dj rfl rfl)<|ak (dj rfl rfl)<|ak (yV (dz rfl rfl) ((rfl:_=Wd (nQ (wl l i) i))))<|ak (bS rfl rfl Tryz.underlying354 bI rfl (by omega))<| ?_
   refine gu (b9 0 rfl rfl rfl bI rfl (by rw[a8];simp only[List.length_append,List.length_replicate,hwl];omega) ⟨(fun h=>absurd h (by decide)), ?_⟩)
   refine bq<|aB [8,7,13,4,10,9,3,2,0] rfl<|aj (X' :=[_,_]) (S' :=[_]) (fun _ m=>m)<|aS<|ab<|ai<|hy (fun _=>aP rfl rfl (bA (by omega) (by omega)))<|aw rfl<|ag<|aB [9,8,7,13,4,10,3,2,0] rfl<| ?_
   refine aj (fun w m=>m.bz 0 rfl (show _=aH g3 354 (ee (wl l (i+1)++List.replicate (64-(i+1)) 0))from by rw[Nat.zero_add,hr64,yI hwl,yb,hws,hr63])) ?_
   refine cM (i+1) ⟨rfl,rfl,rfl,rfl,trivial⟩ [0,0] rfl [0] rfl (by omega) (by omega)
 ·obtain rfl:i=64:=by omega
  refine bk (fun w m=>m.bz 0 rfl (show _=aH g3 354 (ee (wl l 64))from by rw[Nat.sub_self];simp)) ?_
  refine bG<|an<|an<|aE<|ab<|ae<|ai<|hy (fun m=>yV (aQ rfl Fo xC (by rw[a8,fO]) ((m.aU 0 rfl).au)) ((rfl:_=Value.agg (ee (wl l 64)).toArray)))<| ?_
  refine cI (ba 1 rfl rfl rfl xC (by rw[a8,fO]) gO rfl ?_)
  refine ag<|aB [10,9,3,2,0] rfl<|aj (X' :=[_,_]) (S' :=[_]) (fun _ m=>m)<|ab<|aV<| ?_
  exact eO trivial rfl rfl Fo xC (by rw[a8,fO]) (fun m=>(m.aU 0 rfl).au) [] rfl [] rfl ⟨rfl,rfl,rfl⟩
theorem u0(v h:List UInt32)(i:Nat):(gn v h i).length=v.length:=by simp[gn]
theorem JV{A:Option Addr}{c:Nat}{l:List UInt8}{h:List UInt32}(hc:64≤c)(hh:h.length=8):b7 Tryz.prog 227 [.agg (ee h).toArray,.slice A 64 c] [] [cL 1 A 64 (aW l),dZ] (fun v_ X_ S_=>v_=(.agg (ee (eF h l)).toArray)∧X_=[]∧S_=[]):=by
 refine aM (N:=99) Tryz.func227 rfl rfl (by simp) fun b=> ?_
 refine a6 (fun m=>eG (m.rd 0 rfl)) ?_
 rintro⟨hl_r,hA_r⟩
 refine ae<|ai<| ?_
 refine hx (bu rfl (fun g2=> ?_))
 refine aJ (fun w m=>m.bz 0 rfl (show _=aH g2 306 (ee h)from congrArg (aH _ _) (aT _))) ?_
 refine hx (bf yp (fun g4=> ?_))
 refine ag<|aj (X' :=[_,_]) (S' :=[_,_]) (fun _ m=>m)<|ab<|ae<|ai<|aw rfl<| ?_
 refine hx (aq rfl Tryz.call268 (Gk (by omega)) [] rfl [0] rfl ?_)
 rintro _ _ _ ⟨rfl,rfl,rfl⟩
 obtain⟨W,hW⟩:∃W,wl l 64=W:=⟨_,rfl⟩
 have hw64:W.length=64:=by rw[←hW];exact fO l 64
 rw[hW]
 refine hx (bf CG (fun g5=> ?_))
 refine cI (ba 0 rfl rfl rfl xC (by rw[a8,hw64]) gO rfl ?_)
 refine ag<|aB [5,4,2,0,1] rfl<|aj (X' :=[_,_,_]) (S' :=[_,_]) (fun _ m=>m)<|ab<|ae<|ai<|hy (fun m=>yV (aQ rfl sC l8 (by rw[a8,hh]) ((m.aU 2 rfl).au)) ((rfl:_=Value.agg (ee h).toArray)))<| ?_
 refine hx (bf yp (fun g6=> ?_))
 refine cI (ba 0 rfl rfl rfl l8 (by rw[a8,hh]) gO rfl ?_)
 refine ag<|aB [6,5,4,2,0,1] rfl<|aj (X' :=[_,_,_,_]) (S' :=[_,_]) (fun _ m=>m)<|ab<|ae<|ae<|ai<|aw rfl<|ag<|ab<|aN<| ?_
 refine de (fun i=>64-i) (fun i=>[(16,.int .i64 (i:Nat))]) (fun i=>[aH g6 306 (ee (k0 W h i))]) (fun i=>[]) (fun i=>i≤64) 0 [(6,_),(5,_),(4,_),(2,_),(0,_),(1,_)] ⟨rfl,rfl,rfl,rfl,rfl,rfl,trivial⟩ [0] rfl [] rfl (Nat.zero_le _) ⟨rfl,trivial⟩ (fun i hI=> ?_)
 have hv:=k5 (w:=W) hh i
 have hro:fX.length=64:=rfl
 refine ae<|ai<|hy (fun _=>bw rfl rfl)<|ag<|ab<|ae<| ?_
 refine cB rfl (fun hlt=> ?_) (fun hlt=> ?_)
 ·generalize hvd:k0 W h i=v at hv ⊢
  refine aC<|ab<|ae<|aN<|ae<|ai<|aw rfl<|aG rfl<|ag<|aB [7,17,16,6,5,4,2,0,1] rfl<|ab<|ae<|cD [] [(0,some 0),(1,some 0),(2,some 0),(3,some 0),(4,some 0),(5,some 0)] (by kernel_rfl) (by kernel_rfl) rfl 99<|ak (bS rfl rfl Tryz.underlying306 bI (show((4:Nat):Int)=4 from rfl) (by omega))<|bZ (fun m=>ao rfl bV ((m.aU 0 rfl).au 4 _ (br (by omega))))<|ak (bS rfl rfl Tryz.underlying306 bI (show((0:Nat):Int)=0 from rfl) (by omega))<|bZ (fun m=>ao rfl bV ((m.aU 0 rfl).au 0 _ (br (by omega))))<|ak (al rfl)<|ak (al rfl)<|bq<|aB [9,8,7,17,16,6,5,4,2,0,1] rfl<|ab<|ae<|cD [3] [(0,some 1),(1,some 1),(2,some 0),(5,some 1),(6,some 1),(7,some 1),(8,some 1),(9,some 1),(10,some 1),(11,some 1),(12,some 1),(13,some 1),(14,some 1),(16,some 1),(17,some 1),(18,some 1),(20,some 1),(21,some 1),(22,some 1),(3,none),(4,some 1),(15,some 1),(19,some 1),(23,some 1),(24,some 1)] (by kernel_rfl) (by kernel_rfl) rfl 99<|ak (bS rfl rfl Tryz.underlying306 bI (show((7:Nat):Int)=7 from rfl) (by omega))<|bZ (fun m=>ao rfl bV ((m.aU 0 rfl).au 7 _ (br (by omega))))<|ak (ah rfl)<|ak (ah rfl)<|ak (bS rfl rfl Tryz.underlying306 bI (show((5:Nat):Int)=5 from rfl) (by omega))<|bZ (fun m=>ao rfl bV ((m.aU 0 rfl).au 5 _ (br (by omega))))<|ak (iJ rfl rfl)<|ak (ah rfl)<|ak (Gv rfl)<|ak (bS rfl rfl Tryz.underlying306 bI (show((6:Nat):Int)=6 from rfl) (by omega))<|bZ (fun m=>ao rfl bV ((m.aU 0 rfl).au 6 _ (br (by omega))))<|ak (iJ rfl rfl)<|ak (dj rfl rfl)<|ak (ah rfl)<|ak (bS rfl rfl Tryz.underlying354 bI rfl (by omega))<|bZ (fun m=>ao rfl bV ((show Rd _ 1 _ 64 (ee fX)from m.Ig 1 rfl).cell (j:=i) (br (by omega))))<|ak (ah rfl)<|ak (bS rfl rfl Tryz.underlying354 bI rfl (by omega))<|bZ (fun m=>ao rfl bV ((m.aU 1 rfl).au i _ (br (by omega))))<| ?_
  refine dF (aq rfl Tryz.call269 (x1 (by decide) (by decide) (by decide) (n1:=6) (n2:=11) (n3:=25)) [] rfl [] rfl ?_)
  rintro _ _ _ ⟨rfl,rfl,rfl⟩
  refine⟨(fun _=>wk [0,0,0,0] [0,1] rfl rfl), ?_⟩
  refine ak (dz rfl rfl)<|ak (dz rfl rfl)<|ak (dz rfl rfl)<| ?_
  generalize hk:fX.getD i 0=k
  refine ak (yV (dz rfl rfl) ((rfl:_=Wd (rt v k (W.getD i 0)))))<|ak (al rfl)<|bq<|aB [10,9,8,7,17,16,6,5,4,2,0,1] rfl<|aj (X' :=[_,_,_,_]) (S' :=[_,_]) (fun _ m=>m)<|ab<|ae<|cD [1] [(0,some 0),(2,some 1),(3,some 1),(4,some 1),(5,some 1),(6,some 1),(7,some 1),(8,some 1),(9,some 1),(10,some 1),(11,some 1),(12,some 1),(13,some 1),(14,some 1),(15,some 1),(16,some 1),(1,none),(17,some 1),(18,some 1)] (by kernel_rfl) (by kernel_rfl) rfl 99<|ak (ah rfl)<|ak (ah rfl)<|ak (bS rfl rfl Tryz.underlying306 bI (show((1:Nat):Int)=1 from rfl) (by omega))<|bZ (fun m=>ao rfl bV ((m.aU 0 rfl).au 1 _ (br (by omega))))<|ak (iJ rfl rfl)<|ak (ah rfl)<|ak (bS rfl rfl Tryz.underlying306 bI (show((2:Nat):Int)=2 from rfl) (by omega))<|bZ (fun m=>ao rfl bV ((m.aU 0 rfl).au 2 _ (br (by omega))))<|ak (iJ rfl rfl)<|ak (dj rfl rfl)<|ak (bS rfl rfl Tryz.underlying306 bI (show((1:Nat):Int)=1 from rfl) (by omega))<|bZ (fun m=>ao rfl bV ((m.aU 0 rfl).au 1 _ (br (by omega))))<|ak (bS rfl rfl Tryz.underlying306 bI (show((2:Nat):Int)=2 from rfl) (by omega))<|bZ (fun m=>ao rfl bV ((m.aU 0 rfl).au 2 _ (br (by omega))))<|ak (iJ rfl rfl)<|ak (dj rfl rfl)<| ?_
  refine dF (aq rfl Tryz.call269 (x1 (by decide) (by decide) (by decide) (n1:=2) (n2:=13) (n3:=22)) [] rfl [] rfl ?_)
  rintro _ _ _ ⟨rfl,rfl,rfl⟩
  refine⟨(fun _=>wk [0,0,0,0] [0,1] rfl rfl), ?_⟩
  refine ak (yV (dz rfl rfl) ((rfl:_=Wd (ru v))))<|ak (al rfl)<|bq<|aB [11,10,9,8,7,17,16,6,5,4,2,0,1] rfl<|aj (X' :=[_,_,_,_]) (S' :=[_,_]) (fun _ m=>m)<|ab<|ai<|aw rfl<|aw rfl<|hy (fun _=>dz rfl rfl)<|hy (fun _=>bS rfl rfl Tryz.underlying306 bI (show((0:Nat):Int)=0 from rfl) (by omega))<|hy (fun m=>ao rfl bV ((m.aU 0 rfl).au 0 _ (br (by omega))))<|hy (fun _=>bS rfl rfl Tryz.underlying306 bI (show((1:Nat):Int)=1 from rfl) (by omega))<|hy (fun m=>ao rfl bV ((m.aU 0 rfl).au 1 _ (br (by omega))))<|hy (fun _=>bS rfl rfl Tryz.underlying306 bI (show((2:Nat):Int)=2 from rfl) (by omega))<|hy (fun m=>ao rfl bV ((m.aU 0 rfl).au 2 _ (br (by omega))))<|hy (fun _=>bS rfl rfl Tryz.underlying306 bI (show((3:Nat):Int)=3 from rfl) (by omega))<|hy (fun m=>ao rfl bV ((m.aU 0 rfl).au 3 _ (br (by omega))))<|aw rfl<|hy (fun _=>dz rfl rfl)<|hy (fun _=>bS rfl rfl Tryz.underlying306 bI (show((4:Nat):Int)=4 from rfl) (by omega))<|hy (fun m=>ao rfl bV ((m.aU 0 rfl).au 4 _ (br (by omega))))<|hy (fun _=>bS rfl rfl Tryz.underlying306 bI (show((5:Nat):Int)=5 from rfl) (by omega))<|hy (fun m=>ao rfl bV ((m.aU 0 rfl).au 5 _ (br (by omega))))<|hy (fun _=>bS rfl rfl Tryz.underlying306 bI (show((6:Nat):Int)=6 from rfl) (by omega))<|hy (fun m=>ao rfl bV ((m.aU 0 rfl).au 6 _ (br (by omega))))<|hy (fun _=>yV (uB (n:=8) yp (by kernel_rfl) rfl (by kernel_rfl) rfl (by kernel_rfl) (by kernel_rfl) (rY (l:=[_,_,_,_,_,_,_,_]))) ((rfl:_=Value.agg (ee (JQ v k (W.getD i 0))).toArray)))<| ?_
  refine cI (ba 0 rfl rfl rfl l8 rfl gO (by rw[a8,hv]) ?_)
  refine ag<|aB [11,10,9,8,7,17,16,6,5,4,2,0,1] rfl<|aj (X' :=[_,_,_,_]) (S' :=[_,_]) (fun _ m=>m)<|aS<|ab<|ai<|hy (fun _=>aP rfl rfl (bA (by omega) (by omega)))<|aw rfl<|ag<|aB [16,11,10,9,8,7,17,6,5,4,2,0,1] rfl<| ?_
  refine aj (fun w m=>m.bz 0 rfl (show _=aH g6 306 (ee (k0 W h (i+1)))from by rw[←hvd,←hk];rfl)) ?_
  refine cM (i+1) ⟨rfl,rfl,rfl,rfl,rfl,rfl,rfl,trivial⟩ [0,0,0,0] rfl [0,1] rfl (by omega) (by omega)
 ·obtain rfl:i=64:=by omega
  generalize hvv:k0 W h 64=v at hv ⊢
  refine bk (fun w m=>m.bz 0 rfl (show _=aH g6 306 (ee (gn v h 0))from by rw[r9])) ?_
  refine bG<|an<|an<|aE<|ab<|ae<|ae<|ai<|aw rfl<|ag<|ab<|aN<| ?_
  refine de (fun j=>8-j) (fun j=>[(86,.int .i64 (j:Nat))]) (fun j=>[aH g6 306 (ee (gn v h j))]) (fun j=>[]) (fun j=>j≤8) 0 [(17,_),(16,_),(6,_),(5,_),(4,_),(2,_),(0,_),(1,_)] ⟨rfl,rfl,rfl,rfl,rfl,rfl,rfl,rfl,trivial⟩ [0] rfl [] rfl (Nat.zero_le _) ⟨rfl,trivial⟩ (fun j hj8=> ?_)
  have hsl:=u0 v h j
  refine ae<|ai<|hy (fun _=>bw rfl rfl)<|ag<|ab<|ae<| ?_
  refine cB rfl (fun hj=> ?_) (fun hj=> ?_)
  ·refine aC<|ab<|ae<|aN<|ae<|ai<|aw rfl<|aG rfl<|ag<|aB [12,87,86,17,16,6,5,4,2,0,1] rfl<|ab<|cD [8] [(0,some 0),(1,some 0),(2,some 0),(3,some 0),(4,some 0),(5,some 0),(6,some 0),(7,some 0),(8,none)] (by kernel_rfl) (by kernel_rfl) rfl 0<|ak (ah rfl)<|ak (bS rfl rfl Tryz.underlying306 bI rfl (by omega))<|bZ (fun m=>ao rfl bV ((m.aU 0 rfl).au j _ (br (by omega))))<|ak (ah rfl)<|ak (bS rfl rfl Tryz.underlying306 bI rfl (by omega))<|bZ (fun m=>ao rfl bV ((m.aU 3 rfl).au j _ (br (by omega))))<|ak (yV (dz rfl rfl) ((rfl:_=Wd (v_ (gn v h j) j+v_ h j))))<|ak (bS rfl rfl Tryz.underlying306 bI rfl (by omega))<| ?_
   refine gu (b9 0 rfl rfl rfl bI rfl (by rw[a8];omega) ⟨(fun h=>absurd h (by decide)), ?_⟩)
   refine bq<|aB [12,87,86,17,16,6,5,4,2,0,1] rfl<|aj (X' :=[_,_,_,_]) (S' :=[_,_]) (fun _ m=>m)<|aS<|ab<|ai<|hy (fun _=>aP rfl rfl (bA (by omega) (by omega)))<|aw rfl<|ag<|aB [86,12,87,17,16,6,5,4,2,0,1] rfl<| ?_
   refine aj (fun w m=>m.bz 0 rfl (show _=aH g6 306 (ee (gn v h (j+1)))from by rw[Nat.zero_add,ti,sr (by omega)])) ?_
   refine cM (j+1) ⟨rfl,rfl,rfl,rfl,rfl,rfl,rfl,rfl,rfl,trivial⟩ [0,0,0,0] rfl [0,1] rfl (by omega) (by omega)
  ·obtain rfl:j=8:=by omega
   have hB:gn v h 8=eF h l:=by rw[eF,hW,hvv]
   rw[hB]
   have hbl:=jq hh l
   refine bG<|an<|an<|aE<|ab<|ae<|ai<|hy (fun m=>yV (aQ rfl sC l8 (by rw[a8,hbl]) ((m.aU 0 rfl).au)) ((rfl:_=Value.agg (ee (eF h l)).toArray)))<| ?_
   refine cI (ba 2 rfl rfl rfl l8 (by rw[a8,hbl]) gO rfl ?_)
   refine ag<|aB [87,86,17,16,6,5,4,2,0,1] rfl<|aj (X' :=[_,_,_,_]) (S' :=[_,_]) (fun _ m=>m)<|ab<|aV<| ?_
   exact eO trivial rfl rfl sC l8 (by rw[a8,hbl]) (fun m=>(m.aU 0 rfl).au) [] rfl [] rfl ⟨rfl,rfl,rfl⟩
end Go.Proofs.YtmibdabdlgmafaaGreatDoor
end
section
set_option maxRecDepth 100000
namespace Go.Proofs.YtmibdabdlgmafaaGreatDoor
open Go.Eng Go.Hx Go.ChangeShapes Go.WideShapes Go.ChangeAt Go.WideMaps Go.WideElems Go.RowKit
theorem GV : Tryz.prog.globalNamed "lighterage/sha.roots" = some 1 := by kernel_rfl
theorem HB:(Tryz.prog.globals[1]?).map (·.type)=some 354:=by kernel_rfl
theorem wG:(Rows.laid_lighterage_sha_roots:DataW Unit)= .agg (fX.map fun x=>.lit (.int .u32 (x.toNat:Int))):=by kernel_rfl
theorem B3 (os : Os) (args : Array Value) : laidMetH Tryz.prog [("lighterage/sha.roots", Rows.laid_lighterage_sha_roots)] ((World.doorLaid Tryz.prog 400 os).forCall (fun _ _ => 0) ⟨#[], args, []⟩).memory :=
  laidMetH_of_parts3 (fuel:=8) (laidMet_of_run' 8 (by kernel_rfl) (by kernel_rfl)) (by kernel_rfl) (by kernel_rfl)
theorem rI {W : World} (h : laidMetH Tryz.prog [("lighterage/sha.roots", Rows.laid_lighterage_sha_roots)] W) : dZ.holds W := by
  rw[MakeChecks.laidMetH_plain _ _ _ (by kernel_rfl)]at h
  obtain⟨ps,⟨g0,t0,cs0,f0,p0,q0,hg0,ht0,hv0,hd0,_,_⟩,_,_⟩:=h
  obtain rfl:=Option.some.inj (GV.symm.trans hg0)
  obtain rfl:=Option.some.inj (HB.symm.trans ht0)
  rw[wG]at hd0
  obtain⟨xs,m1,rfl,hx1,hlen,hn,hel⟩:=DataW.trod_array Tryz.underlying354 hd0
  have c3:Tryz.prog.cellsOf 166=1:=by kernel_rfl
  simp only[Prod.mk.injEq,DataW.agg.injEq]at hx1
  refine⟨by rw[a8];rfl,fun _=>by simp,fun j u hu=> ?_⟩
  have hj:j<64:=by
    obtain⟨h1,_⟩:=List.getElem?_eq_some_iff.1 hu
    rw[a8]at h1
    exact h1
  have h0:=hel j hj
  have hxj:(xs.map (·.1))[j]? =(fX.map fun x=>DataW.lit (Lit.int .u32 (x.toNat:Int)))[j]? :=by rw[←hx1.1]
  obtain⟨y,hy⟩:∃y,xs[j]? =some y:=⟨_,List.getElem?_eq_getElem (by omega)⟩
  rw[hy]at h0
  obtain⟨n,e1,e2,_⟩:=DataW.trod_int Tryz.underlying166 h0
  rw[List.getElem?_map,hy,List.getElem?_map]at hxj
  rw[ee,List.getElem?_map]at hu
  cases hr:fX[j]? with
  |none=>rw[hr]at hu;cases hu
  |some r=>
    rw[hr]at hu hxj
    rw[e2]at hxj
    have hn2:n=(r.toNat:Int):=by simpa using hxj
    have hu2:u= .int .u32 (r.toNat:Int):=by simpa using hu.symm
    have h5:=World.var?_cell hg0 hv0 j
    rw[c3,Nat.mul_one]at e1
    have h6:cs0[j]? =some (.int .u32 n):=by
      have h7:(List.take 1 (List.drop j cs0.toList))[0]? =some (.int .u32 n):=by rw[e1];rfl
      rw[List.getElem?_take,if_pos (by decide),List.getElem?_drop,Nat.add_zero]at h7
      simpa using h7
    show W.cell? ((Option.getD (some _) d0).add j)=some u
    rw[hu2,←hn2,←h6,←h5]
    have e:(⟨1,0,none⟩:Addr).add j=⟨1,j,none⟩:=by simp[Addr.add];omega
    exact congrArg W.cell? e
end Go.Proofs.YtmibdabdlgmafaaGreatDoor
end
section
set_option maxRecDepth 20000
namespace Go.Proofs.YtmibdabdlgmafaaGreatDoor
open Go.Eng Go.Hx
theorem vo{l:List UInt8}{c:UInt8}:b7 Tryz.prog 267 [.string (strOf l),B8 c] [] [] (fun v_ X_ S_=>v_=(.int .i64 (Lib.indexByte l c))∧X_=[]∧S_=[]):=by
 refine aM (N:=8) Tryz.func267 rfl rfl (by simp) fun b=> ?_
 refine ae<|ai<|aG rfl<|ag<|ab<|ae<|ai<|aw rfl<|aw rfl<| ?_
 refine hx (qt (fun m=>Bj rfl Tryz.func295 (by kernel_rfl) (by kernel_rfl) (by kernel_rfl) (show _=some Extern.BytealgIndexByte.indexByte by kernel_rfl) (Lib.run_indexByteString _ _ _)) ?_)
 refine aG rfl<|ag<|aB [4,0,1] rfl<|ab<|aV<| ?_
 exact bc trivial rfl rfl [] rfl [] rfl ⟨(by congr 2;simp),rfl,rfl⟩
theorem zE{l:List UInt8}{c:UInt8}:b7 Tryz.prog 274 [.string (strOf l),.string (strOf [c])] [] [] (fun v_ X_ S_=>v_=(.int .i64 (Lib.indexByte l c))∧X_=[]∧S_=[]):=by
 refine aM (N:=143) Tryz.func274 rfl rfl (by simp) fun b=> ?_
 refine ae<|ai<|aG rfl<|ag<|ab<|ae<|ai<|aw rfl<|hy (fun _=>yV (cU rfl Tryz.underlying9) ((rfl:_=Value.int .i64 1)))<|aG rfl<|ag<|aB [5,4,0,1] rfl<|ab<|ae<|aN<|ae<|ai<|aw rfl<|hy (fun _=>cx rfl rfl)<|aw rfl<| ?_
 refine cy (o:=_) rfl rfl rfl (fun _=>ah rfl)<|cy (o:=_) rfl rfl rfl (fun _=>ah rfl)<|cy (o:=_) rfl rfl rfl (fun _=>sB rfl rfl)<|hy (fun _=>bo rfl rfl)<|aG rfl<|ag<|aB [16,5,4,0,1] rfl<|ab<| ?_
 refine cB rfl (fun h=> ?_) (fun h=> ?_)
 ·obtain rfl:=cJ.1 h
  refine ae<|ai<|aG rfl<|ag<|ab<|aV<|a7<|ay<| ?_
  exact bc trivial rfl rfl [] rfl [] rfl ⟨(by simp[Lib.indexByte]),rfl,rfl⟩
 ·refine ae<|ai<|aw rfl<|hy (fun _=>cx rfl rfl)<|aG rfl<|ag<|aB [24,16,5,4,0,1] rfl<|ab<| ?_
  refine fq rfl (rfl) ?_
  refine ae<|ai<|aw rfl<|aw rfl<|hy (fun _=>yV (er rfl rfl Tryz.underlying9 rfl (iQ (by simp))) ((rfl:_=B8 c)))<| ?_
  refine hx (aq rfl Tryz.call267 (vo) [] rfl [] rfl ?_)
  rintro _ _ _ ⟨rfl,rfl,rfl⟩
  refine aG rfl<|ag<|aB [4,24,16,5,0,1] rfl<|aj (X' :=[]) (S' :=[]) (fun _ m=>m)<|ab<|aV<|a7<|ay<| ?_
  exact bc trivial rfl rfl [] rfl [] rfl ⟨rfl,rfl,rfl⟩
theorem qT{l:List UInt8}{c:UInt8}:b7 Tryz.prog 233 [.string (strOf l),.string (strOf [c])] [] [] (fun v_ X_ S_=>v_=(.int .i64 (Lib.indexByte l c))∧X_=[]∧S_=[]):=by
 refine aM (N:=8) Tryz.func233 rfl rfl (by simp) fun b=> ?_
 refine ae<|ai<|aG rfl<|ag<|ab<|ae<|ai<|aw rfl<|aw rfl<| ?_
 refine hx (aq rfl Tryz.call274 (zE) [] rfl [] rfl ?_)
 rintro _ _ _ ⟨rfl,rfl,rfl⟩
 refine aG rfl<|ag<|aB [4,0,1] rfl<|aj (X' :=[]) (S' :=[]) (fun _ m=>m)<|ab<|aV<| ?_
 exact bc trivial rfl rfl [] rfl [] rfl ⟨rfl,rfl,rfl⟩
theorem wN{l:List UInt8}{c:UInt8}:b7 Tryz.prog 184 [.string (strOf l),.string (strOf [c])] [] [] (fun v_ X_ S_=>v_=(.bool (decide (c∈l)))∧X_=[]∧S_=[]):=by
 refine aM (N:=9) Tryz.func184 rfl rfl (by simp) fun b=> ?_
 refine ae<|ai<|aG rfl<|ag<|ab<|ae<|ai<|aw rfl<|aw rfl<| ?_
 refine hx (aq rfl Tryz.call233 (qT) [] rfl [] rfl ?_)
 rintro _ _ _ ⟨rfl,rfl,rfl⟩
 refine hy (fun _=>dL rfl rfl)<|aG rfl<|ag<|aB [4,0,1] rfl<|aj (X' :=[]) (S' :=[]) (fun _ m=>m)<|ab<|aV<| ?_
 exact bc trivial rfl rfl [] rfl [] rfl ⟨(by congr 1;rw[←Lib.contains_iff_indexByte];simp),rfl,rfl⟩
def gv(p:List UInt8):Prop:=p≠ []∧p.length≤96∧¬(0:UInt8)∈p
instance(p:List UInt8):Decidable (gv p):=by unfold gv;infer_instance
theorem yE(p:List UInt8):strOf p≠⟨#[]⟩↔p≠ []:=by
 rw[show(⟨#[]⟩:ByteArray)=strOf []from rfl]
 simp only[ne_eq,cJ]
theorem AK{p:List UInt8}:b7 Tryz.prog 115 [.string (strOf p)] [] [] (fun v_ X_ S_=>v_=(.bool (decide (gv p)))∧X_=[]∧S_=[]):=by
 have hsz:=cY p
 refine aM (N:=15) Tryz.func115 rfl rfl (by simp) fun b=> ?_
 refine ae<|ai<|aG rfl<|ag<|ab<|ae<|ai<|aw rfl<|hy (fun _=>qN rfl rfl)<|aw rfl<| ?_
 refine fj 5 rfl (fun h1=> ?_) (fun h1=> ?_)
 ·have h1' :=(yE p).1 h1
  refine cy (o:=_) rfl rfl rfl (fun _=>ah rfl)<|cy (o:=_) rfl rfl rfl (fun _=>cU rfl Tryz.underlying9)<|cy (o:=_) rfl rfl rfl (fun _=>mh rfl rfl)<|hy (fun _=>bC rfl rfl)<|aw rfl<| ?_
  refine fj 10 rfl (fun h2=> ?_) (fun h2=> ?_)
  ·have h2' :p.length≤96:=by omega
   refine cy (o:=_) rfl rfl rfl (fun _=>ah rfl)<| ?_
   refine HV (o:=_) rfl rfl rfl (aq rfl Tryz.call184 (wN) [] rfl [] rfl ?_)
   rintro _ _ _ ⟨rfl,rfl,rfl⟩
   refine cy (o:=_) rfl rfl rfl (fun _=>fl rfl)<|hy (fun _=>bC rfl rfl)<|aG rfl<|ag<|aB [2,0] rfl<|aj (X' :=[]) (S' :=[]) (fun _ m=>m)<|ab<|aV<| ?_
   exact bc trivial rfl rfl [] rfl [] rfl ⟨(by congr 1;simp only[gv];simp[h1',h2']),rfl,rfl⟩
  ·have h2' :¬p.length≤96:=by omega
   refine bg rfl rfl rfl (by decide)<|bg rfl rfl rfl (by decide)<|bg rfl rfl rfl (by decide)<|hy (fun _=>bo rfl rfl)<|aG rfl<|ag<|aB [2,0] rfl<|ab<|aV<| ?_
   exact bc trivial rfl rfl [] rfl [] rfl ⟨(by congr 1;simp only[gv];simp[h2']),rfl,rfl⟩
 ·have h1' :¬p≠ []:=fun h=>h1 ((yE p).2 h)
  refine bg rfl rfl rfl (by decide)<|bg rfl rfl rfl (by decide)<|bg rfl rfl rfl (by decide)<|hy (fun _=>bo rfl rfl)<|aw rfl<| ?_
  refine bg rfl rfl rfl (by decide)<|bg rfl rfl rfl (by decide)<|bg rfl rfl rfl (by decide)<|hy (fun _=>bo rfl rfl)<|aG rfl<|ag<|aB [2,0] rfl<|ab<|aV<| ?_
  exact bc trivial rfl rfl [] rfl [] rfl ⟨(by congr 1;simp only[gv];simp[h1']),rfl,rfl⟩
end Go.Proofs.YtmibdabdlgmafaaGreatDoor
end
section
set_option maxRecDepth 20000
namespace Go.Proofs.YtmibdabdlgmafaaGreatDoor
open Go.Eng Go.Hx
abbrev dY:=List (List UInt8×aR)
def en(l:dY):List (List UInt8×Value):=l.map fun x=>(x.1,x.2.val)
def mP(l:dY):Nat:=(l.map fun x=>x.2.n).sum
theorem nA:∀(l:dY) (p:List UInt8),bO (en l) p=(bO l p).map aR.val
 | [],p=>rfl
 |(k,r)::q,p=>by
  have:=nA q p
  simp only[en,List.map_cons,bO]at this ⊢
  split <;> simp_all
theorem rj:∀(l:dY) (p:List UInt8) (r:aR),cP (en l) p r.val=en (cP l p r)
 | [],p,r=>rfl
 |(k,u)::q,p,r=>by
  have:=rj q p r
  simp only[en,List.map_cons,cP]at this ⊢
  split <;> simp_all
theorem uj:∀(l:dY) (p:List UInt8),fv (en l) p=en (fv l p)
 | [],p=>rfl
 |(k,u)::q,p=>by
  have:=uj q p
  simp only[en,List.map_cons,fv]at this ⊢
  split <;> simp_all
theorem xP{l:dY}{j:Nat}{p:List UInt8×Value}(h:(en l)[j]? =some p):∃r,l[j]? =some (p.1,r)∧p.2=r.val:=by
 simp only[en,List.getElem?_map]at h
 cases hl:l[j]? with
 |none=>rw[hl]at h;cases h
 |some x=>
  rw[hl]at h
  simp only[Option.map_some,Option.some.injEq]at h
  subst h
  exact⟨x.2,rfl,rfl⟩
theorem mo(l:dY)(j:Nat):(en l).eraseIdx j=en (l.eraseIdx j):=(map_eraseIdx _ l j).symm
theorem r7:∀{l:dY} {j:Nat} {x:List UInt8×aR},l[j]? =some x→mP (l.eraseIdx j)+x.2.n=mP l
 | [],j,x,h=>by simp at h
 |a::q,0,x,h=>by
  simp only[List.getElem?_cons_zero,Option.some.injEq]at h
  subst h
  simp[mP];omega
 |a::q,j+1,x,h=>by
  simp only[List.getElem?_cons_succ]at h
  have:=r7 h
  simp only[mP,List.eraseIdx_cons_succ,List.map_cons,List.sum_cons]at this ⊢
  omega
inductive jF
 |written (p:List UInt8) (r:aR)
 |renamed (a b:List UInt8)
 |removed (p:List UInt8)
def jF.row:jF→Option aR
 | .written _ r=>some r
 |_=>none
def jF.val:jF→Value
 | .written p r=>.iface 189 (.agg [SV p,r.val].toArray)
 | .renamed a b=>.iface 257 (.agg [SV a,SV b].toArray)
 | .removed p=>.iface 237 (.agg [SV p].toArray)
structure da where
 room:Int
 gs:Nat
 gl:Nat
 seen:dY
 dm:dY
 waits:List jF
 wA:Option Addr
 wc:Nat
 ck:Int
def rowsOf(st:da):List aR:=st.seen.map (·.2)++st.dm.map (·.2)++st.waits.filterMap jF.row
def j1(st:da):List Value:=[.int .i64 st.room,.map (some st.gs),.map (some st.gl),.slice st.wA st.waits.length st.wc,.int .i64 st.ck]
abbrev bF(g:Nat)(st:da):bl:=eY [aH g 177 (j1 st),dV SV st.gs (en st.seen),dV SV st.gl (en st.dm),aK 232 1 (.slice st.wA st.waits.length st.wc) st.waits.length (st.waits.map jF.val),dH (rowsOf st)]
def mZ(n:Int)(gs gl:Nat):da:=⟨n,gs,gl,[],[],[],none,0,-1⟩
theorem J4{n:Int}(h1:1≤n)(h2:n≤1048576):b7 Tryz.prog 24 [.int .i64 n] [] [] (fun v_ X_ S_=>∃g gs gl,v_=(.tuple #[.pointer (some ⟨g,0,none⟩),.int .i64 0])∧X_=[bF g (mZ n gs gl)]∧S_=[]):=by
 refine aM (N:=15) Tryz.func24 rfl rfl (by simp) fun b=> ?_
 refine ae<|ai<|aG rfl<|aG rfl<|ag<|ab<|ae<|ae<|ai<|aw rfl<|hy (fun _=>bw rfl rfl)<|aw rfl<| ?_
 refine fj 6 rfl (fun h=> ?_) (fun h=> ?_)
 ·exact absurd h (by omega)
 ·refine cy (o:=_) rfl rfl rfl (fun _=>ah rfl)<|cy (o:=_) rfl rfl rfl (fun _=>cW rfl rfl)<|hy (fun _=>bo rfl rfl)<|ag<|aB [9,3,2,0] rfl<|ab<| ?_
  refine cN rfl (decide_eq_false (by omega)) ?_
  refine aC<|ab<|ae<|ai<|aw rfl<| ?_
  refine hx (nK SV (fun g11=> ?_))
  refine hx (nK SV (fun g12=> ?_))
  refine hy (fun _=>yV (bU Jm rfl rfl (by kernel_rfl) (.cons (o:=0) (sz:=1) (by kernel_rfl) rfl rfl (Nat.le_of_ble_eq_true rfl) (.cons (o:=1) (sz:=1) (by kernel_rfl) rfl rfl (Nat.le_of_ble_eq_true rfl) (.cons (o:=2) (sz:=1) (by kernel_rfl) rfl rfl (Nat.le_of_ble_eq_true rfl) (.cons (o:=4) (sz:=1) (by kernel_rfl) rfl rfl (Nat.le_of_ble_eq_true rfl) .nil))))) ((rfl:_=Value.agg (j1 (mZ n g11 g12)).toArray)))<| ?_
  refine hx (bu rfl (fun g14=> ?_))
  refine aG rfl<|aG rfl<|ag<|aB [3,2,9,0] rfl<|aj (X' :=[_,_,_]) (S' :=[]) (fun _ m=>m)<|ab<|aV<| ?_
  refine aj (fun w m=>m.cQ (r' :=aK 232 1 (.slice none 0 0) 0 []) (.refl _ _) (Own.nil _ _ _ _) (fun k hk=>hk.elim)) ?_
  refine aj (fun w m=>m.CU) ?_
  refine aj (X' :=bF g14 (mZ n g11 g12)::_) (fun w m=>(m.perm (ar [2,3,2,1,0] _ [_,_,_,_,_] _ rfl)).pack) ?_
  exact db trivial rfl rfl rfl [0] rfl [] rfl ⟨_,_,_,rfl,rfl,rfl⟩
theorem Kk{g:Nat}{st:da}:b7 Tryz.prog 87 [.pointer (some ⟨g,0,none⟩)] [bF g st] [] (fun v_ X_ S_=>v_=(.bool (decide (st.ck≠0)))∧X_=[bF g st]∧S_=[]):=by
 refine aM (N:=8) Tryz.func87 rfl rfl (by simp) fun b=> ?_
 refine bk (fun w m=>(m.perm (ar [0] _ [_] _ rfl)).unpack) ?_
 refine ae<|ai<|aG rfl<|ag<|ab<|ae<|ai<|aw rfl<|hy (fun _=>aO rfl)<|hy (fun _=>aF rfl nz (by decide))<|hy (fun m=>ao rfl dD (aA (m.aU 0 rfl) rfl))<|hy (fun _=>cT rfl rfl)<|aG rfl<|ag<|aB [2,0] rfl<|ab<|aV<| ?_
 refine aj (X' :=bF g st::_) (fun w m=>(m.perm (ar [0,0,0,0,0] _ [_,_,_,_,_] _ rfl)).pack) ?_
 exact bc trivial rfl rfl [0] rfl [] rfl ⟨rfl,rfl,rfl⟩
def da.fJ(st:da):da:={st with ck:=if 0<st.ck then st.ck-1 else st.ck}
theorem wv{g:Nat}{st:da}(hp:st.ck≤1000000000000):b7 Tryz.prog 181 [.pointer (some ⟨g,0,none⟩)] [bF g st] [] (fun v_ X_ S_=>v_=(.tuple #[])∧X_=[bF g st.fJ]∧S_=[]):=by
 refine aM (N:=14) Tryz.func181 rfl rfl (by simp) fun b=> ?_
 refine bk (fun w m=>(m.perm (ar [0] _ [_] _ rfl)).unpack) ?_
 refine ae<|ai<|aw rfl<|hy (fun _=>aO rfl)<|hy (fun _=>aF rfl nz (by decide))<|hy (fun m=>ao rfl dD (aA (m.aU 0 rfl) rfl))<|hy (fun _=>cW rfl rfl)<|ag<|aB [6,0] rfl<|ab<| ?_
 refine cB rfl (fun h=> ?_) (fun h=> ?_)
 ·have e:st.fJ={st with ck:=st.ck-1}:=by simp only[da.fJ,if_pos h]
  rw[e]
  refine ai<|aw rfl<|hy (fun _=>aO rfl)<|hy (fun _=>aF rfl nz (by decide))<|hy (fun m=>ao rfl dD (aA (m.aU 0 rfl) rfl))<|hy (fun _=>cn rfl rfl (bA (by omega) (by omega)))<|hy (fun _=>aO rfl)<|hy (fun _=>aF rfl nz (by decide))<| ?_
  refine cI (b9 0 rfl rfl rfl ue rfl (by first|exact Nat.le_of_ble_eq_true rfl|simp) ?_)
  refine ag<|aB [6,0] rfl<|aj (X' :=[_,_,_,_,_]) (S' :=[]) (fun _ m=>m)<| ?_
  refine aj (X' :=bF g {st with ck:=st.ck-1}::_) (fun w m=>(m.perm (ar [0,0,0,0,0] _ [_,_,_,_,_] _ rfl)).pack) ?_
  exact eU trivial rfl [0] rfl [] rfl ⟨rfl,rfl,rfl⟩
 ·have e:st.fJ=st:=by simp only[da.fJ,if_neg h]
  rw[e]
  refine aC<| ?_
  refine aj (X' :=bF g st::_) (fun w m=>(m.perm (ar [0,0,0,0,0] _ [_,_,_,_,_] _ rfl)).pack) ?_
  exact eU trivial rfl [0] rfl [] rfl ⟨rfl,rfl,rfl⟩
theorem Ik{g:Nat}{st:da}(ht:mP st.seen≤1000000000000):b7 Tryz.prog 88 [.pointer (some ⟨g,0,none⟩)] [bF g st] [] (fun v_ X_ S_=>v_=(.int .i64 (mP st.seen:Nat))∧X_=[bF g st]∧S_=[]):=by
 refine aM (N:=20) Tryz.func88 rfl rfl (by simp) fun b=> ?_
 refine bk (fun w m=>(m.perm (ar [0] _ [_] _ rfl)).unpack) ?_
 refine ae<|ai<|aG rfl<|ag<|ab<|ae<|ai<|aG rfl<|ag<|ab<|ae<|ae<|ai<|aw rfl<|hy (fun _=>aO rfl)<|hy (fun _=>aF rfl iZ (by decide))<|hy (fun m=>ao rfl pg (aA (m.aU 0 rfl) rfl))<| ?_
 refine hx (vS 1 rfl rfl Tryz.underlying174 (fun r10=> ?_))
 refine ag<|aB [10,3,2,0] rfl<|aj (X' :=[_,_,_,_,_]) (S' :=[]) (fun _ m=>m)<|ab<|aN<| ?_
 refine gJ (fun left n cur=>left.length) (fun left n cur=>[(3,.int .i64 (n:Nat))]) (fun left n cur=>[k9 SV r10 st.gs (en st.seen) (en left) cur]) (fun left n cur=>[]) (fun left n cur=>n+mP left=mP st.seen) st.seen 0 none [(10,_),(2,_),(0,_)] ⟨rfl,rfl,rfl,trivial⟩ [0] rfl [] rfl (Nat.zero_add _) ⟨rfl,trivial⟩ (fun left n cur hI=> ?_)
 refine ae<|ai<| ?_
 refine hx (yi 0 rfl rfl (fun h0=> ?_) (fun j p hp=> ?_))
 ·obtain rfl:left=[]:=List.map_eq_nil_iff.1 h0
  have hn:n=mP st.seen:=by simpa[mP]using hI
  subst hn
  refine hy (fun _=>aD rfl rfl)<|ag<|aB [12,3,10,2,0] rfl<|ab<|ae<| ?_
  refine cN rfl (rfl) ?_
  refine bG<|an<|an<|aE<|ab<|ae<|ai<|aw rfl<|aG rfl<|ag<|aB [2,12,3,10,0] rfl<|ab<|aV<| ?_
  refine aj (fun w m=>m.Ab 0 rfl) ?_
  refine aj (X' :=bF g st::_) (fun w m=>(m.perm (ar [1,0,0,0,0] _ [_,_,_,_,_] _ rfl)).pack) ?_
  exact bc trivial rfl rfl [0] rfl [] rfl ⟨rfl,rfl,rfl⟩
 ·obtain⟨k,v⟩:=p
  obtain⟨r,hr,e⟩:=xP hp
  obtain rfl:v=r.val:=e
  have ht:=r7 hr
  have hlt:=(List.getElem?_eq_some_iff.1 hr).1
  simp only at ht
  refine hy (fun _=>aD rfl rfl)<|ag<|aB [12,3,10,2,0] rfl<|ab<|ae<| ?_
  refine fq rfl (rfl) ?_
  refine aC<|ab<|aN<|ae<|ai<|hy (fun m=>vd rfl (m.I0 0 rfl))<|hy (fun _=>yV (aD rfl rfl) ((rfl:_=Value.slice r.A r.n r.c)))<|aG rfl<|ag<|aB [5,12,3,10,2,0] rfl<|ab<|ai<|aw rfl<|aw rfl<|hy (fun _=>aY rfl Tryz.underlying27)<|hy (fun _=>aP rfl rfl (bA (by omega) (by omega)))<|aG rfl<|ag<|aB [3,5,12,10,2,0] rfl<|aS<| ?_
  refine aj (fun w m=>m.bz 0 rfl (show _=k9 SV r10 st.gs (en st.seen) (en (left.eraseIdx j)) (some (k,r.val))from congrArg (fun q=>k9 SV r10 st.gs (en st.seen) q (some (k,r.val))) (mo left j))) ?_
  refine fD (left.eraseIdx j) (n+r.n) (some (k,r.val)) ⟨rfl,rfl,rfl,rfl,trivial⟩ [0,0,0,0,0] rfl [] rfl (by omega) (by rw[List.length_eraseIdx,if_pos hlt];omega)
theorem ql{l:dY}(p:List UInt8):(bO l p=none∧bO (en l) p=none)∨∃r,bO l p=some r∧bO (en l) p=some r.val:=by
 rw[nA]
 cases bO l p with
 |none=>exact .inl ⟨rfl,rfl⟩
 |some r=>exact .inr ⟨r,rfl,rfl⟩
def eJ(st:da)(p:List UInt8):Int:=if st.ck=0 then 6 else if bO st.seen p=none then 4 else 0
theorem AW{g:Nat}{st:da}{p:List UInt8}:b7 Tryz.prog 158 [.pointer (some ⟨g,0,none⟩),.string (strOf p)] [bF g st] [] (fun v_ X_ S_=>v_=(.int .i64 (eJ st p))∧X_=[bF g st]∧S_=[]):=by
 have hf:eJ st p=eJ st p:=rfl
 refine aM (N:=23) Tryz.func158 rfl rfl (by simp) fun b=> ?_
 refine bk (fun w m=>(m.perm (ar [0] _ [_] _ rfl)).unpack) ?_
 have hh:(bO (en st.seen) p).isSome=decide (bO st.seen p≠none):=by
  rcases ql (l:=st.seen) p with⟨h1,h2⟩|⟨r,h1,h2⟩ <;> simp[h1,h2]
 refine ae<|ai<|aG rfl<|ag<|ab<|ae<|ai<|aw rfl<|hy (fun _=>aO rfl)<|hy (fun _=>aF rfl iZ (by decide))<|hy (fun m=>ao rfl pg (aA (m.aU 0 rfl) rfl))<|aw rfl<|hy (fun m=>fy (enc:=SV) rfl rfl Tryz.underlying174 kZ (kW Tryz.underlying9) (m.lS 1 rfl))<|aw rfl<|hy (fun _=>aD rfl rfl)<|hy (fun _=>yV (aD rfl rfl) ((show Value.bool (bO (en st.seen) p).isSome= .bool (decide (bO st.seen p≠none)) by rw[hh])))<|aG rfl<|aG rfl<|ag<|aB [6,4,0,1] rfl<|ab<|ae<|aN<|ae<|ai<| ?_
 refine aJ (X' :=bF g st::_) (fun w m=>(m.perm (ar [0,0,0,0,0] _ [_,_,_,_,_] _ rfl)).pack) ?_
 refine aw rfl<| ?_
 refine hx (aq rfl Tryz.call87 (Kk) [0] rfl [] rfl ?_)
 rintro _ _ _ ⟨rfl,rfl,rfl⟩
 refine hy (fun _=>fl rfl)<|aG rfl<|ag<|aB [16,6,4,0,1] rfl<|aj (X' :=[_]) (S' :=[]) (fun _ m=>m)<|ab<| ?_
 refine cB rfl (fun h1=> ?_) (fun h1=> ?_)
 ·refine ae<|ai<|aG rfl<|ag<|ab<|aV<|a7<|ay<| ?_
  exact bc trivial rfl rfl [0] rfl [] rfl ⟨(by rw[eJ,if_pos (by omega)]),rfl,rfl⟩
 ·refine ae<|ai<|aw rfl<|hy (fun _=>fl rfl)<|aG rfl<|ag<|aB [20,16,6,4,0,1] rfl<|ab<| ?_
  refine cB rfl (fun h2=> ?_) (fun h2=> ?_)
  ·refine ae<|ai<|aG rfl<|ag<|ab<|aV<|a7<|ay<| ?_
   exact bc trivial rfl rfl [0] rfl [] rfl ⟨(by rw[eJ,if_neg (by omega),if_pos (Decidable.not_not.1 h2)]),rfl,rfl⟩
  ·refine aC<|aS<|ab<|ae<|ai<|aG rfl<|ag<|ab<|aV<| ?_
   exact bc trivial rfl rfl [0] rfl [] rfl ⟨(by rw[eJ,if_neg (by omega),if_neg (fun e=>h2 (fun h=>h e))]),rfl,rfl⟩
end Go.Proofs.YtmibdabdlgmafaaGreatDoor
end
section
set_option maxRecDepth 20000
namespace Go.Proofs.YtmibdabdlgmafaaGreatDoor
open Go.Eng Go.Hx
theorem vv{st:da}{p:List UInt8}{r:aR}(h:bO st.seen p=some r):r∈rowsOf st:=by
 unfold rowsOf
 refine List.mem_append_left _ (List.mem_append_left _ ?_)
 exact List.mem_map.2 ⟨_,jR h,rfl⟩
def cS(st:da)(p:List UInt8):List UInt8:=if eJ st p=0 then((bO st.seen p).map (·.l)).getD []else []
theorem vN{st:da}{p:List UInt8}(h:eJ st p≠0):cS st p=[]:=by rw[cS,if_neg h]
theorem vb{st:da}{p:List UInt8}{r:aR}(h:eJ st p=0)(hr:bO st.seen p=some r):cS st p=r.l:=by rw[cS,if_pos h,hr];rfl
theorem vf{st:da}{p:List UInt8}(h:eJ st p=0):∃r,bO st.seen p=some r:=by
 unfold eJ at h
 split at h
 ·omega
 ·split at h
  ·omega
  ·rename_i h2
   cases hq:bO st.seen p with
   |none=>exact absurd hq h2
   |some r=>exact⟨r,rfl⟩
def Small(st:da):Prop:=∀r∈rowsOf st,r.n≤1000000000
theorem JD{g:Nat}{st:da}{p:List UInt8}(hs:Small st):b7 Tryz.prog 90 [.pointer (some ⟨g,0,none⟩),.string (strOf p)] [bF g st] [] (fun v_ X_ S_=>∃v,v_=(.tuple #[v,.int .i64 (eJ st p)])∧X_=[bF g st,aK 5 1 v (cS st p).length (aW (cS st p))]∧S_=[]):=by
 refine aM (N:=20) Tryz.func90 rfl rfl (by simp) fun b=> ?_
 refine ae<|ai<|aG rfl<|aG rfl<|ag<|ab<|ae<|ae<|ai<|aw rfl<|aw rfl<| ?_
 refine hx (aq rfl Tryz.call158 (AW) [0] rfl [] rfl ?_)
 rintro _ _ _ ⟨rfl,rfl,rfl⟩
 refine aG rfl<|ag<|aB [6,5,4,0,1] rfl<|aj (X' :=[_]) (S' :=[]) (fun _ m=>m)<|ab<|ae<|ai<|aw rfl<|hy (fun _=>cT rfl rfl)<|ag<|aB [11,6,5,4,0,1] rfl<|ab<| ?_
 refine cB rfl (fun h=> ?_) (fun h=> ?_)
 ·rw[vN h]
  refine ae<|ai<|aw rfl<|aG rfl<|aG rfl<|ag<|aB [5,4,11,6,0,1] rfl<|ab<|aV<|ay<| ?_
  refine aj (fun w m=>m.cQ (r' :=aK 5 1 (.slice none 0 0) 0 []) (.refl _ _) (Own.nil _ _ _ _) (fun k hk=>hk.elim)) ?_
  exact db trivial rfl rfl rfl [1,0] rfl [] rfl ⟨_,rfl,rfl,rfl⟩
 ·have h0:=Decidable.not_not.1 h
  obtain⟨r,hr⟩:=vf h0
  have hv:bO (en st.seen) p=some r.val:=by rw[nA,hr];rfl
  rw[vb h0 hr,h0]
  have hmem:=vv hr
  obtain⟨i,hi⟩:=List.mem_iff_getElem?.1 hmem
  have hsm:=hs r hmem
  refine bk (fun w m=>(m.perm (ar [0] _ [_] _ rfl)).unpack) ?_
  refine a6 (fun m=>eG ((View.ok (View.row hi)).1 _ (m.Kd 4 rfl))) fun hrl=> ?_
  have hrl:=hrl.1
  refine aC<|ab<|ae<|ai<|aw rfl<|hy (fun _=>aO rfl)<|hy (fun _=>aF rfl iZ (by decide))<|hy (fun m=>ao rfl pg (aA (m.aU 0 rfl) rfl))<|aw rfl<|hy (fun m=>yV (fy (enc:=SV) rfl rfl Tryz.underlying174 kZ (kW Tryz.underlying9) (m.lS 1 rfl)) ((show eN false (.slice none 0 0) (bO (en st.seen) p)= .slice r.A r.n r.c by rw[hv];rfl)))<| ?_
  refine hx (c6 rfl Tryz.call117 (mN (by omega)) [] rfl (.x 4 rfl (View.row hi) .nil) ?_)
  rintro _ _ _ ⟨v,rfl,rfl,rfl⟩
  refine⟨rfl, ?_⟩
  refine az (fun m=>(m.own 0 rfl).slice) ?_
  rintro⟨A_x,c_x,rfl,hc_x⟩
  refine az (fun m=>(m.ord 0 rfl).2.1) fun hA_x=> ?_
  refine aG rfl<|aG rfl<|ag<|aB [5,4,11,6,0,1] rfl<|aj (X' :=[_,_,_,_,_,_]) (S' :=[]) (fun _ m=>m)<|ab<|aV<| ?_
  refine aj (X' :=bF g st::_) (fun w m=>(m.perm (ar [1,1,1,1,1] _ [_,_,_,_,_] _ rfl)).pack) ?_
  exact db trivial rfl rfl rfl [0,0] rfl [] rfl ⟨_,rfl,(by rw[hrl]),rfl⟩
theorem GR{g:Nat}{l:List (List UInt8×Value)}{p:List UInt8}{r:aR}:b7 Tryz.prog 153 [.agg [SV p,r.val].toArray,.map (some g)] [dV SV g l] [] (fun v_ X_ S_=>v_=(.tuple #[])∧X_=[dV SV g (cP l p r.val)]∧S_=[]):=by
 refine aM (N:=9) Tryz.func153 rfl rfl (by simp) fun b=> ?_
 refine ae<|ai<| ?_
 refine hx (bu rfl (fun g2=> ?_))
 refine ag<|aj (X' :=[_,_]) (S' :=[]) (fun _ m=>m)<|ab<|ai<|aw rfl<|hy (fun _=>aF rfl Ey (by decide))<|hy (fun m=>ao rfl mG (aA (m.aU 0 rfl) rfl))<|hy (fun _=>aF rfl Dj (by decide))<|hy (fun m=>ao rfl dB (aA (m.aU 0 rfl) rfl))<| ?_
 refine cI (qu (enc:=SV) 1 rfl rfl rfl rfl Tryz.underlying174 (kW Tryz.underlying9) ?_)
 refine ag<|aB [2,0,1] rfl<|aj (X' :=[_,_]) (S' :=[]) (fun _ m=>m)<| ?_
 exact eU trivial rfl [0] rfl [] rfl ⟨rfl,rfl,rfl⟩
theorem oL{l:dY}{p:List UInt8}{r x:aR}(h:x∈(cP l p r).map (·.2)):x∈l.map (·.2)∨x=r:=by
 induction l with
 |nil=>simp only[cP,List.map_cons,List.map_nil,List.mem_singleton]at h;exact .inr h
 |cons a q ih=>
  obtain⟨k,u⟩:=a
  simp only[cP]at h
  split at h
  ·simp only[List.map_cons,List.mem_cons]at h ⊢
   rcases h with rfl|h
   ·exact .inr rfl
   ·exact .inl (.inr h)
  ·simp only[List.map_cons,List.mem_cons]at h ⊢
   rcases h with rfl|h
   ·exact .inl (.inl rfl)
   ·rcases ih h with h|h
    ·exact .inl (.inr h)
    ·exact .inr h
def da.wrote(st:da)(p:List UInt8)(r:aR)(A:Option Addr)(c:Nat):da:={st.fJ with seen:=cP st.seen p r,waits:=st.waits++[.written p r],wA:=A,wc:=c}
theorem rk{st:da}{p:List UInt8}{r:aR}{A:Option Addr}{c:Nat}:∀x∈rowsOf (st.wrote p r A c),x∈rowsOf st∨x=r:=by
 intro x hx
 unfold rowsOf da.wrote at hx
 simp only[da.fJ,List.mem_append,List.filterMap_append]at hx
 unfold rowsOf
 simp only[List.mem_append]
 rcases hx with(h|h)|h|h
 ·rcases oL h with h|h
  ·exact .inl (.inl (.inl h))
  ·exact .inr h
 ·exact .inl (.inl (.inr h))
 ·exact .inl (.inr h)
 ·simp[jF.row]at h
  exact .inr h
theorem Ka{g:Nat}{st:da}{p:List UInt8}{r:aR}{e:TypeId}(hp:st.ck≤1000000000000)(hw:st.waits.length≤1000000):b7 Tryz.prog 116 [.pointer (some ⟨g,0,none⟩),(jF.written p r).val] [bF g st,aK e 1 (.slice r.A r.n r.c) r.n (aW r.l)] [] (fun v_ X_ S_=>∃A c,v_=(.tuple #[])∧X_=[bF g (st.wrote p r A c)]∧S_=[]):=by
 have hsw:st.fJ.waits.length=st.waits.length:=rfl
 refine aM (N:=25) Tryz.func116 rfl rfl (by simp) fun b=> ?_
 refine ae<|ai<|aw rfl<| ?_
 refine hx (aq rfl Tryz.call181 (wv (by omega)) [0] rfl [] rfl ?_)
 rintro _ _ _ ⟨rfl,rfl,rfl⟩
 refine aJ (fun w m=>(m.perm (ar [0] _ [_] _ rfl)).unpack) ?_
 refine ag<|aB [0,1] rfl<|aj (X' :=[_,_,_,_,_,_]) (S' :=[]) (fun _ m=>m)<|ab<|ae<|cD [8] [(0,some 0),(1,some 0),(2,some 0),(3,some 0),(4,some 0),(5,some 0),(6,some 0),(7,some 0),(8,none)] (by kernel_rfl) (by kernel_rfl) rfl 0<|ak (ah rfl)<|ak (ah rfl)<|ak (aO rfl)<|ak (aF rfl iZ (by decide))<|bZ (fun m=>ao rfl pg (aA (m.aU 0 rfl) rfl))<|ak (fU rfl rfl)<|ak (AT rfl (by kernel_rfl))<|ak (ah rfl)<| ?_
 refine dF (As rfl rfl (fun w=>by kernel_rfl) Tryz.call153 (GR) [1] rfl [] rfl ?_)
 rintro _ _ _ ⟨rfl,rfl,rfl⟩
 refine⟨(fun h=>absurd h (by decide)), ?_⟩
 refine bq<|aB [0,1] rfl<|aj (X' :=[_,_,_,_,_,_]) (S' :=[]) (fun _ m=>m)<|ab<|ai<|aw rfl<|aw rfl<|hy (fun _=>aO rfl)<|hy (fun _=>aF rfl lv (by decide))<|hy (fun m=>ao rfl Cf (aA (m.aU 1 rfl) rfl))<|aw rfl<| ?_
 refine hx (bQ Tryz.underlying175 x3 rfl rfl rfl (by simp[Value.cells,jF.val]) (by decide) (by decide) (fun g21=> ?_))
 have hA_b21:0<1→(some (⟨g21,0,none⟩:Addr))≠none:=fun _ h=>by cases h
 refine aJ (fun w m=>m.bz 0 rfl (show _=aK 232 1 (.slice (some ⟨g21,0,none⟩) 1 1) 1 [(jF.written p r).val]from rfl)) ?_
 refine hx (bs 4 rfl rfl rfl Tryz.underlying175 Tryz.underlying175 (by exact .inl rfl) x3 rfl (fun m=>Src.bJ (m.ord 0 rfl)) (by simp[jF.val,Value.oneCell']) (by unfold maxLen;omega) (by omega) (fun u=> ?_))
 refine az (fun m=>(m.own 0 rfl).slice) ?_
 rintro⟨A_d3,c_d3,rfl,hc_d3⟩
 refine az (fun m=>(m.ord 0 rfl).2.1) fun hA_d3=> ?_
 refine hy (fun _=>aO rfl)<|hy (fun _=>aF rfl lv (by decide))<| ?_
 refine cI (b9 3 rfl rfl rfl Af rfl (by first|exact Nat.le_of_ble_eq_true rfl|simp) ?_)
 refine ag<|aB [0,1] rfl<|aj (X' :=[_,_,_,_,_,_,_]) (S' :=[]) (fun _ m=>m)<| ?_
 refine aj (fun w m=>m.bz 0 rfl (show _=aH g 177 (j1 (st.wrote p r A_d3 c_d3))from by simp[j1,da.wrote,da.fJ])) ?_
 refine aj (fun w m=>m.bz 3 rfl (show _=dV SV st.gs (en (st.wrote p r A_d3 c_d3).seen)from congrArg (dV SV st.gs) (rj _ _ _))) ?_
 refine aj (fun w m=>m.bz 2 rfl (show _=aK 232 1 (.slice A_d3 (st.wrote p r A_d3 c_d3).waits.length c_d3) (st.wrote p r A_d3 c_d3).waits.length ((st.wrote p r A_d3 c_d3).waits.map jF.val)from by simp[da.wrote,da.fJ])) ?_
 refine aj (X' :=dH (rowsOf (st.wrote p r A_d3 c_d3))::_) (fun w m=>(m.perm (ar [5,5] _ [_,_] _ rfl)).BL (rk)) ?_
 refine aj (X' :=bF g (st.wrote p r A_d3 c_d3)::_) (fun w m=>(m.perm (ar [3,2,3,1,0] _ [_,_,_,_,_] _ rfl)).pack) ?_
 exact eU trivial rfl [0] rfl [] rfl ⟨_,_,rfl,rfl,rfl⟩
def bX(st:da)(p:List UInt8)(n:Nat):Int:=if¬gv p then 1 else if st.ck=0 then 6 else if st.room<(mP st.seen:Int)-(((bO st.seen p).map (·.n)).getD 0:Nat)+n then 5 else 0
theorem BM:∀{l:dY} {m:Nat},(∀x∈l,x.2.n≤m)→mP l≤l.length*m
 | [],m,h=>by simp[mP]
 |a::q,m,h=>by
  have:=BM (l:=q) (m:=m) (fun x hx=>h x (List.mem_cons_of_mem _ hx))
  have h1:=h a (List.mem_cons_self ..)
  simp only[mP,List.map_cons,List.sum_cons,List.length_cons,Nat.add_mul]at this ⊢
  omega
structure pQ(st:da)(k:Nat):Prop where
 ck:st.ck≤1000000000000
 room:st.room≤1048576
 seen:st.seen.length≤k
 rest:st.dm.length+st.waits.length≤k
 small:∀r∈rowsOf st,r.n≤1048576
theorem pQ.le{st:da}{k k' :Nat}(h:pQ st k)(hk:k≤k'):pQ st k' :=⟨h.ck,h.room,Nat.le_trans h.seen hk,Nat.le_trans h.rest hk,h.small⟩
theorem pQ.mP{st:da}{k:Nat}(h:pQ st k):mP st.seen≤k*1048576:=Nat.le_trans (BM (m:=1048576) (fun x hx=>h.small _ (by unfold rowsOf;exact List.mem_append_left _ (List.mem_append_left _ (List.mem_map.2 ⟨x,hx,rfl⟩))))) (Nat.mul_le_mul_right _ h.seen)
theorem pQ.sm{st:da}{k:Nat}(h:pQ st k):Small st:=fun r hr=>Nat.le_trans (h.small r hr) (by decide)
theorem pQ.init{n:Int}{gs gl:Nat}(h:n≤1048576):pQ (mZ n gs gl) 0:=⟨by simp[mZ],h,Nat.le_refl _,Nat.le_refl _,fun r hr=>by simp[rowsOf,mZ]at hr⟩
theorem q8(l:dY)(p:List UInt8)(r:aR):(cP l p r).length≤l.length+1:=by
 induction l with
 |nil=>simp[cP]
 |cons a q ih=>
  obtain⟨k,u⟩:=a
  simp only[cP]
  split <;> simp only[List.length_cons] <;> omega
theorem vP(l:dY)(p:List UInt8):(fv l p).length≤l.length:=by
 induction l with
 |nil=>simp[fv]
 |cons a q ih=>
  obtain⟨k,u⟩:=a
  simp only[fv]
  split <;> simp only[List.length_cons] <;> omega
theorem kI{st:da}(h:st.ck≤1000000000000):st.fJ.ck≤1000000000000:=by
 simp only[da.fJ]
 split <;> omega
theorem pQ.wrote{st:da}{k:Nat}(h:pQ st k){p:List UInt8}{r:aR}(hr:r.n≤1048576)(A:Option Addr)(c:Nat):pQ (st.wrote p r A c) (k+1):=by
 refine⟨kI h.ck,h.room, ?_, ?_,fun x hx=> ?_⟩
 ·have:=q8 st.seen p r
  have:=h.seen
  show(cP st.seen p r).length≤k+1
  omega
 ·have:=h.rest
  show st.dm.length+(st.waits++[jF.written p r]).length≤k+1
  simp only[List.length_append,List.length_cons,List.length_nil]
  omega
 ·rcases rk x hx with h' |rfl
  ·exact h.small x h'
  ·exact hr
theorem F8{g:Nat}{st:da}{p:List UInt8}{A:Option Addr}{n c:Nat}{l:List UInt8}{k:Nat}(ok:pQ st k)(hk:k≤100000)(hn:n≤1048576):b7 Tryz.prog 33 [.pointer (some ⟨g,0,none⟩),.string (strOf p),.slice A n c] [bF g st] [cL 1 A n (aW l)] (fun v_ X_ S_=>∃st1 B c1 A1 c2,v_=(.int .i64 (bX st p n))∧X_=[bF g st1]∧S_=[]∧((bX st p n≠0∧st1=st)∨(bX st p n=0∧st1=st.wrote p ⟨B,n,c1,l⟩ A1 c2))):=by
 have hp:=ok.ck
 have hw:st.waits.length≤1000000:=by have:=ok.rest;omega
 have ht:mP st.seen≤1000000000000:=by have:=ok.mP;omega
 have hs:=ok.sm
 refine aM (N:=41) Tryz.func33 rfl rfl (by simp) fun b=> ?_
 refine a6 (fun m=>eG (m.rd 0 rfl)) ?_
 rintro⟨hl_r,hA_r⟩
 refine ae<|ai<|aG rfl<|ag<|ab<|ae<|aN<|ae<|ai<|aw rfl<| ?_
 refine hx (aq rfl Tryz.call115 (AK) [] rfl [] rfl ?_)
 rintro _ _ _ ⟨rfl,rfl,rfl⟩
 refine hy (fun _=>fl rfl)<|aG rfl<|ag<|aB [7,6,0,1,2] rfl<|aj (X' :=[_]) (S' :=[_]) (fun _ m=>m)<|ab<| ?_
 refine cB rfl (fun h1=> ?_) (fun h1=> ?_)
 ·have e:bX st p n=1:=by rw[bX,if_pos h1]
  rw[e]
  refine ae<|ai<|aG rfl<|ag<|ab<|aV<|a7<|ay<| ?_
  exact bc trivial rfl rfl [0] rfl [] rfl ⟨_,none,0,none,0,rfl,rfl,rfl,.inl ⟨by decide,rfl⟩⟩
 ·refine ae<|ai<|aw rfl<| ?_
  refine hx (aq rfl Tryz.call87 (Kk) [0] rfl [] rfl ?_)
  rintro _ _ _ ⟨rfl,rfl,rfl⟩
  refine hy (fun _=>fl rfl)<|aG rfl<|ag<|aB [11,7,6,0,1,2] rfl<|aj (X' :=[_]) (S' :=[_]) (fun _ m=>m)<|ab<| ?_
  refine cB rfl (fun h2=> ?_) (fun h2=> ?_)
  ·have e:bX st p n=6:=by rw[bX,if_neg h1,if_pos (by omega)]
   rw[e]
   refine ae<|ai<|aG rfl<|ag<|ab<|aV<|a7<|ay<| ?_
   exact bc trivial rfl rfl [0] rfl [] rfl ⟨_,none,0,none,0,rfl,rfl,rfl,.inl ⟨by decide,rfl⟩⟩
  ·have hwe:bX st p n=if st.room<(mP st.seen:Int)-(((bO st.seen p).map (·.n)).getD 0:Nat)+n then 5 else 0:=by rw[bX,if_neg h1,if_neg (by omega)]
   have hv:∃B m c0,eN false (.slice none 0 0) (bO (en st.seen) p)= .slice B m c0∧m=((bO st.seen p).map (·.n)).getD 0∧m≤1000000000:=by
    rw[nA]
    cases hq:bO st.seen p with
    |none=>exact⟨none,0,0,rfl,rfl,by decide⟩
    |some r=>exact⟨r.A,r.n,r.c,rfl,rfl,hs r (vv hq)⟩
   obtain⟨B,m,c0,hv1,hv2,hv3⟩:=hv
   rw[←hv2]at hwe
   refine ae<|cD [1] [(0,some 0),(2,some 1),(3,some 1),(4,some 1),(5,some 1),(6,some 1),(7,some 1),(8,some 1),(10,some 1),(11,some 1),(13,some 1),(14,some 1),(15,some 1),(16,some 1),(1,none),(9,some 1),(12,some 1),(17,some 1),(18,some 1)] (by kernel_rfl) (by kernel_rfl) rfl 99<|ak (ah rfl)<|ak (ah rfl)<|ak (aO rfl)<|ak (aF rfl iZ (by decide))<|bZ (fun m=>ao rfl pg (aA (show eQ _ _ _ _ from m.JF 0 rfl 0 rfl) rfl))<|ak (ah rfl)<|bZ (fun m=>yV (fy (enc:=SV) rfl rfl Tryz.underlying174 kZ (kW Tryz.underlying9) (show gU _ _ _ _ from m.JF 0 rfl 1 rfl)) (hv1))<|ak (aY rfl Tryz.underlying27)<|ak (ah rfl)<|ak (aY rfl Tryz.underlying27)<|ak (ah rfl)<|ak (aO rfl)<|ak (aF rfl E6 (by decide))<|bZ (fun m=>ao rfl dD (aA (show eQ _ _ _ _ from m.JF 0 rfl 0 rfl) rfl))<| ?_
   refine dF (aq rfl Tryz.call88 (Ik (by omega)) [0] rfl [] rfl ?_)
   rintro _ _ _ ⟨rfl,rfl,rfl⟩
   refine⟨(fun _=>wk [0] [0] rfl rfl), ?_⟩
   refine ak (cn rfl rfl (bA (by omega) (by omega)))<|ak (aP rfl rfl (bA (by omega) (by omega)))<|ak (cW rfl rfl)<|ak (al rfl)<|bq<|aB [15,11,7,6,0,1,2] rfl<|aj (X' :=[_]) (S' :=[_]) (fun _ m=>m)<|ab<| ?_
   refine cB rfl (fun h3=> ?_) (fun h3=> ?_)
   ·rw[if_pos (by omega)]at hwe
    rw[hwe]
    refine ae<|ai<|aG rfl<|ag<|ab<|aV<|a7<|ay<| ?_
    exact bc trivial rfl rfl [0] rfl [] rfl ⟨_,none,0,none,0,rfl,rfl,rfl,.inl ⟨by decide,rfl⟩⟩
   ·rw[if_neg (by omega)]at hwe
    rw[hwe]
    refine aC<|aS<|ab<|ae<|ai<|aw rfl<|aw rfl<|aw rfl<| ?_
    refine hx (aq rfl Tryz.call117 (mN (by omega)) [] rfl [0] rfl ?_)
    rintro _ _ _ ⟨v,rfl,rfl,rfl⟩
    refine az (fun m=>(m.own 0 rfl).slice) ?_
    rintro⟨A_x,c_x,rfl,hc_x⟩
    refine az (fun m=>(m.ord 0 rfl).2.1) fun hA_x=> ?_
    refine hy (fun _=>yV (bU I4 rfl rfl (by kernel_rfl) (.cons (o:=0) (sz:=1) (by kernel_rfl) rfl rfl (Nat.le_of_ble_eq_true rfl) (.cons (o:=1) (sz:=1) (by kernel_rfl) rfl rfl (Nat.le_of_ble_eq_true rfl) .nil))) ((rfl:_=Value.agg [SV p,Value.slice A_x n c_x].toArray)))<|hy (fun _=>l9 rfl Tryz.underlying189 (fun _ h=>by cases h))<| ?_
    refine hx (aq rfl Tryz.call116 (Ka (by omega) (by omega) (r:=⟨A_x,n,c_x,l⟩)) [1,0] rfl [] rfl ?_)
    rintro _ _ _ ⟨A2,c2,rfl,rfl,rfl⟩
    refine ag<|aB [15,11,7,6,0,1,2] rfl<|aj (X' :=[_]) (S' :=[_]) (fun _ m=>m)<|ab<|ae<|ai<|aG rfl<|ag<|ab<|aV<| ?_
    exact bc trivial rfl rfl [0] rfl [] rfl ⟨_,_,_,_,_,rfl,rfl,rfl,.inr ⟨rfl,rfl⟩⟩
theorem DU{g:Nat}{l:List (List UInt8×Value)}:b7 Tryz.prog 154 [.map (some g)] [dV SV g l] [] (fun v_ X_ S_=>∃g1,v_=(.map (some g1))∧X_=[dV SV g l,dV SV g1 l]∧S_=[]):=by
 refine aM (N:=9) Tryz.func154 rfl rfl (by simp) fun b=> ?_
 refine ae<|ai<|aG rfl<|ag<|ab<|ae<|ae<|ai<|aw rfl<|hy (fun _=>G1 rfl rfl Tryz.underlying174)<|ag<|aB [4,2,0] rfl<|ab<| ?_
 refine cN rfl (rfl) ?_
 refine aC<|ab<|ae<|ai<|aw rfl<|hy (fun _=>l9 rfl Tryz.underlying174 (fun _ h=>by cases h))<| ?_
 refine hx (zk 0 rfl rfl Tryz.func209 (by kernel_rfl) (by kernel_rfl) (by kernel_rfl) (by kernel_rfl) (fun g1=> ?_))
 refine hy (fun _=>sb rfl (show _=Result.ok (Value.map (some g1)) _ by kernel_rfl))<|aG rfl<|ag<|aB [2,4,0] rfl<|aj (X' :=[_,_]) (S' :=[]) (fun _ m=>m)<|ab<|aV<| ?_
 exact bc trivial rfl rfl [1,0] rfl [] rfl ⟨_,rfl,rfl,rfl⟩
def da.synced(st:da)(gl:Nat):da:={st.fJ with gl:=gl,dm:=st.seen,waits:=[],wA:=none,wc:=0}
def dM(st:da):Int:=if st.ck=0 then 6 else 0
theorem pj{st:da}{gl:Nat}:∀x∈rowsOf (st.synced gl),x∈rowsOf st:=by
 intro x hx
 unfold rowsOf da.synced at hx
 simp only[da.fJ,List.filterMap_nil,List.append_nil,List.mem_append,or_self]at hx
 unfold rowsOf
 exact List.mem_append_left _ (List.mem_append_left _ hx)
theorem pQ.synced{st:da}{k:Nat}(h:pQ st k)(gl:Nat):pQ (st.synced gl) k:=
 ⟨kI h.ck,h.room,h.seen,by show st.seen.length+0≤k;have:=h.seen;omega,fun x hx=>h.small x (pj x hx)⟩
theorem I7{g:Nat}{st:da}{k:Nat}(ok:pQ st k):b7 Tryz.prog 110 [.pointer (some ⟨g,0,none⟩)] [bF g st] [] (fun v_ X_ S_=>∃st1 gl,v_=(.int .i64 (dM st))∧X_=[bF g st1]∧S_=[]∧((st.ck=0∧st1=st)∨(st.ck≠0∧st1=st.synced gl))):=by
 refine aM (N:=19) Tryz.func110 rfl rfl (by simp) fun b=> ?_
 refine ae<|ai<|aG rfl<|ag<|ab<|ae<|ae<|ai<|aw rfl<| ?_
 refine hx (aq rfl Tryz.call87 (Kk) [0] rfl [] rfl ?_)
 rintro _ _ _ ⟨rfl,rfl,rfl⟩
 refine hy (fun _=>fl rfl)<|ag<|aB [5,2,0] rfl<|aj (X' :=[_]) (S' :=[]) (fun _ m=>m)<|ab<| ?_
 refine cB rfl (fun h1=> ?_) (fun h1=> ?_)
 ·have h0:st.ck=0:=Decidable.not_not.1 h1
  have e:dM st=6:=by rw[dM,if_pos h0]
  rw[e]
  refine ae<|ai<|aG rfl<|ag<|ab<|aV<|ay<| ?_
  exact bc trivial rfl rfl [0] rfl [] rfl ⟨_,0,rfl,rfl,rfl,.inl ⟨h0,rfl⟩⟩
 ·have h0:st.ck≠0:=fun e=>h1 (fun h=>h e)
  have e:dM st=0:=by rw[dM,if_neg h0]
  rw[e]
  have hp:=ok.ck
  refine aC<|ab<|ae<|ai<|aw rfl<| ?_
  refine hx (aq rfl Tryz.call181 (wv (by omega)) [0] rfl [] rfl ?_)
  rintro _ _ _ ⟨rfl,rfl,rfl⟩
  refine aJ (fun w m=>(m.perm (ar [0] _ [_] _ rfl)).unpack) ?_
  refine ag<|aB [5,2,0] rfl<|aj (X' :=[_,_,_,_,_]) (S' :=[]) (fun _ m=>m)<|ab<|ae<|ai<|aw rfl<|aw rfl<|aw rfl<|hy (fun _=>aO rfl)<|hy (fun _=>aF rfl iZ (by decide))<|hy (fun m=>ao rfl pg (aA (m.aU 0 rfl) rfl))<| ?_
  refine hx (aq rfl Tryz.call154 (DU) [1] rfl [] rfl ?_)
  rintro _ _ _ ⟨g1,rfl,rfl,rfl⟩
  refine hy (fun _=>aO rfl)<|hy (fun _=>aF rfl DB (by decide))<| ?_
  refine cI (b9 2 rfl rfl rfl Iu rfl (by first|exact Nat.le_of_ble_eq_true rfl|simp) ?_)
  refine hy (fun _=>aO rfl)<|hy (fun _=>aF rfl lv (by decide))<| ?_
  refine cI (b9 0 rfl rfl rfl Af rfl (by first|exact Nat.le_of_ble_eq_true rfl|simp) ?_)
  refine ag<|aB [5,2,0] rfl<|aj (X' :=[_,_,_,_,_,_]) (S' :=[]) (fun _ m=>m)<|ab<|ae<|ai<|aG rfl<|ag<|ab<|aV<| ?_
  refine aj (fun w m=>m.cQ (r' :=aK 232 1 (.slice none 0 0) 0 []) (.refl _ _) (Own.nil _ _ _ _) (fun k hk=>hk.elim)) ?_
  refine aj (fun w m=>Mem.xa (X:=[_]) (m.perm (ar [4] _ [_] _ rfl))) ?_
  refine aj (fun w m=>Mem.xa (X:=[_]) (m.perm (ar [4] _ [_] _ rfl))) ?_
  refine aj (fun w m=>m.bz 1 rfl (show _=aH g 177 (j1 (st.synced g1))from rfl)) ?_
  refine aj (X' :=dH (rowsOf (st.synced g1))::_) (fun w m=>(m.perm (ar [4] _ [_] _ rfl)).Ac (pj)) ?_
  refine aj (X' :=bF g (st.synced g1)::_) (fun w m=>(m.perm (ar [1,2,2,1,0] _ [_,_,_,_,_] _ rfl)).pack) ?_
  exact bc trivial rfl rfl [0] rfl [] rfl ⟨_,_,rfl,rfl,rfl,.inr ⟨h0,rfl⟩⟩
end Go.Proofs.YtmibdabdlgmafaaGreatDoor
end
section
namespace Go.Hx
open Go.Eng
abbrev cb:=Lib.compareBytes
theorem Hh(a b:UInt8):a<b∨a=b∨b<a:=by
 rcases Nat.lt_trichotomy a.toNat b.toNat with h|h|h
 ·exact .inl h
 ·exact .inr (.inl (UInt8.toNat_inj.1 h))
 ·exact .inr (.inr h)
theorem yG:∀a:List UInt8,cb a a=0
 | []=>rfl
 |x::a=>by simp[cb,Lib.compareBytes,UInt8.lt_irrefl];exact yG a
theorem lF(x y:UInt8)(a b:List UInt8):cb (x::a) (y::b)=if x<y then-1 else if y<x then 1 else cb a b:=rfl
theorem Cr{x y:UInt8}(h:x<y):¬y<x:=by
 have:x.toNat<y.toNat:=h
 intro h'
 have:y.toNat<x.toNat:=h'
 omega
theorem Ao:∀(a b:List UInt8) (k:Nat),a.take k=b.take k→k<a.length→k<b.length→cb a b=if a.getD k 0<b.getD k 0 then-1 else if b.getD k 0<a.getD k 0 then 1 else cb (a.drop (k+1)) (b.drop (k+1))
 | [],b,k,_,h,_=>by simp at h
 |_::_,[],k,_,_,h=>by simp at h
 |x::a,y::b,0,_,_,_=>by rw[lF];simp
 |x::a,y::b,k+1,h,h1,h2=>by
  simp only[List.take_succ_cons,List.cons.injEq]at h
  obtain⟨rfl,h⟩:=h
  rw[lF]
  simp only[UInt8.lt_irrefl,if_false,List.getD_cons_succ,List.drop_succ_cons]
  exact Ao a b k h (by simpa using h1) (by simpa using h2)
theorem Jt{a b:List UInt8}{k:Nat}(h:a.take k=b.take k)(h1:k<a.length)(h2:k<b.length)(hlt:a.getD k 0<b.getD k 0):cb a b=-1:=by rw[Ao a b k h h1 h2,if_pos hlt]
theorem JC{a b:List UInt8}{k:Nat}(h:a.take k=b.take k)(h1:k<a.length)(h2:k<b.length)(hlt:b.getD k 0<a.getD k 0):cb a b=1:=by rw[Ao a b k h h1 h2,if_neg (Cr hlt),if_pos hlt]
theorem zj{a b:List UInt8}{k:Nat}(h:a.take k=b.take k)(h1:k<a.length)(h2:k<b.length)(n1:¬a.getD k 0<b.getD k 0)(n2:¬b.getD k 0<a.getD k 0):a.take (k+1)=b.take (k+1):=by
 rw[dG h1,dG h2,h]
 rcases Hh (a.getD k 0) (b.getD k 0)with h|h|h
 ·exact absurd h n1
 ·rw[h]
 ·exact absurd h n2
theorem pW:∀i j:Nat,i<16→j<16→(kj.getD i 0<kj.getD j 0↔i<j):=by
 have:∀i,i<16→∀j,j<16→(kj.getD i 0<kj.getD j 0↔i<j):=by decide+kernel
 exact fun i j hi hj=>this i hi j hj
theorem xZ:∀a b:List UInt8,cb (cq a) (cq b)=cb a b
 | [],[]=>rfl
 | [],y::b=>by simp[cq,qp,cb,Lib.compareBytes]
 |x::a,[]=>by simp[cq,qp,cb,Lib.compareBytes]
 |x::a,y::b=>by
  have e:∀(a:UInt8) (r:List UInt8),cq (a::r)=kj.getD (a.toNat/16) 0::kj.getD (a.toNat % 16) 0::cq r:=by intro a r;simp[cq,qp]
  have hx:=x.toNat_lt
  have hy:=y.toNat_lt
  rw[e,e,lF,lF,lF,xZ a b]
  have l1:=pW (x.toNat/16) (y.toNat/16) (by omega) (by omega)
  have l2:=pW (y.toNat/16) (x.toNat/16) (by omega) (by omega)
  have l3:=pW (x.toNat % 16) (y.toNat % 16) (by omega) (by omega)
  have l4:=pW (y.toNat % 16) (x.toNat % 16) (by omega) (by omega)
  have m1:(x<y)↔x.toNat<y.toNat:=Iff.rfl
  have m2:(y<x)↔y.toNat<x.toNat:=Iff.rfl
  simp only[l1,l2,l3,l4,m1,m2]
  split
  ·rw[if_pos (by omega)]
  ·split
   ·rw[if_neg (by omega),if_pos (by omega)]
   ·split
    ·rw[if_pos (by omega)]
    ·split
     ·rw[if_neg (by omega),if_pos (by omega)]
     ·rw[if_neg (by omega),if_neg (by omega)]
end Go.Hx
end
section
set_option maxRecDepth 20000
namespace Go.Proofs.YtmibdabdlgmafaaGreatDoor
open Go.Eng Go.Hx
theorem KG(A:Option Addr)(n c:Nat)(l:List UInt8)(m:Nat)(w:World)(hr:Rd w 1 A n (aW l))(hc:n≤c)(hn:n≤140737488351232):
  Calls Tryz.prog 32 #[.slice A n c,.int .i64 (m:Int)] w fun e w' =>∃v,e= .returned v∧Go.Eng.Own w' w.heap.size 5 1 v (min n m) (aW (l.take m))∧Fr No w w' :=by
 have hl:l.length=n:=by have:=hr.1;rw[ax]at this;omega
 have hrd:Rd w 1 A (min n m) (aW (l.take m)):=by
  have:=hr.take (k:=min n m) (by omega)
  have e:(aW l).take (min n m*1)=aW (l.take m):=by
   rw[aW,aW,←List.map_take,Nat.mul_one]
   congr 1
   by_cases h:m≤n
   ·congr 1;omega
   ·rw[List.take_of_length_le (by omega),List.take_of_length_le (by omega)]
  rw[e]at this
  exact this
 refine enter (N:=14) Tryz.func32 rfl rfl (by simp) ?_
 refine bd<|bm<|nq (al rfl)<|bj<|aL<|bd<|bm<|nq (al rfl)<|bj<|aL<|bd<|bm<|nq (ah rfl)<|nq (ah rfl)<|nq (ah rfl)<|nq (aY rfl Tryz.underlying27)<|nq (ah rfl)<|nq (uI rfl rfl)<|nq (kq rfl rfl Tryz.underlying27 dU (show((min n m:Nat):Int)=_ by omega) ((by omega)))<| ?_
 refine nx (mV rfl rfl Tryz.underlying27 Tryz.underlying27 (by exact .inl rfl) fi rfl (Own.nil w w.heap.size _ 1) (Src.bJ hrd) bn (by unfold maxLen;omega) (by omega) (by omega) fun v w1 ho hf hv=> ?_)
 refine nq (al rfl)<|bj<|bN (aa (t:=4) rfl<|aa (t:=5) rfl<|aa (t:=0) rfl<|aa (t:=1) rfl<|aI)<|aL<|eb<| ?_
 refine fG trivial rfl rfl ⟨v,rfl, ?_,hf.mono (fun _ _ e=>e.elim)⟩
 simpa using ho
def dr(n m:Int):Int:=(if n<0 then-(n+1)else n) % m
theorem ef(n m:Int)(hm:0<m):0≤dr n m∧dr n m<m:=⟨Int.emod_nonneg _ (by omega),Int.emod_lt_of_pos _ hm⟩
theorem CE(n m:Int)(w:World)(h1:-9223372036854775808≤n)(h2:n≤9223372036854775807)(hm:0<m):
  Calls Tryz.prog 16 #[.int .i64 n,.int .i64 m] w fun e w' =>e= .returned (.int .i64 (dr n m))∧w=w' :=by
 refine enter (N:=13) Tryz.func16 rfl rfl (by simp) ?_
 refine bd<|bm<|nq (al rfl)<|bj<|aL<|bd<|bd<|bm<|nq (ah rfl)<|nq (bw rfl rfl)<|bj<|bN (aa (t:=6) rfl<|aa (t:=4) rfl<|aa (t:=0) rfl<|aa (t:=1) rfl<|aI)<|aL<| ?_
 refine ph rfl (fun h=> ?_) (fun h=> ?_)
 ·refine bm<|nq (ah rfl)<|nq (aP rfl rfl (bA (by omega) (by omega)))<|nq (yD rfl (bA (by omega) (by omega)))<|nq (al rfl)<|bj<|bN (aa (t:=0) rfl<|aa (t:=6) rfl<|aa (t:=4) rfl<|aa (t:=1) rfl<|aI)<|aL<|bd<|bm<|nq (ah rfl)<|nq (ah rfl)<|nq (hZ rfl rfl (by omega) (by omega))<|nq (al rfl)<|bj<|bN (aa (t:=4) rfl<|aa (t:=0) rfl<|aa (t:=6) rfl<|aa (t:=1) rfl<|aI)<|aL<|eb<| ?_
  refine fG trivial rfl rfl ⟨?_,rfl⟩
  simp only[dr,if_pos h]
 ·refine dT<|aL<|bd<|bm<|nq (ah rfl)<|nq (ah rfl)<|nq (hZ rfl rfl (by omega) (by omega))<|nq (al rfl)<|bj<|bN (aa (t:=4) rfl<|aa (t:=6) rfl<|aa (t:=0) rfl<|aa (t:=1) rfl<|aI)<|aL<|eb<| ?_
  refine fG trivial rfl rfl ⟨?_,rfl⟩
  simp only[dr,if_neg h]
theorem Ba(a b:List UInt8)(w:World)(ha:a.length=32)(hb:b.length=32):
  Calls Tryz.prog 171 #[.agg (aW a).toArray,.agg (aW b).toArray] w fun e w' =>e= .returned (.int .i64 (cb a b))∧Fr No w w' :=by
 refine enter (N:=24) Tryz.func171 rfl rfl (by simp) ?_
 refine bd<|bm<| ?_
 refine nx (qC rfl fun g1 w1 hg1 hf1 hb1=> ?_)
 refine nx (qC rfl fun g2 w2 hg2 hf2 hb2=> ?_)
 rw[aT]at hb1 hb2
 refine nq (al rfl)<|bj<|aL<|bd<|bd<|bm<|nq (al rfl)<|bj<|aL<|c9<| ?_
 refine kV (fun k=>32-k) (fun k=>[(2,.pointer (some ⟨g1,0,none⟩)),(3,.pointer (some ⟨g2,0,none⟩)),(5,.int .i64 (k:Nat))]) (fun k w' =>k≤32∧a.take k=b.take k∧Fr No w2 w') 0 (⟨Nat.zero_le _,rfl,Fr.refl _ _⟩) (aa (t:=2) rfl<|aa (t:=3) rfl<|aa (t:=5) rfl<|aI) (fun k w3 ⟨hk,hab,hf3⟩=> ?_)
 refine bd<|bd<|bm<|nq (ah rfl)<|nq (bw rfl rfl)<|bj<|bN (aa (t:=7) rfl<|aa (t:=2) rfl<|aa (t:=3) rfl<|aa (t:=5) rfl<|aI)<|aL<| ?_
 refine ph rfl (fun h=> ?_) (fun h=> ?_)
 ·have hk2:k<32:=by omega
  have h1:∀w',Fr No w2 w' →eQ w' g1 53 (aW a):=fun w' f=>(hb1.qM hf2).qM f
  have h2:∀w',Fr No w2 w' →eQ w' g2 53 (aW b):=fun w' f=>hb2.qM f
  have ga:=bM (l:=a) (i:=k) (by omega)
  have gb:=bM (l:=b) (i:=k) (by omega)
  refine dT<|aL<|bd<|c9<|bd<|bd<| ?_
  refine Bf [(0,false),(1,false),(2,false),(3,false),(4,false),(5,false),(6,false)] (by kernel_rfl) (by kernel_rfl) rfl (fun w' =>Fr No w2 w') (hf3.cK (Fr.drew _)) (fun w4 hf4 hS4=> ?_)
  refine sq (fun w_ hS_=>ah rfl)<|sq (fun w_ hS_=>bS rfl rfl Tryz.underlying53 dU rfl (by omega))<|sq (fun w_ hS_=>ao rfl iO (((h1 _ hS_).au _ _ ga)))<|sq (fun w_ hS_=>ah rfl)<|sq (fun w_ hS_=>bS rfl rfl Tryz.underlying53 dU rfl (by omega))<|sq (fun w_ hS_=>ao rfl iO (((h2 _ hS_).au _ _ gb)))<|sq (fun w_ hS_=>bw rfl rfl)<|send<|bN (aa (t:=16) rfl<|aa (t:=7) rfl<|aa (t:=2) rfl<|aa (t:=3) rfl<|aa (t:=5) rfl<|aI)<|aL<| ?_
  refine ph rfl (fun hlt=> ?_) (fun hlt=> ?_)
  ·refine bd<|bm<|nq (al rfl)<|bj<|aL<|eb<|bH<|cE<|bH<|bH<|cE<|bH<| ?_
   refine fG trivial rfl rfl ⟨?_,(hf1.cK hf2).cK hS4⟩
   rw[Jt hab (by omega) (by omega) (show(a.getD k 0).toNat<(b.getD k 0).toNat by omega)]
  ·refine dT<|aL<|bd<| ?_
   refine Bf [(0,false),(1,false),(2,false),(3,false),(4,false),(5,false),(6,false)] (by kernel_rfl) (by kernel_rfl) rfl (fun w' =>Fr No w2 w') (hS4.cK (Fr.drew _)) (fun w5 hf5 hS5=> ?_)
   refine sq (fun w_ hS_=>ah rfl)<|sq (fun w_ hS_=>bS rfl rfl Tryz.underlying53 dU rfl (by omega))<|sq (fun w_ hS_=>ao rfl iO (((h1 _ hS_).au _ _ ga)))<|sq (fun w_ hS_=>ah rfl)<|sq (fun w_ hS_=>bS rfl rfl Tryz.underlying53 dU rfl (by omega))<|sq (fun w_ hS_=>ao rfl iO (((h2 _ hS_).au _ _ gb)))<|sq (fun w_ hS_=>cW rfl rfl)<|send<|bN (aa (t:=23) rfl<|aa (t:=16) rfl<|aa (t:=7) rfl<|aa (t:=2) rfl<|aa (t:=3) rfl<|aa (t:=5) rfl<|aI)<|aL<| ?_
   refine ph rfl (fun hgt=> ?_) (fun hgt=> ?_)
   ·refine bd<|bm<|nq (al rfl)<|bj<|aL<|eb<|cE<|bH<|bH<|cE<|bH<| ?_
    refine fG trivial rfl rfl ⟨?_,(hf1.cK hf2).cK hS5⟩
    rw[JC hab (by omega) (by omega) (show(b.getD k 0).toNat<(a.getD k 0).toNat by omega)]
   ·refine dT<|fS<|aL<|bm<|nq (ah rfl)<|nq (aP rfl rfl (bA (by omega) (by omega)))<|nq (al rfl)<|bj<|bN (aa (t:=5) rfl<|aa (t:=23) rfl<|aa (t:=16) rfl<|aa (t:=7) rfl<|aa (t:=2) rfl<|aa (t:=3) rfl<|aI)<| ?_
    refine k8 (k+1) (aa (t:=2) rfl<|aa (t:=3) rfl<|aa (t:=5) rfl<|aI) (⟨by omega,zj hab (by omega) (by omega) (fun q=>hlt (by have:(a.getD k 0).toNat<(b.getD k 0).toNat:=q;omega)) (fun q=>hgt (by have:(b.getD k 0).toNat<(a.getD k 0).toNat:=q;omega)),hS5⟩) (by omega)
 ·obtain rfl:k=32:=by omega
  refine jS<|ca<|ca<|c5<|aL<|bd<|bm<|nq (al rfl)<|bj<|aL<|eb<| ?_
  refine fG trivial rfl rfl ⟨?_,(hf1.cK hf2).cK hf3⟩
  rw[List.take_of_length_le (by omega),List.take_of_length_le (by omega)]at hab
  rw[hab,yG]
theorem rG{a b:List UInt8}{j n:Nat}(ha:a.length=n)(hb:b.length=n)(hj:j<n):(a.take j++b.drop j).set j (a.getD j 0)=a.take (j+1)++b.drop (j+1):=by
 rw[List.set_append,if_neg (by rw[List.length_take];omega),List.length_take,Nat.min_eq_left (by omega),Nat.sub_self,dG (by omega),List.append_assoc]
 congr 1
 rw[List.drop_eq_getElem_cons (by omega)]
 rfl
theorem qe:(Value.agg (aW (List.replicate 32 0)).toArray).cells.toList=aW (List.replicate 32 0):=rfl
theorem of(A:Option Addr)(c:Nat)(l:List UInt8)(w:World)(hr:Rd w 1 A 32 (aW l)):
  Calls Tryz.prog 170 #[.slice A 32 c] w fun e w' =>e= .returned (.agg (aW l).toArray)∧Fr No w w' :=by
 have hl:l.length=32:=by have:=hr.1;rw[ax]at this;omega
 refine enter (N:=16) Tryz.func170 rfl rfl (by simp) ?_
 refine bd<|bm<| ?_
 refine nx (oa dw fun g1 w1 hg1 hf1 hb1=> ?_)
 refine bj<|aL<|bd<|bm<| ?_
 refine nx (oa dw fun g2 w2 hg2 hf2 hb2=> ?_)
 rw[qe]at hb1 hb2
 have hlt:=hb1.lt
 refine bj<|aL<|bd<|bd<|bm<|nq (al rfl)<|bj<|aL<|c9<| ?_
 refine kV (fun j=>32-j) (fun j=>[(0,.slice A 32 c),(2,.pointer (some ⟨g1,0,none⟩)),(3,.pointer (some ⟨g2,0,none⟩)),(4,.int .i64 (j:Nat))]) (fun j w' =>j≤32∧Fr No w w' ∧eQ w' g1 53 (aW (List.replicate 32 0))∧eQ w' g2 53 (aW (l.take j++(List.replicate 32 0).drop j))) 0 (⟨Nat.zero_le _,hf1.cK hf2,hb1.qM hf2,hb2⟩) (aa (t:=0) rfl<|aa (t:=2) rfl<|aa (t:=3) rfl<|aa (t:=4) rfl<|aI) (fun j w4 ⟨hj,hf4,i1,i2⟩=> ?_)
 refine bd<|bd<|bm<|nq (ah rfl)<|nq (bw rfl rfl)<|bj<|bN (aa (t:=6) rfl<|aa (t:=0) rfl<|aa (t:=2) rfl<|aa (t:=3) rfl<|aa (t:=4) rfl<|aI)<|aL<| ?_
 refine ph rfl (fun h=> ?_) (fun h=> ?_)
 ·have ga:=bM (l:=l) (i:=j) (by omega)
  have hlen:(l.take j++(List.replicate 32 (0:UInt8)).drop j).length=32:=by rw[List.length_append,List.length_take,List.length_drop,List.length_replicate];omega
  have r4:=hr.qM hf4
  refine dT<|aL<|bd<|c9<|bm<|nq (ah rfl)<|nq (ah rfl)<|nq (ah rfl)<|nq (aZ rfl rfl Tryz.underlying27 dU r4.2.1 rfl (by omega))<|nq (ao rfl iO (r4.cell ga))<|nq (bS rfl rfl Tryz.underlying53 dU rfl (by omega))<| ?_
  refine C6 (GK rfl rfl dU rfl i2 (by rw[ax];omega) fun w5 hf5 i2' hs5=> ?_)
  rw[Nat.zero_add,←yo,rG hl (List.length_replicate ..) (by omega)]at i2'
  refine bj<|bN (aa (t:=6) rfl<|aa (t:=0) rfl<|aa (t:=2) rfl<|aa (t:=3) rfl<|aa (t:=4) rfl<|aI)<|fS<|aL<|bm<|nq (ah rfl)<|nq (aP rfl rfl (bA (by omega) (by omega)))<|nq (al rfl)<|bj<|bN (aa (t:=4) rfl<|aa (t:=6) rfl<|aa (t:=0) rfl<|aa (t:=2) rfl<|aa (t:=3) rfl<|aI)<| ?_
  refine k8 (j+1) (aa (t:=0) rfl<|aa (t:=2) rfl<|aa (t:=3) rfl<|aa (t:=4) rfl<|aI) (⟨by omega,hf4.new hf5 (fun i hi=>by have:=hf1.size;omega),i1.fr hf5 (by omega),i2'⟩) (by omega)
 ·obtain rfl:j=32:=by omega
  have e:l.take 32++(List.replicate 32 (0:UInt8)).drop 32=l:=by
   rw[List.take_of_length_le (by omega),List.drop_of_length_le (by simp)];simp
  rw[e]at i2
  refine jS<|ca<|ca<|c5<|aL<|bd<|bm<|nq (aQ rfl b5 bp ((by rw[ax];exact hl)) i2.au)<| ?_
  refine C6 (qO rfl rfl bp hl i1 (by rw[ax];simp) fun w5 hf5 i1' hs5=> ?_)
  refine bj<|bN (aa (t:=6) rfl<|aa (t:=0) rfl<|aa (t:=2) rfl<|aa (t:=3) rfl<|aa (t:=4) rfl<|aI)<|aL<|eb<| ?_
  exact Jz trivial rfl rfl b5 bp (by rw[ax];exact hl) i1'.au ⟨rfl,hf4.new hf5 (fun i hi=>by omega)⟩
theorem bytes(a:List UInt8)(w:World)(ha:a.length=32):
  Calls Tryz.prog 183 #[.agg (aW a).toArray] w fun e w' =>∃v,e= .returned v∧Go.Eng.Own w' w.heap.size 5 1 v 32 (aW a)∧Fr No w w' :=by
 refine enter (N:=16) Tryz.func183 rfl rfl (by simp) ?_
 refine bd<|bm<| ?_
 refine nx (qC rfl fun g1 w1 hg1 hf1 hb1=> ?_)
 rw[aT]at hb1
 refine nq (al rfl)<|bj<|aL<|bd<|bm<|nq (al rfl)<|bj<|aL<|bd<|bd<|bm<|nq (al rfl)<|bj<|aL<|c9<| ?_
 refine w7 (fun k _=>32-k) (fun k v=>[(1,.pointer (some ⟨g1,0,none⟩)),(3,v),(4,.int .i64 (k:Nat))]) (fun k v w' =>k≤32∧Go.Eng.Own w' w1.heap.size 5 1 v k (aW (a.take k))∧Fr No w1 w') 0 (.slice none 0 0) (⟨Nat.zero_le _,Own.nil w1 w1.heap.size _ 1,Fr.refl _ _⟩) (aa (t:=1) rfl<|aa (t:=3) rfl<|aa (t:=4) rfl<|aI) (fun k v w2 ⟨hk,ho,hf⟩=> ?_)
 refine bd<|bd<|bm<|nq (ah rfl)<|nq (bw rfl rfl)<|bj<|bN (aa (t:=6) rfl<|aa (t:=1) rfl<|aa (t:=3) rfl<|aa (t:=4) rfl<|aI)<|aL<| ?_
 refine ph rfl (fun h=> ?_) (fun h=> ?_)
 ·have ga:=bM (l:=a) (i:=k) (by omega)
  refine dT<|aL<|bd<|c9<|bm<|nq (ah rfl)<|nq (ah rfl)<|nq (bS rfl rfl Tryz.underlying53 dU rfl (by omega))<|nq (ao rfl iO ((hb1.qM hf).au _ _ ga))<| ?_
  refine nx (qU Tryz.underlying27 fi rfl rfl rfl (by simp[Value.cells,B8]) (by decide) (by decide) fun g w3 hg hf3 hb3=> ?_)
  refine nx (mV rfl rfl Tryz.underlying27 Tryz.underlying27 (by exact .inl rfl) fi rfl (ho.qM hf3) (Src.j4 hb3 rfl) (bn (l:=[_])) (by unfold maxLen;omega) (by omega) (hf.cK hf3).size fun v4 w4 ho4 hf4 hv4=> ?_)
  refine nq (al rfl)<|bj<|bN (aa (t:=3) rfl<|aa (t:=6) rfl<|aa (t:=1) rfl<|aa (t:=4) rfl<|aI)<|fS<|aL<|bm<|nq (ah rfl)<|nq (aP rfl rfl (bA (by omega) (by omega)))<|nq (al rfl)<|bj<|bN (aa (t:=4) rfl<|aa (t:=3) rfl<|aa (t:=6) rfl<|aa (t:=1) rfl<|aI)<| ?_
  refine wF (k+1) v4 (aa (t:=1) rfl<|aa (t:=3) rfl<|aa (t:=4) rfl<|aI) (⟨by omega,by rw[dG (by omega),bR];exact ho4,(hf.cK hf3).new hf4 (fun i hi=>(ho.from hi).1)⟩) (by omega)
 ·obtain rfl:k=32:=by omega
  refine jS<|ca<|ca<|c5<|aL<|bd<|bm<|nq (ah rfl)<|nq (al rfl)<|bj<|bN (aa (t:=2) rfl<|aa (t:=6) rfl<|aa (t:=1) rfl<|aa (t:=3) rfl<|aa (t:=4) rfl<|aI)<|aL<|eb<| ?_
  rw[List.take_of_length_le (by omega)]at ho
  exact fG trivial rfl rfl ⟨v,rfl,ho.wide hf1.size,hf1.cK hf⟩
end Go.Proofs.YtmibdabdlgmafaaGreatDoor
end
section
namespace Go.Hx
open Go.Eng
abbrev xh(ds:List (List UInt8)):Prop:=∀d∈ds,d.length=32
def lV:List (List UInt8)→List UInt8→List (List UInt8)
 | [],d=>[d]
 |a::r,d=>if cb a d<0 then a::lV r d else if a=d then a::r else d::a::r
theorem pL:∀(ds:List (List UInt8)) (d:List UInt8) (k:Nat),k≤ds.length→(∀i,i<k→cb (ds.getD i []) d<0)→(k<ds.length→¬cb (ds.getD k []) d<0)→
  lV ds d=if k<ds.length∧ds.getD k []=d then ds else ds.take k++[d]++ds.drop k
 | [],d,k,hk,_,_=>by
  obtain rfl:k=0:=by simpa using hk
  simp[lV]
 |a::r,d,0,_,_,h=>by
  have h0:=h (by simp)
  simp only[List.getD_cons_zero]at h0
  simp only[lV,if_neg h0,List.getD_cons_zero,List.take_zero,List.nil_append,List.drop_zero,List.singleton_append,List.length_cons,Nat.zero_lt_succ,true_and]
 |a::r,d,k+1,hk,h1,h2=>by
  have ha:=h1 0 (by omega)
  simp only[List.getD_cons_zero]at ha
  have ih:=pL r d k (by simpa using hk) (fun i hi=>by have:=h1 (i+1) (by omega);simpa using this) (fun hl=>by have:=h2 (by simpa using hl);simpa using this)
  simp only[lV,if_pos ha,ih,List.getD_cons_succ,List.length_cons,Nat.succ_lt_succ_iff,List.take_succ_cons,List.drop_succ_cons,List.cons_append]
  split <;> rfl
theorem vr(ds:List (List UInt8))(d:List UInt8):ds.length≤(lV ds d).length∧(lV ds d).length≤ds.length+1:=by
 induction ds with
 |nil=>simp[lV]
 |cons a r ih=>
  simp only[lV]
  split
  ·simp only[List.length_cons];omega
  ·split <;> simp
theorem Cs{ds:List (List UInt8)}{d:List UInt8}(h:xh ds)(hd:d.length=32):xh (lV ds d):=by
 induction ds with
 |nil=>intro x hx;simp[lV]at hx;subst hx;exact hd
 |cons a r ih=>
  have ih' :=ih (fun x hx=>h x (List.mem_cons_of_mem _ hx))
  have ha:=h a (List.mem_cons_self ..)
  intro x hx
  simp only[lV]at hx
  split at hx
  ·rcases List.mem_cons.1 hx with rfl|hx
   ·exact ha
   ·exact ih' x hx
  ·split at hx
   ·exact h x hx
   ·rcases List.mem_cons.1 hx with rfl|hx
    ·exact hd
    ·exact h x hx
end Go.Hx
end
section
set_option maxRecDepth 20000
namespace Go.Proofs.YtmibdabdlgmafaaGreatDoor
open Go.Eng Go.Hx
theorem B5{w:World}{A:Option Addr}{n:Nat}{ds:List (List UInt8)}(h:Rd w 32 A n (dc ds))(hd:xh ds):ds.length=n:=by
 have:=h.1
 rw[zK hd]at this
 omega
end Go.Proofs.YtmibdabdlgmafaaGreatDoor
end
section
set_option maxRecDepth 20000
namespace Go.Proofs.YtmibdabdlgmafaaGreatDoor
open Go.Eng Go.Hx
end Go.Proofs.YtmibdabdlgmafaaGreatDoor
end
section
set_option maxRecDepth 20000
namespace Go.Proofs.YtmibdabdlgmafaaGreatDoor
open Go.Eng Go.Hx
theorem number(n:Nat)(w:World)(hn:n<4294967296):
  Calls Tryz.prog 160 #[.int .i64 (n:Int)] w fun e w' =>∃v,e= .returned v∧Go.Eng.Own w' w.heap.size 5 1 v 4 (aW (jY n))∧Fr No w w' :=by
 refine enter (N:=21) Tryz.func160 rfl rfl (by simp) ?_
 refine bd<|bm<|nq (al rfl)<|bj<|aL<|bd<|bm<|nq (ah rfl)<|nq (bY rfl Tryz.underlying3 Tryz.underlying166 ((yw (by omega) (by omega))))<|nq (al rfl)<|bj<|bN (aa (t:=3) rfl<|aa (t:=2) rfl<|aa (t:=0) rfl<|aI)<|aL<|bd<|bm<|nq (ah rfl)<|nq (hZ rfl rfl (by omega) (by omega))<|nq (bY rfl Tryz.underlying166 Tryz.underlying5 ((show IntKind.u8.wrap ((n:Int) % 256)=((UInt8.ofNat n).toNat:Int) by simp[IntKind.wrap,IntKind.signed,IntKind.bits])))<|nq (ah rfl)<|nq (kA rfl rfl (by omega) (by omega) (yw (by omega) (by omega)))<|nq (hZ rfl rfl (by omega) (by omega))<|nq (bY rfl Tryz.underlying166 Tryz.underlying5 ((show IntKind.u8.wrap ((n:Int)/256 % 256)=((UInt8.ofNat (n/256)).toNat:Int) by simp[IntKind.wrap,IntKind.signed,IntKind.bits])))<|nq (ah rfl)<|nq (kA rfl rfl (by omega) (by omega) (yw (by omega) (by omega)))<|nq (hZ rfl rfl (by omega) (by omega))<|nq (bY rfl Tryz.underlying166 Tryz.underlying5 ((show IntKind.u8.wrap ((n:Int)/65536 % 256)=((UInt8.ofNat (n/65536)).toNat:Int) by simp[IntKind.wrap,IntKind.signed,IntKind.bits])))<|nq (ah rfl)<|nq (kA rfl rfl (by omega) (by omega) (yw (by omega) (by omega)))<|nq (bY rfl Tryz.underlying166 Tryz.underlying5 ((show IntKind.u8.wrap ((n:Int)/16777216)=((UInt8.ofNat (n/16777216)).toNat:Int) by simp[IntKind.wrap,IntKind.signed,IntKind.bits])))<| ?_
 refine nx (qU Tryz.underlying27 fi rfl rfl rfl (by simp[Value.cells,B8]) (by decide) (by decide) fun g w1 hg hf1 hb1=> ?_)
 refine nq (al rfl)<|bj<|bN (aa (t:=2) rfl<|aa (t:=3) rfl<|aa (t:=0) rfl<|aI)<|aL<|eb<| ?_
 exact fG trivial rfl rfl ⟨_,rfl,Own.made hb1 hg (Nat.le_refl _) (by decide) rfl,hf1⟩
end Go.Proofs.YtmibdabdlgmafaaGreatDoor
end
section
set_option maxRecDepth 20000
namespace Go.Proofs.YtmibdabdlgmafaaGreatDoor
open Go.Eng Go.Hx
theorem Jg{A:Option Addr}{n c:Nat}{l:List UInt8}{m:Nat}(hc:n≤c)(hn:n≤140737488351232):b7 Tryz.prog 32 [.slice A n c,.int .i64 (m:Int)] [] [cL 1 A n (aW l)] (fun v_ X_ S_=>∃v,v_=v∧X_=[aK 5 1 v (min n m) (aW (l.take m))]∧S_=[]):=by
 exact nN fun mm=>Calls.mono (KG A n c l m _ (mm.rd 0 rfl) hc hn) (fun e w' ⟨v,h,ho,hf⟩=>⟨v,v,_,_,_,_,h,⟨v,rfl,rfl,rfl⟩,ho,hf⟩)
theorem lq{n m:Int}(h1:-9223372036854775808≤n)(h2:n≤9223372036854775807)(hm:0<m):b7 Tryz.prog 16 [.int .i64 n,.int .i64 m] [] [] (fun v_ X_ S_=>v_=(.int .i64 (dr n m))∧X_=[]∧S_=[]):=by
 exact fZ fun mm=>Calls.mono (CE n m _ h1 h2 hm) (fun e w' ⟨h,hw⟩=>⟨_,h,⟨rfl,rfl,rfl⟩,hw▸Fr.refl _ _⟩)
theorem B0{A:Option Addr}{n c:Nat}{l:List UInt8}(hn:n≤70368744177664):b7 Tryz.prog 189 [.slice A n c] [] [cL 1 A n (aW l)] (fun v_ X_ S_=>∃v,v_=v∧X_=[aK 5 1 v (n+4) (aW (BN l))]∧S_=[]):=by
 exact nN fun m=>Calls.mono (EA A n c l _ (m.rd 0 rfl) hn) (fun e w' ⟨v,h,ho,hf⟩=>⟨v,v,_,_,_,_,h,⟨v,rfl,rfl,rfl⟩,ho,hf⟩)
theorem ET{n:Nat}(hn:n<4294967296):b7 Tryz.prog 160 [.int .i64 (n:Int)] [] [] (fun v_ X_ S_=>∃v,v_=v∧X_=[aK 5 1 v 4 (aW (jY n))]∧S_=[]):=by
 exact nN fun m=>Calls.mono (number n _ hn) (fun e w' ⟨v,h,ho,hf⟩=>⟨v,v,_,_,_,_,h,⟨v,rfl,rfl,rfl⟩,ho,hf⟩)
theorem zF{a b:List UInt8}(ha:a.length=32)(hb:b.length=32):b7 Tryz.prog 171 [.agg (aW a).toArray,.agg (aW b).toArray] [] [] (fun v_ X_ S_=>v_=(.int .i64 (cb a b))∧X_=[]∧S_=[]):=by
 exact fZ fun m=>Calls.mono (Ba a b _ ha hb) (fun e w' ⟨h,hf⟩=>⟨_,h,⟨rfl,rfl,rfl⟩,hf⟩)
end Go.Proofs.YtmibdabdlgmafaaGreatDoor
end
section
set_option maxRecDepth 20000
namespace Go.Proofs.YtmibdabdlgmafaaGreatDoor
open Go.Eng Go.Hx
def da.nV(st:da)(n:Int):da:={st with ck:=max n (-1)}
theorem Gu{g:Nat}{st:da}{n:Int}:b7 Tryz.prog 57 [.pointer (some ⟨g,0,none⟩),.int .i64 n] [bF g st] [] (fun v_ X_ S_=>v_=(.tuple #[])∧X_=[bF g (st.nV n)]∧S_=[]):=by
 refine aM (N:=9) Tryz.func57 rfl rfl (by simp) fun b=> ?_
 refine bk (fun w m=>(m.perm (ar [0] _ [_] _ rfl)).unpack) ?_
 refine ai<|aw rfl<|aw rfl<|hy (fun _=>Co rfl rfl)<|hy (fun _=>aO rfl)<|hy (fun _=>aF rfl nz (by decide))<| ?_
 refine cI (b9 0 rfl rfl rfl ue rfl (by first|exact Nat.le_of_ble_eq_true rfl|simp) ?_)
 refine ag<|aB [0,1] rfl<|aj (X' :=[_,_,_,_,_]) (S' :=[]) (fun _ m=>m)<| ?_
 refine aj (fun w m=>m.bz 0 rfl (show _=aH g 177 (j1 (st.nV n))from by simp[j1,da.nV])) ?_
 refine aj (X' :=bF g (st.nV n)::_) (fun w m=>(m.perm (ar [0,0,0,0,0] _ [_,_,_,_,_] _ rfl)).pack) ?_
 exact eU trivial rfl [0] rfl [] rfl ⟨rfl,rfl,rfl⟩
theorem FZ{g:Nat}{st:da}:b7 Tryz.prog 60 [.pointer (some ⟨g,0,none⟩)] [bF g st] [] (fun v_ X_ S_=>v_=(.int .i64 (st.waits.length:Nat))∧X_=[bF g st]∧S_=[]):=by
 refine aM (N:=8) Tryz.func60 rfl rfl (by simp) fun b=> ?_
 refine bk (fun w m=>(m.perm (ar [0] _ [_] _ rfl)).unpack) ?_
 refine ae<|ai<|aG rfl<|ag<|ab<|ae<|ai<|aw rfl<|hy (fun _=>aO rfl)<|hy (fun _=>aF rfl lv (by decide))<|hy (fun m=>ao rfl Cf (aA (m.aU 0 rfl) rfl))<|hy (fun _=>aY rfl Tryz.underlying175)<|aG rfl<|ag<|aB [2,0] rfl<|ab<|aV<| ?_
 refine aj (X' :=bF g st::_) (fun w m=>(m.perm (ar [0,0,0,0,0] _ [_,_,_,_,_] _ rfl)).pack) ?_
 exact bc trivial rfl rfl [0] rfl [] rfl ⟨rfl,rfl,rfl⟩
theorem GA:b7 Tryz.prog 258 [.slice none 0 0,.int .i64 0,.int .i64 0] [] [] (fun v_ X_ S_=>v_=(.tuple #[])∧X_=[]∧S_=[]):=by
 refine aM (N:=49) Tryz.func258 rfl rfl (by simp) fun b=> ?_
 refine ae<|ai<|aw rfl<|hy (fun _=>aP rfl rfl (bA (by omega) (by omega)))<|aG rfl<|ag<|aB [6,0,1,2] rfl<|ab<|aN<| ?_
 refine de (fun u=>0) (fun u=>[(6,.int .i64 1)]) (fun u=>[]) (fun u=>[]) (fun u=>u=0) 0 [(0,_),(1,_),(2,_)] ⟨rfl,rfl,rfl,trivial⟩ [] rfl [] rfl (rfl) ⟨rfl,trivial⟩ (fun u hI=> ?_)
 refine ae<|ae<|ai<|aw rfl<|aw rfl<|hy (fun _=>bw rfl rfl)<|ag<|aB [12,6,0,1,2] rfl<|ab<| ?_
 refine cN rfl (rfl) ?_
 refine bG<|an<|an<|aE<| ?_
 exact eU trivial rfl [] rfl [] rfl ⟨rfl,rfl,rfl⟩
theorem AN:b7 Tryz.prog 255 [.int .u64 0] [] [] (fun v_ X_ S_=>v_=(.int .i64 0)∧X_=[]∧S_=[]):=by
 refine aM (N:=25) Tryz.func255 rfl rfl (by simp) fun b=> ?_
 refine ae<|ai<|aG rfl<|ag<|ab<|ae<|ae<|ai<|aw rfl<|hy (fun _=>dL rfl rfl)<|ag<|aB [4,2,0] rfl<|ab<| ?_
 refine cN rfl (rfl) ?_
 refine aC<|ab<|ae<|ae<|ai<|aw rfl<|hy (fun _=>dL rfl rfl)<|ag<|aB [8,4,2,0] rfl<|ab<| ?_
 refine cN rfl (rfl) ?_
 refine aC<|ab<|ae<|ae<|ai<|aw rfl<|hy (fun _=>dL rfl rfl)<|ag<|aB [14,8,4,2,0] rfl<|ab<| ?_
 refine cN rfl (rfl) ?_
 refine aC<|ab<|ae<|ai<|aw rfl<|aw rfl<|hy (fun _=>bY rfl Tryz.underlying310 Tryz.underlying5 (show IntKind.u8.wrap 0=0 from rfl))<|hy (fun _=>er rfl rfl Tryz.underlying9 (show((0:Nat):Int)=0 from rfl) (show _=some (0:UInt8)from rfl))<|hy (fun _=>bY rfl Tryz.underlying5 Tryz.underlying3 (show IntKind.i64.wrap ((0:UInt8).toNat:Int)=0 from rfl))<|hy (fun _=>aP rfl rfl (bA (by omega) (by omega)))<|aG rfl<|ag<|aB [2,14,8,4,0] rfl<|ab<|aV<| ?_
 exact bc trivial rfl rfl [] rfl [] rfl ⟨rfl,rfl,rfl⟩
theorem FT:b7 Tryz.prog 207 [.int .u64 0] [] [] (fun v_ X_ S_=>v_=(.int .i64 0)∧X_=[]∧S_=[]):=by
 refine aM (N:=8) Tryz.func207 rfl rfl (by simp) fun b=> ?_
 refine ae<|ai<|aG rfl<|ag<|ab<|ae<| ?_
 refine cN rfl (rfl) ?_
 refine aC<|ab<|ae<|ai<|aw rfl<| ?_
 refine hx (aq rfl Tryz.call255 (AN) [] rfl [] rfl ?_)
 rintro _ _ _ ⟨rfl,rfl,rfl⟩
 refine aG rfl<|ag<|aB [2,0] rfl<|aj (X' :=[]) (S' :=[]) (fun _ m=>m)<|ab<|aV<| ?_
 exact bc trivial rfl rfl [] rfl [] rfl ⟨rfl,rfl,rfl⟩
theorem Ge:b7 Tryz.prog 223 [.slice none 0 0,.int .i64 0,.int .i64 0,.int .i64 0] [] [] (fun v_ X_ S_=>v_=(.tuple #[])∧X_=[]∧S_=[]):=by
 refine aM (N:=134) Tryz.func223 rfl rfl (by simp) fun b=> ?_
 refine ae<|ai<|aG rfl<|ag<|ab<|ae<|ai<|aG rfl<|ag<|ab<|aN<| ?_
 refine de (fun u=>0) (fun u=>[(1,.int .i64 0),(2,.int .i64 0)]) (fun u=>[]) (fun u=>[]) (fun u=>u=0) 0 [(0,_)] ⟨rfl,trivial⟩ [] rfl [] rfl (rfl) ⟨rfl,rfl,trivial⟩ (fun u hI=> ?_)
 refine aN<|ae<|ai<|aw rfl<|aw rfl<|hy (fun _=>cn rfl rfl (bA (by omega) (by omega)))<|aG rfl<|ag<|aB [10,1,2,0] rfl<|ab<|ae<|ae<|ai<|aw rfl<|hy (fun _=>mh rfl rfl)<|ag<|aB [23,10,1,2,0] rfl<|ab<| ?_
 refine fq rfl (rfl) ?_
 refine ae<|ai<|aw rfl<|aw rfl<|aw rfl<| ?_
 refine hx (aq rfl Tryz.call258 (GA) [] rfl [] rfl ?_)
 rintro _ _ _ ⟨rfl,rfl,rfl⟩
 refine ag<|aB [23,10,1,2,0] rfl<|aj (X' :=[]) (S' :=[]) (fun _ m=>m)<|ab<|aV<|ay<|a7<|ay<|a7<| ?_
 exact eU trivial rfl [] rfl [] rfl ⟨rfl,rfl,rfl⟩
theorem DY:b7 Tryz.prog 165 [.slice none 0 0] [] [] (fun v_ X_ S_=>v_=(.tuple #[])∧X_=[]∧S_=[]):=by
 refine aM (N:=11) Tryz.func165 rfl rfl (by simp) fun b=> ?_
 refine ae<|ai<|aw rfl<|hy (fun _=>aY rfl Tryz.underlying152)<|aG rfl<|ag<|aB [2,0] rfl<|ab<|ai<|aw rfl<|aw rfl<|aw rfl<|hy (fun _=>bY rfl Tryz.underlying3 Tryz.underlying263 rfl)<| ?_
 refine hx (aq rfl Tryz.call207 (FT) [] rfl [] rfl ?_)
 rintro _ _ _ ⟨rfl,rfl,rfl⟩
 refine hx (aq rfl Tryz.call223 (Ge) [] rfl [] rfl ?_)
 rintro _ _ _ ⟨rfl,rfl,rfl⟩
 refine ag<|aB [2,0] rfl<|aj (X' :=[]) (S' :=[]) (fun _ m=>m)<| ?_
 exact eU trivial rfl [] rfl [] rfl ⟨rfl,rfl,rfl⟩
end Go.Proofs.YtmibdabdlgmafaaGreatDoor
end
section
set_option maxRecDepth 20000
namespace Go.Proofs.YtmibdabdlgmafaaGreatDoor
open Go.Eng Go.Hx
def uc(l:dY):jF→dY
 | .written p r=>cP l p r
 | .renamed a c=>match bO l a with
  |none=>l
  |some r=>cP (fv l a) c r
 | .removed p=>fv l p
theorem HK{g:Nat}{l:dY}{a c:List UInt8}:b7 Tryz.prog 337 [.agg [SV a,SV c].toArray,.map (some g)] [dV SV g (en l)] [] (fun v_ X_ S_=>v_=(.tuple #[])∧X_=[dV SV g (en (uc l (.renamed a c)))]∧S_=[]):=by
 refine aM (N:=21) Tryz.func337 rfl rfl (by simp) fun b=> ?_
 refine ae<|ai<| ?_
 refine hx (bu rfl (fun g2=> ?_))
 refine aJ (fun w m=>m.bz 0 rfl (show _=aH g2 257 [SV a,SV c]from congrArg (aH _ _) (aT _))) ?_
 rcases ql (l:=l) a with⟨h1,h2⟩|⟨r,h1,h2⟩
 ·refine ag<|aj (X' :=[_,_]) (S' :=[]) (fun _ m=>m)<|ab<|ae<|ai<|aw rfl<|hy (fun _=>aF rfl sP (by decide))<|hy (fun m=>ao rfl mG (aA (m.aU 0 rfl) (i:=0) rfl))<|hy (fun m=>yV (fy (enc:=SV) rfl rfl Tryz.underlying174 kZ (kW Tryz.underlying9) (m.lS 1 rfl)) ((show eN true (.slice none 0 0) (bO (en l) a)= .tuple #[.slice none 0 0,.bool false] by rw[h2];rfl)))<|aw rfl<|hy (fun _=>aD rfl rfl)<|hy (fun _=>aD rfl rfl)<|aG rfl<|aG rfl<|ag<|aB [5,4,2,0,1] rfl<|ab<|ae<|ai<|aw rfl<|ag<|ab<| ?_
  refine cN rfl (rfl) ?_
  refine aC<| ?_
  have e:uc l (.renamed a c)=l:=by rw[uc,h1]
  rw[e]
  exact eU trivial rfl [1] rfl [] rfl ⟨rfl,rfl,rfl⟩
 ·refine ag<|ab<|ae<|ai<|aw rfl<|hy (fun _=>aF rfl sP (by decide))<|hy (fun m=>ao rfl mG (aA (m.aU 0 rfl) rfl))<|hy (fun m=>yV (fy (enc:=SV) rfl rfl Tryz.underlying174 kZ (kW Tryz.underlying9) (m.lS 1 rfl)) ((show eN true (.slice none 0 0) (bO (en l) a)= .tuple #[r.val,.bool true] by rw[h2];rfl)))<|aw rfl<|hy (fun _=>aD rfl rfl)<|hy (fun _=>aD rfl rfl)<|aG rfl<|aG rfl<|ag<|aB [5,4,2,0,1] rfl<|ab<|ae<|ai<|aw rfl<|ag<|ab<| ?_
  refine fq rfl (rfl) ?_
  refine ae<|ai<|aw rfl<|hy (fun _=>aF rfl sP (by decide))<|hy (fun m=>ao rfl mG (aA (m.aU 0 rfl) (i:=0) rfl))<| ?_
  refine cI (zq (enc:=SV) 1 rfl rfl rfl Tryz.underlying174 (kW Tryz.underlying9) ?_)
  refine ag<|aB [13,5,4,2,0,1] rfl<|aj (X' :=[_,_]) (S' :=[]) (fun _ m=>m)<|ab<|ai<|aw rfl<|hy (fun _=>aF rfl C7 (by decide))<|hy (fun m=>ao rfl mG (aA (m.aU 1 rfl) (i:=1) rfl))<|aw rfl<| ?_
  refine cI (qu (enc:=SV) 0 rfl rfl rfl rfl Tryz.underlying174 (kW Tryz.underlying9) ?_)
  refine ag<|aB [13,5,4,2,0,1] rfl<|aj (X' :=[_,_]) (S' :=[]) (fun _ m=>m)<| ?_
  have e:cP (fv (en l) a) c r.val=en (uc l (.renamed a c)):=by rw[uc,h1,uj,rj]
  refine aj (fun w m=>m.bz 0 rfl (show _=dV SV g (en (uc l (.renamed a c)))from congrArg (dV SV g) e)) ?_
  exact eU trivial rfl [0] rfl [] rfl ⟨rfl,rfl,rfl⟩
def da.kG(st:da)(c:jF)(A:Option Addr)(k:Nat):da:={st.fJ with seen:=uc st.seen c,waits:=st.waits++[c],wA:=A,wc:=k}
theorem oN{l:dY}{p:List UInt8}{x:aR}(h:x∈(fv l p).map (·.2)):x∈l.map (·.2):=by
 induction l with
 |nil=>exact h
 |cons a q ih=>
  obtain⟨k,u⟩:=a
  simp only[fv]at h
  split at h
  ·exact List.mem_cons_of_mem _ h
  ·simp only[List.map_cons,List.mem_cons]at h ⊢
   rcases h with rfl|h
   ·exact .inl rfl
   ·exact .inr (ih h)
theorem BA{l:dY}{c:jF}(hc:c.row=none){x:aR}(h:x∈(uc l c).map (·.2)):x∈l.map (·.2):=by
 cases c with
 |written p r=>cases hc
 |renamed a b=>
  simp only[uc]at h
  split at h
  ·exact h
  ·rename_i r hr
   rcases oL h with h|h
   ·exact oN h
   ·exact h▸List.mem_map.2 ⟨_,jR hr,rfl⟩
 |removed p=>exact oN h
theorem DC(l:dY)(c:jF):(uc l c).length≤l.length+1:=by
 cases c with
 |written p r=>exact q8 l p r
 |renamed a b=>
  simp only[uc]
  split
  ·omega
  ·rename_i r hr
   have h1:=q8 (fv l a) b r
   have h2:=vP l a
   omega
 |removed p=>have h2:=vP l p;show(fv l p).length≤_;omega
theorem u6{st:da}{c:jF}{A:Option Addr}{k:Nat}(hc:c.row=none):∀x∈rowsOf (st.kG c A k),x∈rowsOf st:=by
 intro x hx
 unfold rowsOf da.kG at hx
 simp only[da.fJ,List.mem_append,List.filterMap_append]at hx
 unfold rowsOf
 simp only[List.mem_append]
 rcases hx with(h|h)|h|h
 ·exact .inl (.inl (BA hc h))
 ·exact .inl (.inr h)
 ·exact .inr h
 ·simp[hc]at h
theorem pQ.kG{st:da}{k:Nat}(h:pQ st k){c:jF}(hc:c.row=none)(A:Option Addr)(j:Nat):pQ (st.kG c A j) (k+1):=by
 refine⟨kI h.ck,h.room, ?_, ?_,fun x hx=>h.small x (u6 hc x hx)⟩
 ·have:=DC st.seen c
  have:=h.seen
  show(uc st.seen c).length≤k+1
  omega
 ·have:=h.rest
  show st.dm.length+(st.waits++[c]).length≤k+1
  simp only[List.length_append,List.length_cons,List.length_nil]
  omega
theorem J6{g:Nat}{st:da}{a c:List UInt8}(hp:st.ck≤1000000000000)(hw:st.waits.length≤1000000):b7 Tryz.prog 116 [.pointer (some ⟨g,0,none⟩),(jF.renamed a c).val] [bF g st] [] (fun v_ X_ S_=>∃A k,v_=(.tuple #[])∧X_=[bF g (st.kG (.renamed a c) A k)]∧S_=[]):=by
 have hsw:st.fJ.waits.length=st.waits.length:=rfl
 refine aM (N:=25) Tryz.func116 rfl rfl (by simp) fun b=> ?_
 refine ae<|ai<|aw rfl<| ?_
 refine hx (aq rfl Tryz.call181 (wv (by omega)) [0] rfl [] rfl ?_)
 rintro _ _ _ ⟨rfl,rfl,rfl⟩
 refine aJ (fun w m=>(m.perm (ar [0] _ [_] _ rfl)).unpack) ?_
 refine ag<|aB [0,1] rfl<|aj (X' :=[_,_,_,_,_]) (S' :=[]) (fun _ m=>m)<|ab<|ae<|cD [8] [(0,some 0),(1,some 0),(2,some 0),(3,some 0),(4,some 0),(5,some 0),(6,some 0),(7,some 0),(8,none)] (by kernel_rfl) (by kernel_rfl) rfl 0<|ak (ah rfl)<|ak (ah rfl)<|ak (aO rfl)<|ak (aF rfl iZ (by decide))<|bZ (fun m=>ao rfl pg (aA (m.aU 0 rfl) rfl))<|ak (fU rfl rfl)<|ak (AT rfl (by kernel_rfl))<|ak (ah rfl)<| ?_
 refine dF (As rfl rfl (fun w=>by kernel_rfl) Tryz.call337 (HK) [1] rfl [] rfl ?_)
 rintro _ _ _ ⟨rfl,rfl,rfl⟩
 refine⟨(fun h=>absurd h (by decide)), ?_⟩
 refine bq<|aB [0,1] rfl<|aj (X' :=[_,_,_,_,_]) (S' :=[]) (fun _ m=>m)<|ab<|ai<|aw rfl<|aw rfl<|hy (fun _=>aO rfl)<|hy (fun _=>aF rfl lv (by decide))<|hy (fun m=>ao rfl Cf (aA (m.aU 1 rfl) rfl))<|aw rfl<| ?_
 refine hx (bQ Tryz.underlying175 x3 rfl rfl rfl (by simp[Value.cells,jF.val]) (by decide) (by decide) (fun g21=> ?_))
 have hA_b21:0<1→(some (⟨g21,0,none⟩:Addr))≠none:=fun _ h=>by cases h
 refine aJ (fun w m=>m.bz 0 rfl (show _=aK 232 1 (.slice (some ⟨g21,0,none⟩) 1 1) 1 [((jF.renamed a c)).val]from rfl)) ?_
 refine hx (bs 4 rfl rfl rfl Tryz.underlying175 Tryz.underlying175 (by exact .inl rfl) x3 rfl (fun m=>Src.bJ (m.ord 0 rfl)) (by simp[jF.val,Value.oneCell']) (by unfold maxLen;omega) (by omega) (fun u=> ?_))
 refine az (fun m=>(m.own 0 rfl).slice) ?_
 rintro⟨A_d3,c_d3,rfl,hc_d3⟩
 refine az (fun m=>(m.ord 0 rfl).2.1) fun hA_d3=> ?_
 refine hy (fun _=>aO rfl)<|hy (fun _=>aF rfl lv (by decide))<| ?_
 refine cI (b9 3 rfl rfl rfl Af rfl (by first|exact Nat.le_of_ble_eq_true rfl|simp) ?_)
 refine ag<|aB [0,1] rfl<|aj (X' :=[_,_,_,_,_,_]) (S' :=[]) (fun _ m=>m)<| ?_
 refine aj (fun w m=>m.bz 0 rfl (show _=aH g 177 (j1 (st.kG ((jF.renamed a c)) A_d3 c_d3))from by simp[j1,da.kG,da.fJ])) ?_
 refine aj (fun w m=>m.bz 3 rfl (show _=dV SV st.gs (en (st.kG ((jF.renamed a c)) A_d3 c_d3).seen)from rfl)) ?_
 refine aj (fun w m=>m.bz 2 rfl (show _=aK 232 1 (.slice A_d3 (st.kG ((jF.renamed a c)) A_d3 c_d3).waits.length c_d3) (st.kG ((jF.renamed a c)) A_d3 c_d3).waits.length ((st.kG ((jF.renamed a c)) A_d3 c_d3).waits.map jF.val)from by simp[da.kG,da.fJ])) ?_
 refine aj (X' :=dH (rowsOf (st.kG ((jF.renamed a c)) A_d3 c_d3))::_) (fun w m=>(m.perm (ar [5] _ [_] _ rfl)).Ac ((u6 rfl))) ?_
 refine aj (X' :=bF g (st.kG ((jF.renamed a c)) A_d3 c_d3)::_) (fun w m=>(m.perm (ar [3,2,3,1,0] _ [_,_,_,_,_] _ rfl)).pack) ?_
 exact eU trivial rfl [0] rfl [] rfl ⟨_,_,rfl,rfl,rfl⟩
def cg(st:da)(a c:List UInt8):Int:=if¬gv c then 1 else eJ st a
theorem DA{g:Nat}{st:da}{a c:List UInt8}{k:Nat}(ok:pQ st k)(hk:k≤100000):b7 Tryz.prog 108 [.pointer (some ⟨g,0,none⟩),.string (strOf a),.string (strOf c)] [bF g st] [] (fun v_ X_ S_=>∃st1 A j,v_=(.int .i64 (cg st a c))∧X_=[bF g st1]∧S_=[]∧((cg st a c≠0∧st1=st)∨(cg st a c=0∧st1=st.kG (.renamed a c) A j))):=by
 have hp:=ok.ck
 have hw:st.waits.length≤1000000:=by have:=ok.rest;omega
 refine aM (N:=23) Tryz.func108 rfl rfl (by simp) fun b=> ?_
 refine ae<|ai<|aG rfl<|ag<|ab<|ae<|ae<|ai<|aw rfl<| ?_
 refine hx (aq rfl Tryz.call115 (AK) [] rfl [] rfl ?_)
 rintro _ _ _ ⟨rfl,rfl,rfl⟩
 refine hy (fun _=>fl rfl)<|ag<|aB [10,6,0,1,2] rfl<|aj (X' :=[_]) (S' :=[]) (fun _ m=>m)<|ab<| ?_
 refine cB rfl (fun h1=> ?_) (fun h1=> ?_)
 ·have e:cg st a c=1:=by rw[cg,if_pos h1]
  rw[e]
  refine ae<|ai<|aG rfl<|ag<|ab<|aV<|ay<| ?_
  exact bc trivial rfl rfl [0] rfl [] rfl ⟨_,none,0,rfl,rfl,rfl,.inl ⟨by decide,rfl⟩⟩
 ·have e:cg st a c=eJ st a:=by rw[cg,if_neg h1]
  rw[e]
  refine aC<|ab<|ae<|ae<|ai<|aw rfl<|aw rfl<| ?_
  refine hx (aq rfl Tryz.call158 (AW) [0] rfl [] rfl ?_)
  rintro _ _ _ ⟨rfl,rfl,rfl⟩
  refine aG rfl<|ag<|aB [7,10,6,0,1,2] rfl<|aj (X' :=[_]) (S' :=[]) (fun _ m=>m)<|ab<|ae<|ai<|aw rfl<|hy (fun _=>cT rfl rfl)<|ag<|aB [15,7,10,6,0,1,2] rfl<|ab<| ?_
  refine cB rfl (fun h2=> ?_) (fun h2=> ?_)
  ·refine ae<|ai<|aw rfl<|aG rfl<|ag<|aB [6,15,7,10,0,1,2] rfl<|ab<|aV<|ay<| ?_
   exact bc trivial rfl rfl [0] rfl [] rfl ⟨_,none,0,rfl,rfl,rfl,.inl ⟨h2,rfl⟩⟩
  ·have h0:=Decidable.not_not.1 h2
   rw[h0]
   refine aC<|ab<|ae<|ai<|aw rfl<|aw rfl<|aw rfl<|hy (fun _=>yV (bU Io rfl rfl (by kernel_rfl) (.cons (o:=0) (sz:=1) (by kernel_rfl) rfl rfl (Nat.le_of_ble_eq_true rfl) (.cons (o:=1) (sz:=1) (by kernel_rfl) rfl rfl (Nat.le_of_ble_eq_true rfl) .nil))) ((rfl:_=Value.agg [SV a,SV c].toArray)))<|hy (fun _=>yV (l9 rfl Tryz.underlying257 (fun _ h=>by cases h)) ((rfl:_=(jF.renamed a c).val)))<| ?_
   refine hx (aq rfl Tryz.call116 (J6 (by omega) (by omega)) [0] rfl [] rfl ?_)
   rintro _ _ _ ⟨A,k2,rfl,rfl,rfl⟩
   refine ag<|aB [15,7,10,6,0,1,2] rfl<|aj (X' :=[_]) (S' :=[]) (fun _ m=>m)<|ab<|ae<|ai<|aG rfl<|ag<|ab<|aV<| ?_
   exact bc trivial rfl rfl [0] rfl [] rfl ⟨_,_,_,rfl,rfl,rfl,.inr ⟨rfl,rfl⟩⟩
end Go.Proofs.YtmibdabdlgmafaaGreatDoor
end
section
namespace Go.Eng
open Go.RowKit Go.ChangeShapes Go.WideShapes
theorem ry{zs:List Int}(h:∀n∈zs,(Lit.int .u8 n).wf=true):zs.map (Value.int .u8)=aW (zs.map fun n=>UInt8.ofNat n.toNat):=by
 rw[aW,List.map_map]
 apply List.map_congr_left
 intro n hn
 have:=bounds_u8 (h n hn)
 simp only[B8,Function.comp]
 have e:(UInt8.ofNat n.toNat).toNat=n.toNat:=by
  rw[UInt8.toNat_ofNat']
  exact Nat.mod_eq_of_lt (by omega)
 rw[e]
 congr 1
 omega
theorem wX{W:World}{x:Addr}{len cap:Nat}{zs:List Int}(hl:len≤cap)(hz:zs.length=cap)(hcell:∀i,i<zs.length→W.cell? (x.add i)=some (.int .u8 (zs.getD i 0)))(hw:∀n∈zs,(Lit.int .u8 n).wf=true):
  Rd W 1 (some x) len (aW ((zs.take len).map fun n=>UInt8.ofNat n.toNat)):=by
 rw[←ry (fun n hn=>hw n (List.mem_of_mem_take hn))]
 refine⟨by simp;omega,fun _ e=>(by cases e),fun j u hu=> ?_⟩
 have hj:=(List.getElem?_eq_some_iff.1 hu).1
 simp at hj
 have hc:=hcell j (by omega)
 rw[List.getElem?_map,List.getElem?_take,if_pos (by omega)]at hu
 rw[List.getD,List.getElem?_eq_getElem (by omega)]at hc
 rw[List.getElem?_eq_getElem (by omega)]at hu
 simp at hu hc
 rw[Option.getD_some,hc,←hu]
theorem wB{H:Type}{enc:TypeId×Value→H}{P:Program}{W:World}{t e:TypeId}{A:Option Addr}{len cap:Nat}{d:DataW H}{ps:List MemPlace}{spare:Nat→Bool}{held:Bool}
  (hu:P.underlying t=some (.slice e)) (he:P.underlying e=some (.int .u8)) (hc:P.cellsOf e=1) (h:DataW.Trod enc P W 0 spare held t (.slice A len cap) d ps):len≤cap∧∃l,Rd W 1 A len (aW l):=by
 obtain⟨fuel,hf⟩:=h
 rcases open_ints hu he hc hf with⟨hcs,_⟩|⟨x,l,c,zs,hcs,_,hl,hm,hz,_,hcell,hwz⟩
 ·simp[Value.cells]at hcs
  obtain⟨rfl,rfl,rfl⟩:=hcs
  exact⟨Nat.le_refl _,[],Rd.nil _ _ _⟩
 ·simp[Value.cells]at hcs
  obtain⟨rfl,rfl,rfl⟩:=hcs
  refine⟨hl,_,wX (cap:=zs.length) (by rw[hz];split <;> omega) rfl hcell hwz⟩
theorem vD{H:Type}{enc:TypeId×Value→H}{P:Program}{W:World}{base:Nat}{spare:Nat→Bool}{held:Bool}{t e:TypeId}{k:IntKind}{a:Option Addr}{len cap:Nat}{d:DataW H}{ps:List MemPlace}{ts:List TypeId}{ds:List (DataW H)}{j:Nat}
  (hsz:(DataW.weightsEach P ts ds).all (· ≤reachBytes)=true) (ht:ts[j]? =some t) (hd:ds[j]? =some d) (hu:P.underlying t=some (.slice e)) (he:P.underlying e=some (.int k)) (hc:P.cellsOf e=1) (hB:P.bytesOf e=1)
  (h:DataW.Trod enc P W base spare held t (.slice a len cap) d ps):len≤140737488351232:=by
 obtain⟨fuel,hf⟩:=h
 rcases open_ints hu he hc hf with⟨hcs,_⟩|⟨x,l,c,zs,hcs,_,hl,_,hz,hx,_,_⟩
 ·simp[Value.cells]at hcs
  obtain⟨rfl,rfl,rfl⟩:=hcs
  simp
 ·simp[Value.cells]at hcs
  obtain⟨rfl,rfl,rfl⟩:=hcs
  obtain⟨hx,_⟩:=Prod.mk.inj hx
  subst hx
  have z:=sized_slice hsz ht hd hu
  rw[hB,Nat.mul_one]at z
  have hl2:len≤zs.length:=by rw[hz];split <;> omega
  have h1:(lits (H:=H) k (zs.take len)).length+(lits (H:=H) k (zs.drop len)).length=zs.length:=by
   simp[lits]
   omega
  rw[h1]at z
  exact Nat.le_trans hl2 z
theorem vc{H:Type}{enc:TypeId×Value→H}{P:Program}{w:World}{base:Nat}{spare:Nat→Bool}{held:Bool}{r:Reach}{b0:Nat}{t:TypeId}{v:Value}{d:DataW H}{ps:List MemPlace}(ht:P.underlying t=some (.int .i64))(hval:Value.okWide P w r b0 t v)(hd:DataW.Trod enc P w base spare held t v d ps):
  ∃n:Int,v= .int .i64 n∧(-9223372036854775808≤n∧n≤9223372036854775807)∧ps=[]:=by
 obtain⟨n,rfl,_,rfl,hw⟩:=open_int ht hval hd
 refine⟨n,rfl, ?_,rfl⟩
 simp only[Lit.wf,IntKind.min,IntKind.max,IntKind.signed,IntKind.bits]at hw
 simp at hw
 omega
end Go.Eng
end
section
namespace Go.Eng
open Go.RowKit Go.ChangeShapes Go.WideShapes
inductive Cell
 |v (x:Value)
 |s (sz:Nat) (A:Option Addr) (n c:Nat) (xs:List Cell)
def Cell.val:Cell→Value
 | .v x=>x
 | .s _ A n c _=>.slice A n c
mutual
def Cell.dA:Cell→Nat→Prop
 | .v _=>fun _=>False
 | .s _ A _ _ xs=>fun k=>(xs≠ []∧∃a,A=some a∧k=a.block)∨xJ xs k
def xJ:List Cell→Nat→Prop
 | []=>fun _=>False
 |x::r=>fun k=>x.dA k∨xJ r k
end
mutual
def Cell.holds(w:World):Cell→Prop
 | .v _=>True
 | .s sz A n c xs=>Rd w sz A n (xs.map Cell.val)∧n≤c∧im w xs
def im(w:World):List Cell→Prop
 | []=>True
 |x::r=>x.holds w∧im w r
end
theorem gK{w:World}:∀{xs:List Cell},im w xs↔∀x∈xs,x.holds w
 | []=>by simp[im]
 |x::r=>by simp only[im,gK (xs:=r),List.mem_cons,forall_eq_or_imp]
mutual
theorem Cell.iw{S:Nat→Prop}{w w' :World}(f:Fr S w w'):∀(c:Cell),(∀k,c.dA k→¬S k)→c.holds w→c.holds w'
 | .v _,_,_=>trivial
 | .s sz A n c xs,h,hh=>by
  obtain⟨h1,h2,h3⟩:=hh
  refine⟨Rd.iw h1 f (fun k hk=>h k ?_),h2,Fc f xs (fun k hk=>h k (.inr hk)) h3⟩
  obtain⟨hne,a,ha,hk⟩:=hk
  exact .inl ⟨fun e=>hne (by rw[e];rfl),a,ha,hk⟩
theorem Fc{S:Nat→Prop}{w w' :World}(f:Fr S w w'):∀(xs:List Cell),(∀k,xJ xs k→¬S k)→im w xs→im w' xs
 | [],_,_=>trivial
 |x::r,h,hh=>⟨Cell.iw f x (fun k hk=>h k (.inl hk)) hh.1,Fc f r (fun k hk=>h k (.inr hk)) hh.2⟩
end
mutual
theorem Cell.low{w:World}:∀(c:Cell) {k:Nat},c.holds w→c.dA k→k<w.heap.size
 | .v _,_,_,h=>h.elim
 | .s sz A n c xs,k,hh,hk=>by
  obtain⟨h1,h2,h3⟩:=hh
  rcases hk with⟨hne,a,ha,hk⟩|hk
  ·exact(cL sz A n (xs.map Cell.val)).low h1 ⟨fun e=>hne (List.map_eq_nil_iff.1 e),a,ha,hk⟩
  ·exact Iv xs h3 hk
theorem Iv{w:World}:∀(xs:List Cell) {k:Nat},im w xs→xJ xs k→k<w.heap.size
 | [],_,_,h=>h.elim
 |x::r,k,hh,hk=>by
  rcases hk with hk|hk
  ·exact Cell.low x hh.1 hk
  ·exact Iv r hh.2 hk
end
def yM(c:Cell):bl:=⟨c.dA,fun w=>c.holds w,fun f h x=>c.iw f h x,fun x hk=>c.low x hk⟩
theorem View.JU{sz n c:Nat}{A:Option Addr}{xs:List Cell}:View (yM (.s sz A n c xs)) (cL sz A n (xs.map Cell.val)):=
 .of (fun w h=>h.1) (fun k hk=>by
  obtain⟨hne,a,ha,hk⟩:=hk
  exact .inl ⟨fun e=>hne (by rw[e];rfl),a,ha,hk⟩)
inductive Ty(P:Program):TypeId→List Cell→Prop
 |int {t:TypeId} {k:IntKind} {z:Int} (ht:P.underlying t=some (.int k)) (hw:(Lit.int k z).wf=true):Ty P t [.v (.int k z)]
 |bool {t:TypeId} {b:Bool} (ht:P.underlying t=some .bool):Ty P t [.v (.bool b)]
 |str {t:TypeId} {s:List UInt8} (ht:P.underlying t=some .string) (hs:s.length≤140737488351232):Ty P t [.v (.string (strOf s))]
 |slice {t e:TypeId} {A:Option Addr} {n c:Nat} {xs:List Cell} (ht:P.underlying t=some (.slice e)) (hc:n≤c) (hn:n*P.bytesOf e≤140737488351232) (hl:xs.length=n*P.cellsOf e)
   (h:∀i,i<n→Ty P e ((xs.drop (i*P.cellsOf e)).take (P.cellsOf e))):Ty P t [.s (P.cellsOf e) A n c xs]
 |arr {t e:TypeId} {n:Nat} {xs:List Cell} (ht:P.underlying t=some (.array n e)) (hl:xs.length=P.cellsOf t) (h:∀i,i<n→Ty P e ((xs.drop (i*P.cellsOf e)).take (P.cellsOf e))):Ty P t xs
 |struct {t:TypeId} {fs:Array Field} {xs:List Cell} (ht:P.underlying t=some (.struct fs)) (hl:xs.length=P.cellsOf t) (h:∀(i:Nat) (f:Field),fs[i]? =some f→Ty P f.type ((xs.drop f.offset).take (P.cellsOf f.type))):Ty P t xs
def ju(P:Program):List Field→Nat→Nat→Bool
 | [],o,e=>o == e
 |f::r,o,e=>f.offset == o && ju P r (o+P.cellsOf f.type) e
def parts(P:Program):Nat→TypeId→Bool
 |0,_=>false
 |n+1,t=>match P.underlying t with
  |some (.int _)|some .bool|some .string=>true
  |some (.slice e)=>parts P n e && decide (0<P.cellsOf e)
  |some (.array m e)=>parts P n e && (P.cellsOf t == m*P.cellsOf e)
  |some (.struct fs)=>fs.toList.all (fun f=>parts P n f.type) && ju P fs.toList 0 (P.cellsOf t)
  |_=>false
section
variable{H:Type}{enc:TypeId×Value→H}{P:Program}{w:World}{base:Nat}{spare:Nat→Bool}{held:Bool}
theorem zd{b:Nat}{a:Addr}{n:Nat}{cs:List Value}(h:w.cells? b a n=some cs):cs.length=n∧∀j u,cs[j]? =some u→w.cell? (a.add j)=some u:=by
 obtain⟨hb,hl,hcell⟩:=World.cells?_some h
 refine⟨hl,fun j u hu=> ?_⟩
 have hj:j<n:=by rw[←hl];exact(List.getElem?_eq_some_iff.1 hu).1
 rw[hcell j hj,hu]
theorem iU{e:TypeId}{d:DataW H}{n:Nat}:∀{ds:List (DataW H)},d∈ds→n∈d.weights P e→n∈DataW.weightsAll P e ds
 | [],h,_=>by cases h
 |a::r,h,hn=>by
  simp only[DataW.weightsAll,List.mem_append]
  rcases List.mem_cons.1 h with rfl|h
  ·exact .inl hn
  ·exact .inr (iU h hn)
theorem pieces{sz:Nat}{Q:List Cell→Prop}{R:Nat→List Value→Prop}:∀(m:Nat),(∀i,i<m→∃ys:List Cell,ys.length=sz∧Q ys∧R i (ys.map Cell.val)∧im w ys)→
  ∃xs:List Cell,xs.length=m*sz∧(∀i,i<m→Q ((xs.drop (i*sz)).take sz)∧R i (((xs.drop (i*sz)).take sz).map Cell.val))∧im w xs
 |0,_=>⟨[],by simp,fun i hi=>absurd hi (by omega),trivial⟩
 |m+1,h=>by
  obtain⟨xs,h1,h2,h3⟩:=pieces m (fun i hi=>h i (by omega))
  obtain⟨ys,h4,h5,h6,h7⟩:=h m (by omega)
  have hlen:(m+1)*sz=m*sz+sz:=by rw[Nat.add_mul,Nat.one_mul]
  refine⟨xs++ys,by rw[List.length_append,h1,h4,hlen],fun i hi=> ?_,gK.2 fun x hx=> ?_⟩
  ·by_cases hm:i=m
   ·subst hm
    have e:((xs++ys).drop (i*sz)).take sz=ys:=by
     rw[←h1,List.drop_left,List.take_of_length_le (by omega)]
    rw[e]
    exact⟨h5,h6⟩
   ·have hi' :i<m:=by omega
    have hle:i*sz+sz≤m*sz:=by
     have:=Nat.mul_le_mul_right sz (show i+1≤m by omega)
     rwa [Nat.add_mul,Nat.one_mul]at this
    have e:((xs++ys).drop (i*sz)).take sz=(xs.drop (i*sz)).take sz:=by
     rw[List.drop_append_of_le_length (by omega),List.take_append_of_le_length (by rw[List.length_drop];omega)]
    rw[e]
    exact h2 i hi'
  ·rcases List.mem_append.1 hx with hx|hx
   ·exact gK.1 h3 x hx
   ·exact gK.1 h7 x hx
theorem ox{xs:List Value}{sz i j:Nat}(hj:j<sz):((xs.drop (i*sz)).take sz)[j]? =xs[i*sz+j]? :=by
 rw[List.getElem?_take,if_pos hj,List.getElem?_drop]
theorem od{cs:List Value}:∀(fs:List Field) (o e:Nat),ju P fs o e=true→(∀f∈fs,∃ys:List Cell,ys.length=P.cellsOf f.type∧Ty P f.type ys∧ys.map Cell.val=(cs.drop f.offset).take (P.cellsOf f.type)∧im w ys)→
  o≤e∧∃xs:List Cell,xs.length=e-o∧xs.map Cell.val=(cs.drop o).take (e-o)∧im w xs∧∀f∈fs,o≤f.offset∧Ty P f.type ((xs.drop (f.offset-o)).take (P.cellsOf f.type))
 | [],o,e,hc,_=>by
  have:o=e:=by simpa[ju]using hc
  subst this
  exact⟨Nat.le_refl _,[],by simp,by simp,trivial,by simp⟩
 |f::r,o,e,hc,h=>by
  simp only[ju,Bool.and_eq_true,beq_iff_eq]at hc
  obtain⟨h0,hc⟩:=hc
  obtain⟨hle,xs,h1,h2,h3,h4⟩:=od r _ e hc (fun g hg=>h g (List.mem_cons_of_mem _ hg))
  obtain⟨ys,h5,h6,h7,h8⟩:=h f (List.mem_cons_self ..)
  rw[h0]at h7
  refine⟨by omega,ys++xs,by rw[List.length_append,h1,h5];omega, ?_,gK.2 fun x hx=> ?_,fun g hg=> ?_⟩
  ·rw[List.map_append,h7,h2,←List.drop_drop,show e-o=P.cellsOf f.type+(e-(o+P.cellsOf f.type)) by omega,List.take_add]
  ·rcases List.mem_append.1 hx with hx|hx
   ·exact gK.1 h8 x hx
   ·exact gK.1 h3 x hx
  ·rcases List.mem_cons.1 hg with rfl|hg
   ·refine⟨by omega, ?_⟩
    rw[h0,Nat.sub_self,List.drop_zero,←h5,List.take_left]
    exact h6
   ·obtain⟨h9,h10⟩:=h4 g hg
    refine⟨by omega, ?_⟩
    have e1:(ys++xs).drop (g.offset-o)=xs.drop (g.offset-(o+P.cellsOf f.type)):=by
     rw[List.drop_append,List.drop_of_length_le (by omega),List.nil_append]
     congr 1
     omega
    rw[e1]
    exact h10
theorem ku:∀(k fuel:Nat) (t:TypeId) (cs:List Value) (x:DataW H×List MemPlace),parts P k t=true→DataW.trod enc P w 0 spare held fuel t cs=some x→(∀q∈DataW.weights P t x.1,q≤140737488351232)→∃xs:List Cell,xs.map Cell.val=cs∧im w xs∧Ty P t xs
 |0,fuel,t,cs,x,hp,_,_=>by simp[parts]at hp
 |k+1,fuel,t,cs,x,hp,h,hw=>by
  unfold parts at hp
  split at hp
  ·rename_i q ht
   obtain⟨z,rfl,_,hz⟩:=DataW.trod_int ht h
   exact⟨[.v (.int q z)],rfl,⟨trivial,trivial⟩,.int ht hz⟩
  ·rename_i ht
   obtain⟨b,rfl,_⟩:=DataW.trod_bool ht h
   exact⟨[.v (.bool b)],rfl,⟨trivial,trivial⟩,.bool ht⟩
  ·rename_i ht
   obtain⟨s,rfl,hx,_⟩:=DataW.trod_string ht h
   have h1:=hw s.data.toList.length (by rw[hx];simp[DataW.weights])
   exact⟨[.v (.string s)],rfl,⟨trivial,trivial⟩,.str (s:=bytesOf s) ht h1⟩
  ·rename_i e ht
   simp only[Bool.and_eq_true,decide_eq_true_eq]at hp
   rcases DataW.trod_slice ht h with⟨rfl,rfl⟩|⟨a,len,cap,elems,rest,m,_,rfl,hx,hb,hl,hm,hlen,hel,_,_⟩
   ·exact⟨[.s (P.cellsOf e) none 0 0 []],rfl,⟨⟨Rd.nil _ _ _,Nat.le_refl _,trivial⟩,trivial⟩,.slice ht (Nat.le_refl _) (by simp) (by simp) (fun i hi=>absurd hi (by omega))⟩
   ·have hwe:∀d∈elems.map (·.1),∀q∈DataW.weights P e d,q≤140737488351232:=fun d hd q hq=>hw q (by
     rw[hx]
     simp only[DataW.weights,ht,List.mem_cons,List.mem_append]
     exact .inr (.inl (iU hd hq)))
    obtain⟨xs,h1,h2,h3⟩:=pieces (w:=w) (sz:=P.cellsOf e) (Q:=Ty P e) (R:=fun i vs=>∀j u,vs[j]? =some u→w.cell? (a.add (i*P.cellsOf e+j))=some u) len (fun i hi=>by
     have h1:=hel i hi
     rw[List.getElem?_eq_getElem (by omega)]at h1
     obtain⟨c,hc1,hc2⟩:=Option.bind_eq_some_iff.1 h1
     obtain⟨hcl,hcc⟩:=zd hc1
     obtain⟨ys,h4,h5,h6⟩:=ku k _ e c _ hp.1 hc2 (fun q hq=>hwe _ (List.mem_map.2 ⟨_,List.getElem_mem _,rfl⟩) q hq)
     refine⟨ys,by rw[←hcl,←h4,List.length_map],h6,fun j u hu=> ?_,h5⟩
     rw[h4]at hu
     have:=hcc j u hu
     rwa [add_add]at this)
    have hR:Rd w (P.cellsOf e) (some a) len (xs.map Cell.val):=⟨by rw[List.length_map,h1],fun _ e=>(by cases e),fun q u hu=>by
     have hq:q<len*P.cellsOf e:=by
      have:=(List.getElem?_eq_some_iff.1 hu).1
      rwa [List.length_map,h1]at this
     have hd:q/P.cellsOf e<len:=(Nat.div_lt_iff_lt_mul hp.2).2 hq
     have hmod:=Nat.mod_lt q hp.2
     have hqe:q/P.cellsOf e*P.cellsOf e+q % P.cellsOf e=q:=by
      have:=Nat.div_add_mod q (P.cellsOf e)
      rw[Nat.mul_comm]at this
      exact this
     have:=(h2 _ hd).2 (q % P.cellsOf e) u (by rw[List.map_take,List.map_drop,ox hmod,hqe];exact hu)
     rw[hqe]at this
     simpa using this⟩
    have hn:len*P.bytesOf e≤140737488351232:=by
     have:=hw ((elems.length+rest.length)*P.bytesOf e) (by rw[hx];simp[DataW.weights,ht])
     rw[hlen,Nat.add_mul]at this
     omega
    exact⟨[.s (P.cellsOf e) (some a) len cap xs],rfl,⟨⟨hR,hl,h3⟩,trivial⟩,.slice ht hl hn h1 (fun i hi=>(h2 i hi).1)⟩
  ·rename_i m e ht
   simp only[Bool.and_eq_true,beq_iff_eq]at hp
   obtain⟨ys,n,_,hx,hlen,hyl,hel⟩:=DataW.trod_array ht h
   have hwe:∀d∈ys.map (·.1),∀q∈DataW.weights P e d,q≤140737488351232:=fun d hd q hq=>hw q (by
    rw[hx]
    simp only[DataW.weights,ht]
    exact iU hd hq)
   obtain⟨xs,h1,h2,h3⟩:=pieces (w:=w) (sz:=P.cellsOf e) (Q:=Ty P e) (R:=fun i vs=>vs=(cs.drop (i*P.cellsOf e)).take (P.cellsOf e)) m (fun i hi=>by
    have h1:=hel i hi
    rw[List.getElem?_eq_getElem (by omega)]at h1
    obtain⟨zs,h4,h5,h6⟩:=ku k _ e _ _ hp.1 h1 (fun q hq=>hwe _ (List.mem_map.2 ⟨_,List.getElem_mem _,rfl⟩) q hq)
    refine⟨zs, ?_,h6,h4,h5⟩
    have:=congrArg List.length h4
    rw[List.length_map,List.length_take,List.length_drop,hlen,hp.2]at this
    have hle:i*P.cellsOf e+P.cellsOf e≤m*P.cellsOf e:=by
     have:=Nat.mul_le_mul_right (P.cellsOf e) (show i+1≤m by omega)
     rwa [Nat.add_mul,Nat.one_mul]at this
    omega)
   refine⟨xs, ?_,h3,.arr ht (by rw[h1,hp.2]) (fun i hi=>(h2 i hi).1)⟩
   apply List.ext_getElem?
   intro q
   by_cases hq:q<m*P.cellsOf e
   ·have hpos:0<P.cellsOf e:=by
     rcases Nat.eq_zero_or_pos (P.cellsOf e)with h0|h0
     ·rw[h0,Nat.mul_zero]at hq;omega
     ·exact h0
    have hd:q/P.cellsOf e<m:=(Nat.div_lt_iff_lt_mul hpos).2 hq
    have hmod:=Nat.mod_lt q hpos
    have hqe:q/P.cellsOf e*P.cellsOf e+q % P.cellsOf e=q:=by
     have:=Nat.div_add_mod q (P.cellsOf e)
     rw[Nat.mul_comm]at this
     exact this
    have h4:=congrArg (fun l:List Value=>l[q % P.cellsOf e]?) (h2 _ hd).2
    simp only[List.map_take,List.map_drop]at h4
    rwa [ox hmod,ox hmod,hqe]at h4
   ·rw[List.getElem?_eq_none (by rw[List.length_map,h1];omega),List.getElem?_eq_none (by rw[hlen,hp.2];omega)]
  ·rename_i fs ht
   simp only[Bool.and_eq_true,List.all_eq_true]at hp
   obtain⟨ys,n,_,hx,hlen,hyl,hel⟩:=DataW.trod_struct ht h
   have hw2:∀(i:Nat) (f:Field) (d:DataW H),fs[i]? =some f→(ys.map (·.1))[i]? =some d→∀q∈DataW.weights P f.type d,q≤140737488351232:=fun i f d hf hd q hq=>hw q (by
    rw[hx]
    simp only[DataW.weights,ht]
    exact DataW.weights_mem_each (j:=i) (t:=f.type) (d:=d) (by simp[hf]) hd q hq)
   obtain⟨_,xs,h1,h2,h3,h4⟩:=od (P:=P) (w:=w) (cs:=cs) fs.toList 0 (P.cellsOf t) hp.2 (fun f hf=>by
    obtain⟨i,hi⟩:=List.mem_iff_getElem?.1 hf
    have hi' :fs[i]? =some f:=by simpa using hi
    have h1:=hel i f hi'
    have hlt:i<ys.length:=by
     rw[hyl]
     exact(Array.getElem?_eq_some_iff.1 hi').1
    rw[List.getElem?_eq_getElem hlt]at h1
    obtain⟨zs,h5,h6,h7⟩:=ku k _ f.type _ _ (hp.1 f hf) h1 (fun q hq=>hw2 i f _ hi' (by rw[List.getElem?_map,List.getElem?_eq_getElem hlt];rfl) q hq)
    have hz:zs.length=P.cellsOf f.type:=by
     have hz:=congrArg List.length h5
     rw[List.length_map,List.length_take,List.length_drop,hlen]at hz
     have hin:∀(l:List Field) (o e:Nat),ju P l o e=true→f∈l→f.offset+P.cellsOf f.type≤e∧o≤e:=by
      intro l
      induction l with
      |nil=>intro o e _ hm;cases hm
      |cons g r ih=>
       intro o e hc hm
       simp only[ju,Bool.and_eq_true,beq_iff_eq]at hc
       have hge:∀(l:List Field) (o e:Nat),ju P l o e=true→o≤e:=by
        intro l
        induction l with
        |nil=>intro o e hc;simp[ju]at hc;omega
        |cons g r ih=>intro o e hc;simp only[ju,Bool.and_eq_true,beq_iff_eq]at hc;have:=ih _ _ hc.2;omega
       rcases List.mem_cons.1 hm with rfl|hm
       ·have:=hge _ _ _ hc.2
        omega
       ·have:=ih _ _ hc.2 hm
        omega
     have:=hin _ _ _ hp.2 hf
     omega
    exact⟨zs,hz,h7,h5,h6⟩)
   refine⟨xs, ?_,h3,.struct ht (by rw[h1];omega) (fun i f hf=> ?_)⟩
   ·rw[h2,List.drop_zero,Nat.sub_zero,←hlen,List.take_length]
   ·have:=(h4 f (by rw[Array.mem_toList_iff];exact Array.mem_of_getElem? hf)).2
    rwa [Nat.sub_zero]at this
  ·cases hp
end
section
variable{P:Program}{t e:TypeId}{xs:List Cell}
theorem HH{k:IntKind}(ht:P.underlying t=some (.int k))(h:Ty P t xs):∃z,xs=[.v (.int k z)]∧(Lit.int k z).wf=true:=by
 cases h with
 |int ht' hw=>rw[ht]at ht';cases ht';exact⟨_,rfl,hw⟩
 |bool ht' =>rw[ht]at ht';cases ht'
 |str ht' =>rw[ht]at ht';cases ht'
 |slice ht' =>rw[ht]at ht';cases ht'
 |arr ht' =>rw[ht]at ht';cases ht'
 |struct ht' =>rw[ht]at ht';cases ht'
theorem tA(ht:P.underlying t=some (.int .i64))(h:Ty P t xs):∃z,xs=[.v (.int .i64 z)]∧-9223372036854775808≤z∧z≤9223372036854775807:=by
 obtain⟨z,rfl,hw⟩:=HH ht h
 refine⟨z,rfl, ?_⟩
 simp only[Lit.wf,IntKind.min,IntKind.max,IntKind.signed,IntKind.bits]at hw
 simp at hw
 omega
theorem uC(ht:P.underlying t=some (.slice e))(h:Ty P t xs):∃A n c ys,xs=[.s (P.cellsOf e) A n c ys]∧n≤c∧n*P.bytesOf e≤140737488351232∧ys.length=n*P.cellsOf e∧∀i,i<n→Ty P e ((ys.drop (i*P.cellsOf e)).take (P.cellsOf e)):=by
 cases h with
 |int ht' =>rw[ht]at ht';cases ht'
 |bool ht' =>rw[ht]at ht';cases ht'
 |str ht' =>rw[ht]at ht';cases ht'
 |slice ht' hc hn hl h=>rw[ht]at ht';cases ht';exact⟨_,_,_,_,rfl,hc,hn,hl,h⟩
 |arr ht' =>rw[ht]at ht';cases ht'
 |struct ht' =>rw[ht]at ht';cases ht'
theorem zb{fs:Array Field}(ht:P.underlying t=some (.struct fs))(h:Ty P t xs):xs.length=P.cellsOf t∧∀(i:Nat) (f:Field),fs[i]? =some f→Ty P f.type ((xs.drop f.offset).take (P.cellsOf f.type)):=by
 cases h with
 |int ht' =>rw[ht]at ht';cases ht'
 |bool ht' =>rw[ht]at ht';cases ht'
 |str ht' =>rw[ht]at ht';cases ht'
 |slice ht' =>rw[ht]at ht';cases ht'
 |arr ht' =>rw[ht]at ht';cases ht'
 |struct ht' hl h=>rw[ht]at ht';cases ht';exact⟨hl,h⟩
end
theorem fC{w:World}{sz n i o:Nat}{A:Option Addr}{xs:List Value}{u:Value}(h:Rd w sz A n xs)(hu:xs[i*sz+o]? =some u):w.cell? (((A.getD d0).add (i*sz)).add o)=some u:=by
 rw[add_add]
 exact h.cell hu
theorem View.rowOf{sz n c:Nat}{A:Option Addr}{xs:List Cell}{vs:List Value}(h:xs.map Cell.val=vs):View (yM (.s sz A n c xs)) (cL sz A n vs):=h▸View.JU
section
variable{H:Type}{enc:TypeId×Value→H}{P:Program}{W:World}{spare:Nat→Bool}{held:Bool}{tss:List TypeId}{dss:List (DataW H)}
theorem qS{t:TypeId}{v:Value}{d:DataW H}{ps:List MemPlace}{j:Nat}(k:Nat)(hp:parts P k t=true)(h:DataW.Trod enc P W 0 spare held t v d ps)(hsz:(DataW.weightsEach P tss dss).all (· ≤reachBytes)=true)(hjt:tss[j]? =some t)(hjd:dss[j]? =some d):
  ∃xs:List Cell,xs.map Cell.val=v.cells.toList∧im W xs∧Ty P t xs:=by
 obtain⟨fuel,hf⟩:=h
 refine ku k fuel t _ _ hp hf (fun q hq=> ?_)
 have:=List.all_eq_true.1 hsz q (DataW.weights_mem_each hjt hjd q hq)
 have hr:reachBytes=140737488351232:=rfl
 simp at this
 omega
theorem Db{t e:TypeId}{A:Option Addr}{n c:Nat}{d:DataW H}{ps:List MemPlace}{j:Nat}(k:Nat)(hp:parts P k t=true)(ht:P.underlying t=some (.slice e))(h:DataW.Trod enc P W 0 spare held t (.slice A n c) d ps)(hsz:(DataW.weightsEach P tss dss).all (· ≤reachBytes)=true)(hjt:tss[j]? =some t)(hjd:dss[j]? =some d):
  ∃ys:List Cell,(yM (.s (P.cellsOf e) A n c ys)).holds W∧Ty P t [.s (P.cellsOf e) A n c ys]:=by
 obtain⟨xs,h1,h2,h3⟩:=qS k hp h hsz hjt hjd
 obtain⟨A',n',c',ys,rfl,_⟩:=uC ht h3
 have e1:[Cell.val (.s (P.cellsOf e) A' n' c' ys)]=[Value.slice A n c]:=h1
 simp only[Cell.val,List.cons.injEq,Value.slice.injEq,and_true]at e1
 obtain⟨rfl,rfl,rfl⟩:=e1
 exact⟨ys,h2.1,h3⟩
end
end Go.Eng
end
section
namespace Go.Eng
open Go.RowKit Go.ChangeShapes Go.WideShapes
section
variable{H:Type}{enc:TypeId×Value→H}{P:Program}{W:World}{spare:Nat→Bool}{held:Bool}{tss:List TypeId}{dss:List (DataW H)}
theorem CH{r:Reach}{b0:Nat}{t:TypeId}{fs:Array Field}{v:Value}{d:DataW H}{ps:List MemPlace}{j:Nat}(k:Nat)(hp:parts P k t=true)(ht:P.underlying t=some (.struct fs))(hval:Value.okWide P W r b0 t v)(h:DataW.Trod enc P W 0 spare held t v d ps)(hsz:(DataW.weightsEach P tss dss).all (· ≤reachBytes)=true)(hjt:tss[j]? =some t)(hjd:dss[j]? =some d):
  ∃xs:List Cell,v= .agg (xs.map Cell.val).toArray∧im W xs∧Ty P t xs:=by
 obtain⟨xs,h1,h2,h3⟩:=qS k hp h hsz hjt hjd
 simp only[Value.okWide,ht]at hval
 obtain⟨cs,rfl,_,_⟩:=hval
 refine⟨xs, ?_,h2,h3⟩
 congr 1
 apply Array.toList_inj.1
 simpa[Value.cells]using h1.symm
end
end Go.Eng
end
section
set_option maxRecDepth 20000
namespace Go.Proofs.YtmibdabdlgmafaaGreatDoor
open Go.Eng Go.Hx
def kF(x:UInt32):UInt32:=x*2+x/2147483648
def mH(x:UInt32):Nat→UInt32
 |0=>x
 |k+1=>kF (mH x k)
def Fq(x:UInt32):UInt32:=
 let a:=x ^^^ (x*8192)
 let b:=a ^^^ (a/131072)
 b ^^^ (b*32)
def A8:Nat→UInt32
 |0=>2654435769
 |k+1=>Fq (A8 k)
def nX(i:Nat):List UInt32:=(List.range i).map fun k=>A8 (k+1)
theorem tK(i:Nat):(nX i).length=i:=by simp[nX]
theorem qf(i:Nat):nX (i+1)=nX i++[A8 (i+1)]:=by simp[nX,List.range_succ]
def bE:List UInt32:=nX 256
theorem bD:bE.length=256:=tK 256
def gy(w:List UInt32)(b:List UInt8):Nat→Nat→UInt32
 |_,0=>0
 |i,k+1=>gy w b i k ^^^ mH (w.getD (b.getD (i+k) 0).toNat 0) (b.length-1-(i+k))
def eH(w:List UInt32)(b:List UInt8):UInt32:=gy w b (b.length-16) (b.length-(b.length-16))
theorem Jh{x:UInt32}{n:Nat}(hn:n≤1000000):b7 Tryz.prog 245 [Wd x,.int .i64 (n:Int)] [] [] (fun v_ X_ S_=>v_=(Wd (mH x n))∧X_=[]∧S_=[]):=by
 refine aM (N:=17) Tryz.func245 rfl rfl (by simp) fun b=> ?_
 refine ae<|ai<|aG rfl<|ag<|ab<|ae<|ae<|ai<|aG rfl<|ag<|ab<|aN<| ?_
 refine de (fun i=>n-i) (fun i=>[(5,.int .i64 (i:Nat)),(0,Wd (mH x i))]) (fun i=>[]) (fun i=>[]) (fun i=>i≤n) 0 [(4,_),(1,_)] ⟨rfl,rfl,trivial⟩ [] rfl [] rfl (Nat.zero_le _) ⟨rfl,rfl,trivial⟩ (fun i hi=> ?_)
 refine ae<|ae<|ai<|aw rfl<|aw rfl<|hy (fun _=>bw rfl rfl)<|ag<|aB [8,5,0,4,1] rfl<|ab<| ?_
 refine cB rfl (fun hlt=> ?_) (fun hlt=> ?_)
 ·refine aC<|ab<|ae<|aN<|ai<|aw rfl<|hy (fun _=>mF (b:=2) rfl rfl)<|aw rfl<|hy (fun _=>oh (b:=2147483648) (by decide) rfl rfl)<|hy (fun _=>dz rfl rfl)<|aG rfl<|ag<|aB [0,8,5,4,1] rfl<|aS<|ab<|ai<|aw rfl<|hy (fun _=>aP rfl rfl (bA (by omega) (by omega)))<|aG rfl<|ag<|aB [5,0,8,4,1] rfl<| ?_
  refine cM (i+1) ⟨rfl,rfl,rfl,rfl,trivial⟩ [] rfl [] rfl (by omega) (by omega)
 ·obtain rfl:i=n:=by omega
  refine bG<|an<|an<|aE<|ab<|ae<|ai<|aw rfl<|aG rfl<|ag<|aB [4,8,5,0,1] rfl<|ab<|aV<| ?_
  exact bc trivial rfl rfl [] rfl [] rfl ⟨rfl,rfl,rfl⟩
theorem DR:b7 Tryz.prog 136 [] [] [] (fun v_ X_ S_=>∃A c,v_=(.slice A 256 c)∧X_=[aK 166 1 (.slice A 256 c) 256 (ee bE)]∧S_=[]):=by
 refine aM (N:=25) Tryz.func136 rfl rfl (by simp) fun b=> ?_
 refine ae<|ai<|aG rfl<|ag<|ab<|ae<|ai<|aG rfl<|ag<|ab<|ae<|ai<|aG rfl<|ag<|ab<|ae<|ae<|ai<|aG rfl<|ag<|ab<|aN<| ?_
 refine bk (fun w m=>m.cQ (r' :=aK 166 1 (.slice none 0 0) 0 []) (.refl _ _) (Own.nil _ _ _ _) (fun k hk=>hk.elim)) ?_
 refine gJ (fun i A1 c1=>256-i) (fun i A1 c1=>[(1,.slice A1 i c1),(2,Wd (A8 i)),(3,.int .i64 (i:Nat))]) (fun i A1 c1=>[aK 166 1 (.slice A1 i c1) i (ee (nX i))]) (fun i A1 c1=>[]) (fun i A1 c1=>i≤256) 0 none 0 [(0,_)] ⟨rfl,trivial⟩ [0] rfl [] rfl (Nat.zero_le _) ⟨rfl,rfl,rfl,trivial⟩ (fun i A1 c1 hi=> ?_)
 refine ae<|ae<|ai<|aw rfl<|hy (fun _=>bw rfl rfl)<|ag<|aB [5,1,2,3,0] rfl<|ab<| ?_
 refine cB rfl (fun hlt=> ?_) (fun hlt=> ?_)
 ·refine aC<|ab<|ae<|aN<|ae<|ai<|aw rfl<|aw rfl<|hy (fun _=>mF (b:=8192) rfl rfl)<|hy (fun _=>dj rfl rfl)<|aG rfl<|ag<|aB [2,5,1,3,0] rfl<|ab<|ae<|ai<|aw rfl<|aw rfl<|hy (fun _=>oh (b:=131072) (by decide) rfl rfl)<|hy (fun _=>dj rfl rfl)<|aG rfl<|ag<|aB [2,5,1,3,0] rfl<|ab<|ae<|ai<|aw rfl<|aw rfl<|hy (fun _=>mF (b:=32) rfl rfl)<|hy (fun _=>dj rfl rfl)<|aG rfl<|ag<|aB [2,5,1,3,0] rfl<|ab<|ai<|aw rfl<|aw rfl<| ?_
  refine hx (bQ Tryz.underlying215 mf rfl rfl rfl (by simp[Value.cells,B8]) (by decide) (by decide) (fun g22=> ?_))
  have hA_b22:0<1→(some (⟨g22,0,none⟩:Addr))≠none:=fun _ h=>by cases h
  refine aJ (fun w m=>m.bz 0 rfl (show _=aK 166 1 (.slice (some ⟨g22,0,none⟩) 1 1) 1 (ee [A8 (i+1)])from(by rw[show A8 (i+1)=Fq (A8 i)from rfl];rfl))) ?_
  refine hx (bs 1 rfl rfl rfl Tryz.underlying215 Tryz.underlying215 (by exact .inl rfl) mf rfl (fun m=>Src.bJ (m.ord 0 rfl)) gO (by unfold maxLen;omega) (by omega) (fun u=> ?_))
  refine az (fun m=>(m.own 0 rfl).slice) ?_
  rintro⟨A_o,c_o,rfl,hc_o⟩
  refine az (fun m=>(m.ord 0 rfl).2.1) fun hA_o=> ?_
  refine aJ (fun w m=>m.bz 0 rfl (show _=aK 166 1 (.slice A_o (i+1) c_o) (i+1) (ee (nX (i+1)))from congrArg (aK _ _ _ _) (by rw[qf,mj]))) ?_
  refine aG rfl<|ag<|aB [1,2,5,3,0] rfl<|aj (X' :=[_,_]) (S' :=[]) (fun _ m=>m)<|aS<|ab<|ai<|aw rfl<|hy (fun _=>aP rfl rfl (bA (by omega) (by omega)))<|aG rfl<|ag<|aB [3,1,2,5,0] rfl<| ?_
  refine fD (i+1) A_o c_o ⟨rfl,rfl,rfl,rfl,trivial⟩ [0] rfl [] rfl (by omega) (by omega)
 ·obtain rfl:i=256:=by omega
  refine bG<|an<|an<|aE<|ab<|ae<|ai<|aw rfl<|aG rfl<|ag<|aB [0,5,1,2,3] rfl<|ab<|aV<| ?_
  exact bc trivial rfl rfl [0] rfl [] rfl ⟨_,_,rfl,rfl,rfl⟩
theorem ze{A B:Option Addr}{c n k:Nat}{w:List UInt32}{l:List UInt8}(hw:w.length=256)(hl:l.length=n)(hn:n≤1000000):b7 Tryz.prog 201 [.slice A 256 c,.slice B n k] [] [cL 1 A 256 (ee w),cL 1 B n (aW l)] (fun v_ X_ S_=>v_=(Wd (eH w l))∧X_=[]∧S_=[]):=by
 refine aM (N:=35) Tryz.func201 rfl rfl (by simp) fun b=> ?_
 refine a6 (fun m=>fH (m.rd 0 rfl)) ?_
 rintro⟨hl_rw,hA_rw⟩
 refine a6 (fun m=>eG (m.rd 1 rfl)) ?_
 rintro⟨hl_rb,hA_rb⟩
 refine ae<|ai<|aG rfl<|ag<|ab<|ae<|ai<|aG rfl<|ag<|ab<|ae<|ai<|aw rfl<|hy (fun _=>aY rfl Tryz.underlying27)<|hy (fun _=>cn rfl rfl (bA (by omega) (by omega)))<|hy (fun _=>yV (Co rfl rfl) ((show Value.int .i64 (max ((n:Int)-16) 0)= .int .i64 ((n-16:Nat):Int)from by congr 1;omega)))<|aG rfl<|ag<|aB [6,5,4,0,1] rfl<|ab<|ae<|ae<|ai<|aw rfl<|aG rfl<|ag<|aB [7,6,5,4,0,1] rfl<|ab<|aN<| ?_
 refine de (fun k2=>n-(n-16)-k2) (fun k2=>[(7,.int .i64 ((n-16+k2:Nat):Int)),(5,Wd (gy w l (n-16) k2))]) (fun k2=>[]) (fun k2=>[]) (fun k2=>n-16+k2≤n) 0 [(6,_),(4,_),(0,_),(1,_)] ⟨rfl,rfl,rfl,rfl,trivial⟩ [] rfl [] rfl (by omega) ⟨rfl,rfl,trivial⟩ (fun k2 hk=> ?_)
 refine ae<|ae<|ai<|aw rfl<|aw rfl<|hy (fun _=>aY rfl Tryz.underlying27)<|hy (fun _=>bw rfl rfl)<|ag<|aB [16,7,5,6,4,0,1] rfl<|ab<| ?_
 refine cB rfl (fun hlt=> ?_) (fun hlt=> ?_)
 ·have h8:=UInt8.toNat_lt (l.getD (n-16+k2) 0)
  refine aC<|ab<|ae<|aN<|ai<|aw rfl<|aw rfl<|aw rfl<|aw rfl<|hy (fun _=>aZ rfl rfl Tryz.underlying27 dU hA_rb rfl (by omega))<|hy (fun m=>ao rfl iO ((m.rd 1 rfl).cell (bM (by omega))))<|hy (fun _=>aZ rfl rfl Tryz.underlying215 bI hA_rw rfl (by omega))<|hy (fun m=>ao rfl bV ((m.rd 0 rfl).cell (br (by omega))))<|aw rfl<|hy (fun _=>aY rfl Tryz.underlying27)<|hy (fun _=>cn rfl rfl (bA (by omega) (by omega)))<|aw rfl<|hy (fun _=>yV (cn rfl rfl (bA (by omega) (by omega))) ((show Value.int .i64 ((n:Int)-1-((n-16+k2:Nat):Int))= .int .i64 ((l.length-1-(n-16+k2):Nat):Int)from by congr 1;omega)))<| ?_
  refine hx (aq rfl Tryz.call245 (Jh (by omega)) [] rfl [] rfl ?_)
  rintro _ _ _ ⟨rfl,rfl,rfl⟩
  refine hy (fun _=>dj rfl rfl)<|aG rfl<|ag<|aB [5,16,7,6,4,0,1] rfl<|aj (X' :=[]) (S' :=[_,_]) (fun _ m=>m)<|aS<|ab<|ai<|aw rfl<|hy (fun _=>aP rfl rfl (bA (by omega) (by omega)))<|aG rfl<|ag<|aB [7,5,16,6,4,0,1] rfl<| ?_
  refine cM (k2+1) ⟨rfl,rfl,rfl,rfl,rfl,rfl,trivial⟩ [] rfl [0,1] rfl (by omega) (by omega)
 ·have hk2:k2=l.length-(l.length-16):=by omega
  subst hk2
  subst hl
  refine bG<|an<|an<|aE<|ab<|ae<|ai<|aw rfl<|aG rfl<|ag<|aB [4,16,7,5,6,0,1] rfl<|ab<|aV<| ?_
  exact bc trivial rfl rfl [] rfl [] rfl ⟨rfl,rfl,rfl⟩
end Go.Proofs.YtmibdabdlgmafaaGreatDoor
end
section
set_option maxRecDepth 20000
namespace Go.Proofs.YtmibdabdlgmafaaGreatDoor
open Go.Eng Go.Hx
theorem HM{n:Nat}(hn:n<32):IntKind.u64.wrap (n:Int)=(n:Int):=by
 simp[IntKind.wrap,IntKind.signed,IntKind.bits]
 omega
theorem zp{n:Nat}(hn:n<32):bits .and .u64 (n:Int) 31=(n:Int):=by
 have h:=u64_and_nat n 31 (by omega) (by decide)
 rw[show((31:Nat):Int)=31 from rfl]at h
 rw[h,show(31:Nat)=2 ^ 5-1 from rfl,Nat.and_two_pow_sub_one_eq_mod]
 congr 1
 show n % 32=n
 omega
theorem Fw{x:UInt32}{n:Nat}(h0:0<n)(hn:n<32):b7 Tryz.prog 296 [Wd x,.int .i64 (n:Int)] [] [] (fun v_ X_ S_=>v_=(Wd (iN (32-n) x))∧X_=[]∧S_=[]):=by
 refine aM (N:=17) Tryz.func296 rfl rfl (by simp) fun b=> ?_
 have hs:IntKind.u64.wrap (32-(n:Int))=((32-n:Nat):Int):=by
  rw[show(32:Int)-(n:Int)=((32-n:Nat):Int) by omega]
  simp[IntKind.wrap,IntKind.signed,IntKind.bits]
  omega
 have hr:=tr (x:=x) (n:=32-n) (by omega) (by omega)
 rw[show 32-(32-n)=n by omega]at hr
 refine ae<|ai<|aG rfl<|ag<|ab<|ae<|ai<|aw rfl<|hy (fun _=>bY rfl Tryz.underlying3 Tryz.underlying263 (HM hn))<|hy (fun _=>gH (by simp) rfl rfl (zp hn))<|aG rfl<|ag<|aB [5,4,0,1] rfl<|ab<|ae<|ai<|aw rfl<|aw rfl<|hy (fun _=>(tY (k:=n) (by omega) rfl rfl))<|aw rfl<|aw rfl<|hy (fun _=>cn rfl rfl hs)<|hy (fun _=>(wz (k:=32-n) (by omega) rfl rfl))<|hy (fun _=>yV (BS rfl rfl) ((show Wd (UInt32.ofNat (x.toNat*2 ^ n) ||| UInt32.ofNat (x.toNat/2 ^ (32-n)))=Wd (iN (32-n) x) by rw[hr])))<|aG rfl<|ag<|aB [4,5,0,1] rfl<|ab<|aV<| ?_
 exact bc trivial rfl rfl [] rfl [] rfl ⟨rfl,rfl,rfl⟩
theorem Ex{X a b c r p q:Nat}(hX:X=2*p*a+b)(hb:b=p*c+r)(hr:r<p)(ha:a<q)(hpq:p*q=2147483648)(hc:c<2)(hp:0<p):
  (a+b*q) % 2147483648*2+(a+b*q)/2147483648=X/p+X % p*(2*q):=by
 have h1:a+b*q=2147483648*c+(r*q+a):=by
  rw[hb,Nat.add_mul,Nat.mul_right_comm,hpq]
  omega
 have h2:r*q+a<2147483648:=by
  have:(r+1)*q≤p*q:=Nat.mul_le_mul_right q hr
  rw[Nat.add_mul,hpq]at this
  omega
 have h3:X=p*(2*a+c)+r:=by
  rw[hX,hb,Nat.mul_add,Nat.mul_assoc 2 p a,Nat.mul_left_comm 2 p a]
  omega
 have h4:X/p=2*a+c:=by
  rw[h3,Nat.mul_add_div hp,Nat.div_eq_of_lt hr]
  omega
 have h5:X % p=r:=by
  rw[h3,Nat.mul_add_mod,Nat.mod_eq_of_lt hr]
 have h6:(a+b*q) % 2147483648=r*q+a:=by rw[h1,Nat.mul_add_mod,Nat.mod_eq_of_lt h2]
 have h7:(a+b*q)/2147483648=c:=by rw[h1,Nat.mul_add_div (by decide),Nat.div_eq_of_lt h2];omega
 rw[h4,h5,h6,h7,Nat.mul_left_comm r 2 q]
 omega
theorem By(y:UInt32):(kF y).toNat=y.toNat % 2147483648*2+y.toNat/2147483648:=by
 have h:=y.toNat_lt
 unfold kF
 rw[UInt32.toNat_add,UInt32.toNat_mul,UInt32.toNat_div]
 show(y.toNat*2 % 4294967296+y.toNat/2147483648) % 4294967296=_
 omega
theorem uM(x:UInt32):∀(n:Nat),n≤32→(mH x n).toNat=x.toNat/2 ^ (32-n)+x.toNat % 2 ^ (32-n)*2 ^ n
 |0,_=>by
  have h:=x.toNat_lt
  show x.toNat=x.toNat/4294967296+x.toNat % 4294967296*1
  omega
 |n+1,hn=>by
  have h:=x.toNat_lt
  show(kF (mH x n)).toNat=_
  rw[By,uM x n (by omega)]
  have e1:2 ^ (32-n)=2*2 ^ (32-(n+1)):=by rw[←Nat.pow_succ'];congr 1;omega
  have e2:2 ^ (n+1)=2*2 ^ n:=Nat.pow_succ'
  have hpq:2 ^ (32-(n+1))*2 ^ n=2147483648:=by
   rw[←Nat.pow_add,show 32-(n+1)+n=31 by omega]
  rw[e1,e2]
  have hp:0<2 ^ (32-(n+1)):=Nat.two_pow_pos _
  generalize 2 ^ (32-(n+1))=p at hpq hp ⊢
  generalize 2 ^ n=q at hpq ⊢
  refine Ex (c:=x.toNat % (2*p)/p) (r:=x.toNat % (2*p) % p) (Nat.div_add_mod x.toNat (2*p)).symm (Nat.div_add_mod _ p).symm (Nat.mod_lt _ hp) ?_ hpq ?_ hp
  ·rw[Nat.div_lt_iff_lt_mul (by omega),show q*(2*p)=2*(p*q) by rw[Nat.mul_comm q,Nat.mul_assoc],hpq]
   omega
  ·rw[Nat.div_lt_iff_lt_mul hp]
   exact Nat.mod_lt _ (by omega)
theorem tF{x:UInt32}{n:Nat}(hn:n≤32):iN (32-n) x=mH x n:=by
 apply UInt32.toNat_inj.1
 have h:=(mH x n).toNat_lt
 unfold iN
 rw[uM x n hn]at h ⊢
 rw[UInt32.toNat_ofNat',show 32-(32-n)=n by omega,Nat.mod_eq_of_lt h]
theorem oz(x:UInt32):kF x=(x <<< 1) ||| (x >>> 31):=by
 have h:=tF (x:=x) (n:=1) (by decide)
 rw[show mH x 1=kF x from rfl]at h
 rw[←h,←tr (n:=32-1) (by decide) (by decide)]
 congr 1
 ·apply UInt32.toNat_inj.1
  rw[UInt32.toNat_shiftLeft,UInt32.toNat_ofNat']
  show x.toNat*2 % 4294967296=x.toNat <<< 1 % 4294967296
  rw[Nat.shiftLeft_eq]
 ·apply UInt32.toNat_inj.1
  rw[UInt32.toNat_shiftRight,UInt32.toNat_ofNat']
  show x.toNat/2147483648 % 4294967296=x.toNat >>> 31
  have:=x.toNat_lt
  rw[Nat.shiftRight_eq_div_pow]
  show x.toNat/2147483648 % 4294967296=x.toNat/2147483648
  omega
theorem uH(x y:UInt32):kF (x ^^^ y)=kF x ^^^ kF y:=by
 rw[oz,oz,oz]
 apply UInt32.toBitVec_inj.1
 simp only[UInt32.toBitVec_or,UInt32.toBitVec_xor,UInt32.toBitVec_shiftLeft,UInt32.toBitVec_shiftRight]
 ext i hi
 simp
 by_cases h1:i=0
 ·simp[h1]
 ·have e:∀z:BitVec 32,z.getLsbD (31+i)=false:=fun z=>BitVec.getLsbD_of_ge z (31+i) (by omega)
  simp[h1,e]
theorem y8:kF 0=0:=by decide
theorem rV{w:List UInt32}{b:List UInt8}{c:UInt8}{i:Nat}:∀(k:Nat),i+k≤b.length→gy w (b++[c]) i k=kF (gy w b i k)
 |0,_=>y8.symm
 |k+1,h=>by
  have e:(b++[c]).getD (i+k) 0=b.getD (i+k) 0:=by rw[List.getD,List.getD,List.getElem?_append_left (by omega)]
  have e2:(b++[c]).length-1-(i+k)=(b.length-1-(i+k))+1:=by rw[List.length_append,List.length_singleton];omega
  rw[gy,gy,rV k (by omega),e,e2,uH]
  rfl
theorem o5{w:List UInt32}{b:List UInt8}{i:Nat}:∀(k:Nat),gy w b i (k+1)=mH (w.getD (b.getD i 0).toNat 0) (b.length-1-i) ^^^ gy w b (i+1) k
 |0=>by rw[gy,gy,gy,Nat.add_zero];exact UInt32.xor_comm ..
 |k+1=>by
  rw[gy,o5 k,gy,UInt32.xor_assoc,show i+1+k=i+(k+1) by omega]
theorem wh(w:List UInt32)(b:List UInt8)(c:UInt8):eH w (b++[c])=if 16≤b.length then kF (eH w b) ^^^ w.getD c.toNat 0 ^^^ mH (w.getD (b.getD (b.length-16) 0).toNat 0) 16 else kF (eH w b) ^^^ w.getD c.toNat 0:=by
 have hl:(b++[c]).length=b.length+1:=by simp
 have nj:∀i k,i+k=b.length→gy w (b++[c]) i (k+1)=kF (gy w b i k) ^^^ w.getD c.toNat 0:=fun i k h=>by
  rw[gy,rV k (by omega),h]
  have e:(b++[c]).getD b.length 0=c:=by rw[List.getD,List.getElem?_append_right (Nat.le_refl _),Nat.sub_self];rfl
  rw[e,hl,Nat.add_sub_cancel,Nat.sub_self]
  rfl
 unfold eH
 rw[hl]
 by_cases h:16≤b.length
 ·rw[if_pos h,show b.length+1-16=b.length-16+1 by omega,show b.length+1-(b.length-16+1)=15+1 by omega,nj _ _ (by omega),show b.length-(b.length-16)=15+1 by omega,o5 (w:=w) (b:=b) (i:=b.length-16) 15,uH]
  have e:kF (mH (w.getD (b.getD (b.length-16) 0).toNat 0) (b.length-1-(b.length-16)))=mH (w.getD (b.getD (b.length-16) 0).toNat 0) 16:=by
   rw[show b.length-1-(b.length-16)=15 by omega]
   rfl
  rw[e]
  generalize mH (w.getD (b.getD (b.length-16) 0).toNat 0) 16=z
  generalize kF (gy w b (b.length-16+1) 15)=y
  rw[UInt32.xor_comm z y,UInt32.xor_assoc y z,UInt32.xor_comm z,UInt32.xor_assoc,UInt32.xor_assoc,UInt32.xor_self,UInt32.xor_zero]
 ·rw[if_neg h,show b.length+1-16=0 by omega,show b.length-16=0 by omega,Nat.sub_zero,Nat.sub_zero,nj 0 b.length (by omega)]
end Go.Proofs.YtmibdabdlgmafaaGreatDoor
end
section
namespace Go.Proofs.YtmibdabdlgmafaaGreatDoor
abbrev Gz:Go.Conc.Locks.MuLink:={lock:=119,unlock:=120,ilock:=185,iunlock:=186,lockSlow:=238,unlockSlow:=241,disable:=234,enable:=236,acquire:=237,relMerge:=239,cas32:=235,add32:=240,tMutex:=170,tIMutex:=168,tPMutex:=259,tPIMutex:=327,tPI32:=329,tUP:=331,tNoCopy:=165,tU32:=166}
theorem Fb:Go.Conc.Locks.MuLib Tryz.prog Gz:=by
 constructor <;> first|kernel_rfl|(intro _;kernel_rfl)
end Go.Proofs.YtmibdabdlgmafaaGreatDoor
end
section
set_option maxRecDepth 20000
namespace Go.Proofs.YtmibdabdlgmafaaGreatDoor
open Go.Eng Go.Hx
def gk(d mu:Int)(ws:List UInt32)(ring:List UInt8)(n:Nat)(s:UInt32):List Value:=[.int .u32 d,.int .i32 mu,.int .u32 0]++(ee ws++(aW ring++[.int .i64 (n:Int),Wd s]))
section
variable{d mu:Int}{ws:List UInt32}{ring:List UInt8}{n:Nat}{s:UInt32}
theorem jl(hw:ws.length=256)(hr:ring.length=16):(gk d mu ws ring n s).length=277:=by simp[gk,a8,ax,hw,hr]
theorem Fz{j:Nat}(hw:ws.length=256)(hj:j<256):(gk d mu ws ring n s)[3+j]? =some (Wd (ws.getD j 0)):=by
 rw[gk,List.getElem?_append_right (by simp),List.getElem?_append_left (by rw[a8];simp;omega)]
 rw[show 3+j- [Value.int .u32 d,.int .i32 mu,.int .u32 0].length=j by simp]
 exact br (by omega)
theorem Ix{j:Nat}(hw:ws.length=256)(hr:ring.length=16)(hj:j<16):(gk d mu ws ring n s)[259+j]? =some (B8 (ring.getD j 0)):=by
 rw[gk,List.getElem?_append_right (by simp;omega),List.getElem?_append_right (by rw[a8];simp;omega),List.getElem?_append_left (by rw[a8,ax];simp;omega)]
 rw[a8,hw,show 259+j- [Value.int .u32 d,.int .i32 mu,.int .u32 0].length-256=j by simp;omega]
 exact bM (by omega)
theorem xG(hw:ws.length=256)(hr:ring.length=16):(gk d mu ws ring n s)[275]? =some (.int .i64 (n:Int)):=by
 rw[gk,List.getElem?_append_right (by simp),List.getElem?_append_right (by rw[a8];simp;omega),List.getElem?_append_right (by rw[a8,ax];simp;omega)]
 rw[a8,ax,hw,hr]
 rfl
theorem xD(hw:ws.length=256)(hr:ring.length=16):(gk d mu ws ring n s)[276]? =some (Wd s):=by
 rw[gk,List.getElem?_append_right (by simp),List.getElem?_append_right (by rw[a8];simp;omega),List.getElem?_append_right (by rw[a8,ax];simp;omega)]
 rw[a8,ax,hw,hr]
 rfl
theorem Bo{j:Nat}{x:UInt32}(hw:ws.length=256)(hj:j<256):(gk d mu ws ring n s).set (3+j) (Wd x)=gk d mu (ws.set j x) ring n s:=by
 rw[gk,List.set_append_right _ _ (by simp),List.set_append_left _ _ (by rw[a8];simp;omega)]
 rw[show 3+j- [Value.int .u32 d,.int .i32 mu,.int .u32 0].length=j by simp,ti]
 rfl
theorem vR{j:Nat}{x:UInt8}(hw:ws.length=256)(hr:ring.length=16)(hj:j<16):(gk d mu ws ring n s).set (259+j) (B8 x)=gk d mu ws (ring.set j x) n s:=by
 rw[gk,List.set_append_right _ _ (by simp;omega),List.set_append_right _ _ (by rw[a8];simp;omega),List.set_append_left _ _ (by rw[a8,ax];simp;omega)]
 rw[a8,hw,show 259+j- [Value.int .u32 d,.int .i32 mu,.int .u32 0].length-256=j by simp;omega,show(aW ring).set j (B8 x)=aW (ring.set j x) by simp[aW,List.map_set]]
 rfl
theorem qy{m:Nat}(hw:ws.length=256)(hr:ring.length=16):(gk d mu ws ring n s).set 275 (.int .i64 (m:Int))=gk d mu ws ring m s:=by
 rw[gk,List.set_append_right _ _ (by simp),List.set_append_right _ _ (by rw[a8];simp;omega),List.set_append_right _ _ (by rw[a8,ax];simp;omega)]
 rw[a8,ax,hw,hr]
 rfl
theorem ra{x:UInt32}(hw:ws.length=256)(hr:ring.length=16):(gk d mu ws ring n s).set 276 (Wd x)=gk d mu ws ring n x:=by
 rw[gk,List.set_append_right _ _ (by simp),List.set_append_right _ _ (by rw[a8];simp;omega),List.set_append_right _ _ (by rw[a8,ax];simp;omega)]
 rw[a8,ax,hw,hr]
 rfl
end
theorem zL{α:Type}(v:List α)(i:Nat)(x:α)(h:i<v.length):(v.set i x).take (i+1)=v.take i++[x]:=by
 apply List.ext_getElem?
 intro j
 rw[List.getElem?_take,List.getElem?_append,List.getElem?_set,List.getElem?_take,List.length_take]
 by_cases h1:j<i
 ·rw[if_pos (by omega),if_neg (by omega),if_pos (by omega),if_pos h1]
 ·by_cases h2:j=i
  ·subst h2
   rw[if_pos (by omega),if_pos rfl,if_pos h,if_neg (by omega),Nat.min_eq_left (by omega),Nat.sub_self]
   rfl
  ·rw[if_neg (by omega),if_neg (by omega)]
   rw[List.getElem?_eq_none (by simp;omega)]
theorem ov{w:World}{g a c:Nat}{t:TypeId}{cs:List Value}{v:Value}(h:eQ w g t cs)(hv:cs[a+c]? =some v):w.cell? (((⟨g,0,none⟩:Addr).add a).add c)=some v:=by
 rw[eX,eX,Nat.zero_add]
 exact h.cell hv
theorem DJ:eP Tryz.prog 396 1=some (0,1,166):=by kernel_rfl
theorem pS:eP Tryz.prog 398 1=some (0,1,396):=by kernel_rfl
theorem yx:eP Tryz.prog 398 2=some (1,2,170):=by kernel_rfl
theorem x7:eP Tryz.prog 401 0=some (0,3,398):=by kernel_rfl
theorem tX:eP Tryz.prog 401 1=some (3,256,399):=by kernel_rfl
theorem D9:eP Tryz.prog 404 0=some (0,259,401):=by kernel_rfl
theorem tL:eP Tryz.prog 404 1=some (259,16,402):=by kernel_rfl
theorem j9:eP Tryz.prog 404 2=some (275,1,3):=by kernel_rfl
theorem j0:eP Tryz.prog 404 3=some (276,1,166):=by kernel_rfl
theorem I3:TI Tryz.prog 404 (.agg (gk 0 0 (List.replicate 256 0) (List.replicate 16 0) 0 0).toArray) 277 1072:=by unfold TI;kernel_rfl
section
variable{P:Program}{Q:Exit→Act→World→Prop}{N:Nat}{D:List Deferred}{ρ:Env}{b:ct}{X S:List bl}{ty:TypeId}{K:Value→List bl→List bl→Prop}{fn:Func}{R:Value→List bl→List bl→Prop}
theorem Ct{f g o:Nat}{t:TypeId}{cs:List Value}{x:Int}{l:List Operand}{tys:Array TypeId}(i:Nat)(hi:X[i]? =some (aH g t cs))(hc:cs[o]? =some (.int .u32 x))(hx:oe ρ l=some [.pointer (some ⟨g,o,none⟩)])
  (hrun:∀(w:World) (a:Addr) (x:Int),w.cell? a=some (.int .u32 x)→(callFunc f #[.pointer (some a)]).run P w= .ok (.value (.int .u32 x)) w) (k:K (.int .u32 x) X S):XH P Q N D ρ b X S (.call ⟨.value (.func f),l.toArray,tys⟩) ty K:=fun w m=>by
 refine dk (v' :=.int .u32 x) (w' :=w) (fun a _ _ _ _ ha=> ?_) ⟨X,S,m,k⟩
 have h:=hrun w ⟨g,o,none⟩ x ((m.aU i hi).cell hc)
 simp[execOp,resolve,Deferred.ofValue,Act.eval,invoke,ha.ik hx,h]
theorem Ek{f g o:Nat}{t:TypeId}{cs:List Value}{x:Value}(i:Nat)(hi:X[i]? =some (aH g t cs))(hc:cs[o]? =some x)(hcall:∀args w,(callFunc f args).run P w= .ok (.enter f args) w)
  (hst:∀(a:Addr) (x:Value) (u:FrameMode) (w:World),w.cell? a=some x→w.frozen? a=false→CallsD P f #[.pointer (some a),.bool true] u w fun e u' w' =>u' =u∧(e= .returned (.tuple #[])∧w' =w.drew.setCell a (.int .u32 1)))
  (k:HE P fn b R N D ρ (aH g t (cs.set o (.int .u32 1))::X.eraseIdx i) S):HE P fn b R N (⟨.fn (.func f) #[], #[.pointer (some ⟨g,o,none⟩),.bool true]⟩::D) ρ X S:=fun w m tmps ht=>by
 have hb:=m.aU i hi
 have hlt:=(List.getElem?_eq_some_iff.1 hc).1
 refine⟨by simp,.func f, #[],f, #[.pointer (some ⟨g,o,none⟩),.bool true],rfl, ?_, ?_⟩
 ·simp[invoke,hcall]
 ·refine CallsD.mono (hst ⟨g,o,none⟩ x .returning w (hb.cell hc) (hb.frozen hlt)) ?_
  rintro e u' w' ⟨rfl,rfl,rfl⟩
  have m1:=m.lift (Fr.drew w)
  have hb1:=m1.aU i hi
  have m' :=m1.perm (ar [i] X [aH g t cs] (X.eraseIdx i) (by simp[bT,hi]))
  exact k _ (m'.change (r' :=aH g t (cs.set o (.int .u32 1))) (Fr.setCell w.drew ⟨g,o,none⟩ _) (hb1.set o _) (fun k hk=>.inl hk)) tmps ht
end
theorem D4(a:Addr)(x:Value)(u:FrameMode)(w:World)(hc:w.cell? a=some x)(hz:w.frozen? a=false):
  CallsD Tryz.prog 315 #[.pointer (some a),.bool true] u w fun e u' w' =>u' =u∧(e= .returned (.tuple #[])∧w' =w.drew.setCell a (.int .u32 1)):=by
 have hc' :w.drew.cell? a=some x:=by go_simp
 have hz' :w.drew.frozen? a=false:=by go_simp
 have hst:=run_call_store (P:=Tryz.prog) Tryz.func316 (by kernel_rfl) (by kernel_rfl) (by kernel_rfl) (by kernel_rfl) (k:=.u32) (y:=1) hc' hz'
 go_enter_d Tryz.func315,Tryz.ntmps315
 go_wp2
 go_region_calls
 all_goals (go_end0;exact⟨rfl,rfl⟩)
theorem wQ{g n:Nat}{d mu:Int}{ws:List UInt32}{ring:List UInt8}{s:UInt32}:b7 Tryz.prog 312 [.pointer (some ⟨g,0,none⟩)] [aH g 404 (gk d mu ws ring n s)] [] (fun v_ X_ S_=>v_=(.bool (decide (¬d=0)))∧X_=[aH g 404 (gk d mu ws ring n s)]∧S_=[]):=by
 refine aM (N:=8) Tryz.func312 rfl rfl (by simp) fun b=> ?_
 refine ae<|ai<|aG rfl<|ag<|ab<|ae<|ai<|aw rfl<|hy (fun _=>aO rfl)<|hy (fun _=>aF rfl DJ (by decide))<| ?_
 refine hx (Ct 0 rfl rfl rfl (fun w a x hc=>run_call_load (P:=Tryz.prog) Tryz.func314 (by kernel_rfl) (by kernel_rfl) (by kernel_rfl) .u32 (by kernel_rfl) hc) ?_)
 refine hy (fun _=>cT rfl rfl)<|aG rfl<|ag<|aB [2,0] rfl<|aj (X' :=[_]) (S' :=[]) (fun _ m=>m)<|ab<|aV<| ?_
 exact bc trivial rfl rfl [0] rfl [] rfl ⟨rfl,rfl,rfl⟩
theorem Hf{g n:Nat}{d mu:Int}{ws:List UInt32}{ring:List UInt8}{s:UInt32}(hw:ws.length=256):b7 Tryz.prog 311 [.pointer (some ⟨g,0,none⟩)] [aH g 404 (gk d mu ws ring n s)] [] (fun v_ X_ S_=>v_=(.tuple #[])∧X_=[aH g 404 (gk d mu bE ring n s)]∧S_=[]):=by
 refine aM (N:=26) Tryz.func311 rfl rfl (by simp) fun b=> ?_
 refine ae<|ai<|aG rfl<|ag<|ab<|ae<|ai<|aw rfl<|ag<|ab<|aN<| ?_
 refine mq (fun i v=>256-i) (fun i v=>[(4,.int .i64 (i:Nat)),(2,Wd (A8 i))]) (fun i v=>[aH g 404 (gk d mu v ring n s)]) (fun i v=>[]) (fun i v=>i≤256∧v.length=256∧v.take i=nX i) 0 ws [(0,_)] ⟨rfl,trivial⟩ [0] rfl [] rfl (⟨by omega,hw,rfl⟩) ⟨rfl,rfl,trivial⟩ (fun i v ⟨hi,hv,ht⟩=> ?_)
 refine ae<|ai<|hy (fun _=>bw rfl rfl)<|ag<|ab<|ae<| ?_
 refine cB rfl (fun hlt=> ?_) (fun hlt=> ?_)
 ·have hi2:i<256:=by omega
  refine aC<|ab<|ae<|aN<|ae<|ai<|aw rfl<|aG rfl<|ag<|aB [3,5,4,2,0] rfl<|ab<|ae<|ai<|aw rfl<|aw rfl<|hy (fun _=>tN (k:=13) (b:=8192) (by decide) rfl rfl rfl)<|hy (fun _=>dj rfl rfl)<|aG rfl<|ag<|aB [2,3,5,4,0] rfl<|ab<|ae<|ai<|aw rfl<|aw rfl<|hy (fun _=>lu (k:=17) (b:=131072) (by decide) rfl rfl rfl)<|hy (fun _=>dj rfl rfl)<|aG rfl<|ag<|aB [2,3,5,4,0] rfl<|ab<|ae<|ai<|aw rfl<|aw rfl<|hy (fun _=>tN (k:=5) (b:=32) (by decide) rfl rfl rfl)<|hy (fun _=>dj rfl rfl)<|aG rfl<|ag<|aB [2,3,5,4,0] rfl<|ab<|ai<|aw rfl<|aw rfl<|aw rfl<|hy (fun _=>aO rfl)<|hy (fun _=>aF rfl tX (by decide))<|hy (fun _=>bS rfl rfl Tryz.underlying399 bI rfl (by omega))<| ?_
  refine cI (b9 0 rfl rfl rfl bI rfl (by simp[gk,a8,ax,hv];omega) ?_)
  refine ag<|aB [2,3,5,4,0] rfl<|aj (X' :=[_]) (S' :=[]) (fun _ m=>m)<|aS<|ab<|ai<|hy (fun _=>aP rfl rfl (bA (by omega) (by omega)))<|aw rfl<|ag<|aB [4,2,3,5,0] rfl<| ?_
  refine aj (fun w m=>m.bz 0 rfl (show _=aH g 404 (gk d mu (v.set i (A8 (i+1))) ring n s)from congrArg (aH _ _) (show(gk d mu v ring n s).set (3+i) (Wd (A8 (i+1)))=_ from Bo hv hi2))) ?_
  refine jt (i+1) (v.set i (A8 (i+1))) ⟨rfl,rfl,rfl,trivial⟩ [0] rfl [] rfl (⟨by omega,by rw[List.length_set];exact hv,by rw[zL _ _ _ (by omega),ht,qf]⟩) (by omega)
 ·obtain rfl:i=256:=by omega
  have hv2:v=bE:=by rw[←List.take_of_length_le (l:=v) (i:=256) (by omega),ht];rfl
  subst hv2
  refine bG<|an<|an<|aE<| ?_
  exact eU trivial rfl [0] rfl [] rfl ⟨rfl,rfl,rfl⟩
theorem Hu{g n:Nat}{d:Int}{ws:List UInt32}{ring:List UInt8}{s:UInt32}:b7 Tryz.prog 119 [.pointer (some ⟨g,1,none⟩)] [aH g 404 (gk d 0 ws ring n s)] [] (fun v_ X_ S_=>v_=(.tuple #[])∧X_=[aH g 404 (gk d 1 ws ring n s)]∧S_=[]):=by
 exact Jb Fb rfl
theorem IQ{g n:Nat}{ws:List UInt32}{ring:List UInt8}{s:UInt32}(hw:ws.length=256):b7 Tryz.prog 313 [.pointer (some ⟨g,0,none⟩),.func (.func 311) #[.pointer (some ⟨g,0,none⟩)] #[]] [aH g 404 (gk 0 0 ws ring n s)] [] (fun v_ X_ S_=>v_=(.tuple #[])∧X_=[aH g 404 (gk 1 0 bE ring n s)]∧S_=[]):=by
 refine xU (N:=21) Tryz.func313 rfl rfl (by simp) fun b=> ?_
 refine ae<|ai<|aw rfl<|hy (fun _=>aO rfl)<|hy (fun _=>aF rfl yx (by decide))<| ?_
 refine hx (aq rfl Tryz.call119 (Hu) [0] rfl [] rfl ?_)
 rintro _ _ _ ⟨rfl,rfl,rfl⟩
 refine ag<|aB [0,1] rfl<|aj (X' :=[_]) (S' :=[]) (fun _ m=>m)<|ab<|ae<|ai<|aw rfl<|hy (fun _=>aO rfl)<|hy (fun _=>aF rfl yx (by decide))<|AL rfl<|ag<|aB [0,1] rfl<|ab<|ae<|ai<|aw rfl<|hy (fun _=>aO rfl)<|hy (fun _=>aF rfl pS (by decide))<| ?_
 refine hx (aq rfl Tryz.call312 (wQ) [0] rfl [] rfl ?_)
 rintro _ _ _ ⟨rfl,rfl,rfl⟩
 refine hy (fun _=>fl rfl)<|ag<|aB [15,0,1] rfl<|aj (X' :=[_]) (S' :=[]) (fun _ m=>m)<|ab<| ?_
 refine fq rfl (rfl) ?_
 refine ae<|ai<|aw rfl<|hy (fun _=>aO rfl)<|hy (fun _=>aF rfl pS (by decide))<|AL rfl<|ag<|aB [15,0,1] rfl<|ab<|ai<|aw rfl<| ?_
 refine hx (eT rfl rfl Tryz.call311 (Hf hw) [0] rfl [] rfl ?_)
 rintro _ _ _ ⟨rfl,rfl,rfl⟩
 refine ag<|aB [15,0,1] rfl<|aj (X' :=[_]) (S' :=[]) (fun _ m=>m)<| ?_
 refine A6 trivial ?_
 refine Ek 0 rfl rfl Tryz.call315 D4 ?_
 refine Ew Fb 0 rfl rfl Tryz.call120 ?_
 exact nj (v:=.tuple #[]) (fun _ _ _=>by simp[results,Tryz.results313]) [0] rfl [] rfl ⟨rfl,rfl,rfl⟩
theorem H5{g n:Nat}{ws:List UInt32}{ring:List UInt8}{s:UInt32}(hw:ws.length=256):b7 Tryz.prog 310 [.pointer (some ⟨g,0,none⟩),.func (.func 311) #[.pointer (some ⟨g,0,none⟩)] #[]] [aH g 404 (gk 0 0 ws ring n s)] [] (fun v_ X_ S_=>v_=(.tuple #[])∧X_=[aH g 404 (gk 1 0 bE ring n s)]∧S_=[]):=by
 refine aM (N:=12) Tryz.func310 rfl rfl (by simp) fun b=> ?_
 refine ae<|ai<|aw rfl<|hy (fun _=>aO rfl)<|hy (fun _=>aF rfl pS (by decide))<| ?_
 refine hx (aq rfl Tryz.call312 (wQ) [0] rfl [] rfl ?_)
 rintro _ _ _ ⟨rfl,rfl,rfl⟩
 refine hy (fun _=>fl rfl)<|ag<|aB [8,0,1] rfl<|aj (X' :=[_]) (S' :=[]) (fun _ m=>m)<|ab<| ?_
 refine fq rfl (rfl) ?_
 refine ai<|aw rfl<|aw rfl<| ?_
 refine hx (aq rfl Tryz.call313 (IQ hw) [0] rfl [] rfl ?_)
 rintro _ _ _ ⟨rfl,rfl,rfl⟩
 refine ag<|aB [8,0,1] rfl<|aj (X' :=[_]) (S' :=[]) (fun _ m=>m)<| ?_
 exact eU trivial rfl [0] rfl [] rfl ⟨rfl,rfl,rfl⟩
theorem GH{g n:Nat}{v:Value}{ws:List UInt32}{ring:List UInt8}{s:UInt32}:b7 Tryz.prog 310 [.pointer (some ⟨g,0,none⟩),v] [aH g 404 (gk 1 0 ws ring n s)] [] (fun v_ X_ S_=>v_=(.tuple #[])∧X_=[aH g 404 (gk 1 0 ws ring n s)]∧S_=[]):=by
 refine aM (N:=12) Tryz.func310 rfl rfl (by simp) fun b=> ?_
 refine ae<|ai<|aw rfl<|hy (fun _=>aO rfl)<|hy (fun _=>aF rfl pS (by decide))<| ?_
 refine hx (aq rfl Tryz.call312 (wQ) [0] rfl [] rfl ?_)
 rintro _ _ _ ⟨rfl,rfl,rfl⟩
 refine hy (fun _=>fl rfl)<|ag<|aB [8,0,1] rfl<|aj (X' :=[_]) (S' :=[]) (fun _ m=>m)<|ab<| ?_
 refine cN rfl (rfl) ?_
 refine aC<| ?_
 exact eU trivial rfl [0] rfl [] rfl ⟨rfl,rfl,rfl⟩
theorem Kt{g n:Nat}{ws:List UInt32}{ring:List UInt8}{s:UInt32}{c:UInt8}(hw:ws.length=256):b7 Tryz.prog 309 [.pointer (some ⟨g,0,none⟩),B8 c] [aH g 404 (gk 0 0 ws ring n s)] [] (fun v_ X_ S_=>v_=(Wd (bE.getD c.toNat 0))∧X_=[aH g 404 (gk 1 0 bE ring n s)]∧S_=[]):=by
 have hc:=UInt8.toNat_lt c
 refine aM (N:=17) Tryz.func309 rfl rfl (by simp) fun b=> ?_
 refine ae<|ai<|aG rfl<|ag<|ab<|ae<|ai<|aw rfl<|hy (fun _=>aO rfl)<|hy (fun _=>aF rfl x7 (by decide))<|aw rfl<|hy (fun _=>fU rfl rfl)<| ?_
 refine hx (aq rfl Tryz.call310 (H5 hw) [0] rfl [] rfl ?_)
 rintro _ _ _ ⟨rfl,rfl,rfl⟩
 refine ag<|aB [4,0,1] rfl<|aj (X' :=[_]) (S' :=[]) (fun _ m=>m)<|ab<|ae<|ai<|aw rfl<|aw rfl<|hy (fun _=>aO rfl)<|hy (fun _=>aF rfl tX (by decide))<|hy (fun _=>bS rfl rfl Tryz.underlying399 bI rfl (by omega))<|hy (fun m=>ao rfl bV (ov (m.aU 0 rfl) (Fz bD (by omega))))<|aG rfl<|ag<|aB [4,0,1] rfl<|ab<|aV<| ?_
 exact bc trivial rfl rfl [0] rfl [] rfl ⟨rfl,rfl,rfl⟩
theorem Fk{g n:Nat}{ring:List UInt8}{s:UInt32}{c:UInt8}:b7 Tryz.prog 309 [.pointer (some ⟨g,0,none⟩),B8 c] [aH g 404 (gk 1 0 bE ring n s)] [] (fun v_ X_ S_=>v_=(Wd (bE.getD c.toNat 0))∧X_=[aH g 404 (gk 1 0 bE ring n s)]∧S_=[]):=by
 have hc:=UInt8.toNat_lt c
 refine aM (N:=17) Tryz.func309 rfl rfl (by simp) fun b=> ?_
 refine ae<|ai<|aG rfl<|ag<|ab<|ae<|ai<|aw rfl<|hy (fun _=>aO rfl)<|hy (fun _=>aF rfl x7 (by decide))<|aw rfl<|hy (fun _=>fU rfl rfl)<| ?_
 refine hx (aq rfl Tryz.call310 (GH) [0] rfl [] rfl ?_)
 rintro _ _ _ ⟨rfl,rfl,rfl⟩
 refine ag<|aB [4,0,1] rfl<|aj (X' :=[_]) (S' :=[]) (fun _ m=>m)<|ab<|ae<|ai<|aw rfl<|aw rfl<|hy (fun _=>aO rfl)<|hy (fun _=>aF rfl tX (by decide))<|hy (fun _=>bS rfl rfl Tryz.underlying399 bI rfl (by omega))<|hy (fun m=>ao rfl bV (ov (m.aU 0 rfl) (Fz bD (by omega))))<|aG rfl<|ag<|aB [4,0,1] rfl<|ab<|aV<| ?_
 exact bc trivial rfl rfl [0] rfl [] rfl ⟨rfl,rfl,rfl⟩
end Go.Proofs.YtmibdabdlgmafaaGreatDoor
end
