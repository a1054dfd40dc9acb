/- Part. -/
import Derived.Test.YtmibdabdlgmafaaGreatDoorPLB1
import Derived.Laws.BitsAllLaws
import Derived.Test.YtmibdabdlgmafaaGreatDoorProg
import Derived.KernelRfl
import Derived.Lib.Bytealg
import Derived.Test.YtmibdabdlgmafaaGreatDoorRows
import Derived.ProofKit
import Derived.LaidMore
import Derived.OpenShut
import Derived.MakeChecks
import Derived.LaidHandle
import Derived.LaidLaws
import Derived.Lib.BytesEntry
import Derived.Lib.IndexAny
import Derived.ShutString
import Derived.ChangeOld
import Derived.SizedLaws
import Derived.ChangeSame
import Derived.Conc.MuLib
import Derived.Laws.LoneSync
import Derived.Tactics
import Derived.Tactics2
import Derived.Defers
import Derived.Laws.Pointers
import Derived.RegionTactic
import Derived.RegionCalls
set_option linter.all false
section
namespace Go.Eng
open Go.RowKit
abbrev Wd(x:UInt32):Value:=.int .u32 (x.toNat:Int)
def dL(l:List UInt32):List Value:=l.map Wd
theorem aX(l:List UInt32):(dL l).length=l.length:=by simp[dL]
theorem gy{l:List UInt32}:∀u∈dL l,u.oneCell' =true:=by
 intro u hu
 obtain⟨x,_,rfl⟩:=List.mem_map.1 hu
 rfl
theorem qM{l:List UInt32}:∀u∈dL l,u.cells.toList=[u]:=by
 intro u hu
 obtain⟨x,_,rfl⟩:=List.mem_map.1 hu
 rfl
theorem tM{l:List UInt32}:∀u∈dL l,u.cells.size=1:=by
 intro u hu
 obtain⟨x,_,rfl⟩:=List.mem_map.1 hu
 rfl
theorem bo{l:List UInt32}{i:Nat}(h:i<l.length):(dL l)[i]? =some (Wd (l.getD i 0)):=by simp[dL,List.getElem?_map,List.getElem?_eq_getElem h,List.getD]
theorem ly(a b:List UInt32):dL (a++b)=dL a++dL b:=by simp[dL]
theorem rS(l:List UInt32)(i:Nat)(x:UInt32):(dL l).set i (Wd x)=dL (l.set i x):=by simp[dL,List.map_set]
theorem wrap32(n:Nat):IntKind.u32.wrap (n:Int)=((n % 4294967296:Nat):Int):=by
 simp[IntKind.wrap,IntKind.signed,IntKind.bits]
section
variable{P:Program}{N:Nat}{D:List Deferred}{ρ:Env}{w:World}{x y:Operand}{ty t t' e:TypeId}{a b:UInt32}
theorem c9(hx:ev ρ x=some (Wd a))(hy:ev ρ y=some (Wd b)):Yl P N D ρ w (.binOp .add t x y t') ty (Wd (a+b)):=aO hx hy (by
 rw[←Int.natCast_add,wrap32,UInt32.toNat_add])
theorem lC(hx:ev ρ x=some (Wd a))(hy:ev ρ y=some (Wd b)):Yl P N D ρ w (.binOp .mul t x y t') ty (Wd (a*b)):=gz hx hy (by
 rw[←Int.natCast_mul,wrap32,UInt32.toNat_mul])
theorem iw(hx:ev ρ x=some (Wd a))(hy:ev ρ y=some (Wd b)):Yl P N D ρ w (.binOp .and t x y t') ty (Wd (a &&& b)):=gJ (by simp) hx hy (by
 rw[u32_and_nat _ _ a.toNat_lt b.toNat_lt,UInt32.toNat_and])
theorem AB(hx:ev ρ x=some (Wd a))(hy:ev ρ y=some (Wd b)):Yl P N D ρ w (.binOp .or t x y t') ty (Wd (a ||| b)):=gJ (by simp) hx hy (by
 rw[u32_or_nat _ _ a.toNat_lt b.toNat_lt,UInt32.toNat_or])
theorem cW(hx:ev ρ x=some (Wd a))(hy:ev ρ y=some (Wd b)):Yl P N D ρ w (.binOp .xor t x y t') ty (Wd (a ^^^ b)):=gJ (by simp) hx hy (by
 rw[u32_xor_nat _ _ a.toNat_lt b.toNat_lt,UInt32.toNat_xor])
theorem nb(h0:b.toNat≠0)(hx:ev ρ x=some (Wd a))(hy:ev ρ y=some (Wd b)):Yl P N D ρ w (.binOp .quo t x y t') ty (Wd (a/b)):=kd hx hy (by omega) (by omega) (by
 rw[←Int.natCast_ediv,wrap32,UInt32.toNat_div]
 have:=a.toNat_lt
 have h2:=Nat.div_le_self a.toNat b.toNat
 rw[Nat.mod_eq_of_lt (by omega)])
theorem vu(h0:b.toNat≠0)(hx:ev ρ x=some (Wd a))(hy:ev ρ y=some (Wd b)):Yl P N D ρ w (.binOp .rem t x y t') ty (Wd (a % b)):=by
 have h:=hZ (P:=P) (N:=N) (D:=D) (w:=w) (ty:=ty) (t:=t) (t' :=t') hx hy (by omega) (by omega)
 have e:((a.toNat:Int) % (b.toNat:Int))=((a % b).toNat:Int):=by rw[UInt32.toNat_mod];rfl
 rwa [e]at h
theorem uK{k:Nat}{k' :IntKind}(hk:k<32)(hx:ev ρ x=some (Wd a))(hy:ev ρ y=some (.int k' (k:Int))):Yl P N D ρ w (.binOp .shr t x y t') ty (Wd (.ofNat (a.toNat/2 ^ k))):=by
 have h:=mE (P:=P) (N:=N) (D:=D) (w:=w) (ty:=ty) (t:=t) (t' :=t') (p:=((2 ^ k:Nat):Int)) hx hy (by omega) (by simp[IntKind.bits];omega) (by simp)
 have e:((a.toNat:Int)/((2 ^ k:Nat):Int))=((UInt32.ofNat (a.toNat/2 ^ k)).toNat:Int):=by
  rw[UInt32.toNat_ofNat',←Int.natCast_ediv]
  have:=a.toNat_lt
  have h2:=Nat.div_le_self a.toNat (2 ^ k)
  rw[Nat.mod_eq_of_lt (by omega)]
 rwa [e]at h
theorem su{k:Nat}{k' :IntKind}(hk:k<32)(hx:ev ρ x=some (Wd a))(hy:ev ρ y=some (.int k' (k:Int))):Yl P N D ρ w (.binOp .shl t x y t') ty (Wd (.ofNat (a.toNat*2 ^ k))):=by
 refine w8 (p:=((2 ^ k:Nat):Int)) hx hy (by omega) (by simp[IntKind.bits];omega) (by simp) ?_
 rw[←Int.natCast_mul,wrap32,UInt32.toNat_ofNat']
theorem kG{k:Nat}{k' :IntKind}(hk:k<32)(hb:b.toNat=2 ^ k)(hx:ev ρ x=some (Wd a))(hy:ev ρ y=some (.int k' (k:Int))):Yl P N D ρ w (.binOp .shr t x y t') ty (Wd (a/b)):=by
 have h:=uK (P:=P) (N:=N) (D:=D) (w:=w) (ty:=ty) (t:=t) (t' :=t') hk hx hy
 have e:UInt32.ofNat (a.toNat/2 ^ k)=a/b:=by
  apply UInt32.toNat_inj.1
  have:=a.toNat_lt
  have h2:=Nat.div_le_self a.toNat (2 ^ k)
  rw[UInt32.toNat_ofNat',UInt32.toNat_div,hb,Nat.mod_eq_of_lt (by omega)]
 rwa [e]at h
theorem rJ{k:Nat}{k' :IntKind}(hk:k<32)(hb:b.toNat=2 ^ k)(hx:ev ρ x=some (Wd a))(hy:ev ρ y=some (.int k' (k:Int))):Yl P N D ρ w (.binOp .shl t x y t') ty (Wd (a*b)):=by
 have h:=su (P:=P) (N:=N) (D:=D) (w:=w) (ty:=ty) (t:=t) (t' :=t') hk hx hy
 have e:UInt32.ofNat (a.toNat*2 ^ k)=a*b:=by
  apply UInt32.toNat_inj.1
  rw[UInt32.toNat_ofNat',UInt32.toNat_mul,hb]
 rwa [e]at h
theorem B0(hx:ev ρ x=some (.int .u32 4294967295))(hy:ev ρ y=some (Wd b)):Yl P N D ρ w (.binOp .sub t x y t') ty (Wd (~~~b)):=ct hx hy (by
 have:=b.toNat_lt
 rw[UInt32.toNat_not,show(4294967295:Int)-(b.toNat:Int)=((4294967295-b.toNat:Nat):Int) by omega,wrap32,Nat.mod_eq_of_lt (by omega)]
 rfl)
theorem EL(hx:ev ρ x=some (Wd a)):Yl P N D ρ w (.unOp .xor t x) ty (Wd (~~~a)):=by
 have h:=rq (P:=P) (N:=N) (D:=D) (w:=w) (ty:=ty) (t:=t) hx a.toNat_lt
 have e:4294967295 ^^^ a.toNat=(~~~a).toNat:=by
  have h1:(BitVec.allOnes 32 ^^^ BitVec.ofNat 32 a.toNat)= ~~~ BitVec.ofNat 32 a.toNat:=BitVec.allOnes_xor
  have h2:=congrArg BitVec.toNat h1
  rw[BitVec.toNat_xor,BitVec.toNat_not,BitVec.toNat_allOnes,BitVec.toNat_ofNat,Nat.mod_eq_of_lt a.toNat_lt]at h2
  rw[UInt32.toNat_not]
  exact h2
 rwa [e]at h
theorem yk{c:UInt8}{k:TypeDesc}(hx:ev ρ x=some (B8 c))(ht:P.underlying t=some k)(ht' :P.underlying t' =some (.int .u32)):Yl P N D ρ w (.convert t t' x) ty (Wd c.toUInt32):=b8 hx ht ht' (by
 have:=c.toNat_lt
 rw[wrap32,Nat.mod_eq_of_lt (by omega),UInt8.toNat_toUInt32])
theorem AA{k:TypeDesc}(hx:ev ρ x=some (Wd a))(ht:P.underlying t=some k)(ht' :P.underlying t' =some (.int .u8)):Yl P N D ρ w (.convert t t' x) ty (B8 (UInt8.ofNat a.toNat)):=b8 hx ht ht' (by
 simp[IntKind.wrap,IntKind.signed,IntKind.bits])
end
theorem vW{P:Program}{pl:Nat→Option (Nat×Nat)}:∀(vs:List Value) (k:Nat) (d r:List Value),d.length=k→r.length=vs.length→(∀i,i<k+vs.length→pl i=some (i,1))→(∀v∈vs,v.cells.toList=[v])→wq P pl (d++r) ((List.range' k vs.length).zip vs) (d++vs)
 | [],k,d,r,hd,hr,hp,h1=>by
  obtain rfl:=List.eq_nil_of_length_eq_zero hr
  exact .nil
 |v::vs,k,d,r,hd,hr,hp,h1=>by
  match r,hr with
  |x::r,hr=>
   have hs:bD (d++x::r) k [v]=(d++[v])++r:=by
    subst hd
    simp[bD]
   have ih:=vW (P:=P) (pl:=pl) vs (k+1) (d++[v]) r (by simp[hd]) (by simpa using hr) (fun i hi=>hp i (by simp at hi ⊢;omega)) (fun u hu=>h1 u (List.mem_cons_of_mem _ hu))
   rw[List.length_cons,List.range'_succ,List.zip_cons_cons]
   refine .cons (hp k (by simp)) (h1 v (List.mem_cons_self ..)) rfl (by simp[hd]) ?_
   rw[hs,show d++v::vs=(d++[v])++vs by simp]
   exact ih
theorem sU{P:Program}{N:Nat}{D:List Deferred}{ρ:Env}{w:World}{t ty:TypeId}{parts:List (Nat×Operand)}{vs:List Value}{z:Value}{sz bytes n:Nat}(hT:TI P t z sz bytes)(hz:z.cells.toList.length=n)(hv:mP ρ (parts.map (·.2))=some vs)(hp:(lz P t 0).isSome=true)(hn:vs.length=n)
  (hi:parts.map (·.1)=List.range' 0 n) (hpl:((List.range n).all fun i=>lz P t i == some (i,1))=true) (h1:∀v∈vs,v.cells.toList=[v]):Yl P N D ρ w (.build t parts.toArray) ty (.agg vs.toArray):=by
 refine b6 hT rfl hv hp ?_
 rw[hi,←hn]
 have h:=vW (P:=P) (pl:=lz P t) vs 0 [] z.cells.toList rfl (by omega) (fun i hi=> ?_) h1
 ·exact h
 ·have:=List.all_eq_true.1 hpl i (by rw[List.mem_range];omega)
  simpa using this
theorem Own.drop{w:World}{b:Nat}{e:TypeId}{sz n c k:Nat}{A:Option Addr}{xs:List Value}(h:Own w b e sz (.slice A n c) n xs)(hk:k≤n)(hz:k≤c):Own w b e sz (.slice (if c=k then A else A.map (·.add (k*sz))) (n-k) (c-k)) (n-k) (xs.drop (k*sz)):=by
 obtain⟨hl,hx⟩:=h
 refine⟨by rw[List.length_drop,hl,Nat.sub_mul], ?_⟩
 rcases hx with⟨hv,hn⟩|⟨g,o,cap,cur,hv,hb,hB,hnc,hcm,hfit,hcs⟩
 ·cases hv
  obtain rfl:k=0:=by omega
  exact .inl ⟨rfl,rfl⟩
 ·cases hv
  by_cases hck:c=k
  ·subst hck
   obtain rfl:n=c:=by omega
   rw[if_pos rfl]
   refine .inr ⟨g,o,n-n,cur,rfl,hb,hB,by omega,by omega,by rw[Nat.sub_self,Nat.zero_mul];omega, ?_⟩
   rw[Nat.sub_self,Nat.zero_mul,List.take_zero,List.drop_of_length_le (by omega)]
  ·rw[if_neg hck]
   refine .inr ⟨g,o+k*sz,c-k,cur, ?_,hb,hB,by omega,by omega, ?_, ?_⟩
   ·simp[Addr.add]
   ·have:(c-k)*sz+k*sz=c*sz:=by rw[←Nat.add_mul];congr 1;omega
    omega
   ·rw[←hcs,List.drop_take,List.drop_drop,Nat.sub_mul]
theorem View.rM{e:TypeId}{sz n c k:Nat}{A:Option Addr}{xs:List Value}(hk:k≤n)(hz:n≤c):View (aI e sz (.slice A n c) n xs) (aI e sz (.slice (if c=k then A else A.map (·.add (k*sz))) (n-k) (c-k)) (n-k) (xs.drop (k*sz))):=
 .of (fun w h=>Own.drop h hk (by omega)) (fun i hi=>by
  cases A with
  |none=>by_cases hc:c=k <;> simp[aI,j8,hc]at hi
  |some a=>
   by_cases hc:c=k
   ·simpa[aI,j8,hc]using hi
   ·have h2:i=(a.add (k*sz)).block:=by simpa[aI,j8,hc]using hi
    show i=a.block
    rw[h2,jt])
theorem Mem.Aq{b:cg}{X S:List bg}{w:World}{r r' :bg}(m:Mem b (r::X) S w)(v:View r r'):Mem b (r' ::X) S w:=m.G8 (v.ok.1 w) v.ok.2
end Go.Eng
end
section
namespace Go.Hx
open Go.Eng
def ix(n:Nat)(x:UInt32):UInt32:=.ofNat (x.toNat/2 ^ n+x.toNat % 2 ^ n*2 ^ (32-n))
theorem mN{n:Nat}(hn:n≤32)(x:UInt32):(ix n x).toNat=x.toNat/2 ^ n+x.toNat % 2 ^ n*2 ^ (32-n):=by
 rw[ix,UInt32.toNat_ofNat',Nat.mod_eq_of_lt]
 have h1:=x.toNat_lt
 have h2:2 ^ n*2 ^ (32-n)=2 ^ 32:=by rw[←Nat.pow_add];congr 1;omega
 have h3:x.toNat % 2 ^ n<2 ^ n:=Nat.mod_lt _ (Nat.two_pow_pos n)
 have h4:x.toNat/2 ^ n<2 ^ (32-n):=Nat.div_lt_of_lt_mul (by omega)
 have h5:x.toNat % 2 ^ n*2 ^ (32-n)≤(2 ^ n-1)*2 ^ (32-n):=Nat.mul_le_mul_right _ (by omega)
 have h6:(2 ^ n-1)*2 ^ (32-n)+2 ^ (32-n)=2 ^ 32:=by
  rw[←h2,Nat.sub_mul,Nat.one_mul]
  have:=Nat.le_mul_of_pos_left (2 ^ (32-n)) (Nat.two_pow_pos n)
  omega
 omega
def sK(x:UInt32):UInt32:=x/2+x % 2*2147483648
theorem x4(x:UInt32):(sK x).toNat=x.toNat/2+x.toNat % 2*2147483648:=by
 have h1:=x.toNat_lt
 rw[sK,UInt32.toNat_add,UInt32.toNat_mul,UInt32.toNat_div,UInt32.toNat_mod]
 show(x.toNat/2+x.toNat % 2*2147483648 % 4294967296) % 4294967296=_
 have:x.toNat % 2<2:=Nat.mod_lt _ (by decide)
 omega
theorem xE(x:UInt32):ix 0 x=x:=by
 apply UInt32.toNat_inj.1
 rw[mN (by decide)]
 simp[Nat.mod_one]
theorem xp{n:Nat}(hn:n<32)(x:UInt32):ix (n+1) x=sK (ix n x):=by
 apply UInt32.toNat_inj.1
 rw[x4,mN (by omega),mN (by omega)]
 obtain⟨k,hk⟩:∃k,32-n=k+1:=⟨31-n,by omega⟩
 have hk2:32-(n+1)=k:=by omega
 rw[hk,hk2,Nat.pow_succ 2 k,Nat.pow_succ 2 n]
 have hq:x.toNat/(2 ^ n*2)=x.toNat/2 ^ n/2:=(Nat.div_div_eq_div_mul ..).symm
 have hm:x.toNat % (2 ^ n*2)=x.toNat % 2 ^ n+2 ^ n*(x.toNat/2 ^ n % 2):=Nat.mod_mul ..
 rw[hq,hm]
 generalize x.toNat/2 ^ n=q
 generalize x.toNat % 2 ^ n=m
 have h31:2 ^ n*2 ^ k=2147483648:=by rw[←Nat.pow_add,show n+k=31 by omega]
 have e1:(q+m*(2 ^ k*2))/2=q/2+m*2 ^ k:=by
  rw[show m*(2 ^ k*2)=(m*2 ^ k)*2 by rw[Nat.mul_assoc]];omega
 have e2:(q+m*(2 ^ k*2)) % 2=q % 2:=by
  rw[show m*(2 ^ k*2)=(m*2 ^ k)*2 by rw[Nat.mul_assoc]];omega
 rw[e1,e2,Nat.add_mul,Nat.mul_right_comm (2 ^ n),h31]
 omega
theorem rX{n:Nat}(h0:0<n)(hn:n<32)(x:UInt32):UInt32.ofNat (x.toNat*2 ^ (32-n)) ||| UInt32.ofNat (x.toNat/2 ^ n)=ix n x:=by
 apply UInt32.toNat_inj.1
 have h1:=x.toNat_lt
 rw[mN (by omega),UInt32.toNat_or,UInt32.toNat_ofNat',UInt32.toNat_ofNat']
 have h2:2 ^ n*2 ^ (32-n)=2 ^ 32:=by rw[←Nat.pow_add];congr 1;omega
 have h4:x.toNat/2 ^ n<2 ^ (32-n):=Nat.div_lt_of_lt_mul (by omega)
 have h5:x.toNat/2 ^ n≤x.toNat:=Nat.div_le_self ..
 rw[Nat.mod_eq_of_lt (a:=x.toNat/2 ^ n) (by omega)]
 have h6:x.toNat*2 ^ (32-n) % 2 ^ 32=2 ^ (32-n)*(x.toNat % 2 ^ n):=by
  rw[←h2,Nat.mul_mod_mul_right,Nat.mul_comm]
 rw[h6,←Nat.two_pow_add_eq_or_of_lt h4,Nat.mul_comm,Nat.add_comm]
def fv:List UInt32:=[1116352408,1899447441,3049323471,3921009573,961987163,1508970993,2453635748,2870763221,3624381080,310598401,607225278,1426881987,1925078388,2162078206,2614888103,3248222580,3835390401,4022224774,264347078,604807628,770255983,1249150122,1555081692,1996064986,2554220882,2821834349,2952996808,3210313671,3336571891,3584528711,113926993,338241895,666307205,773529912,1294757372,1396182291,1695183700,1986661051,2177026350,2456956037,2730485921,2820302411,3259730800,3345764771,3516065817,3600352804,4094571909,275423344,430227734,506948616,659060556,883997877,958139571,1322822218,1537002063,1747873779,1955562222,2024104815,2227730452,2361852424,2428436474,2756734187,3204031479,3329325298]
def lN:List UInt32:=[1779033703,3144134277,1013904242,2773480762,1359893119,2600822924,528734635,1541459225]
def turns(a b c:Nat)(x:UInt32):UInt32:=ix a x ^^^ ix b x ^^^ ix c x
def at8(b:List UInt8)(i:Nat):Nat:=(b.getD i 0).toNat
def kC(b:List UInt8)(i:Nat):UInt32:=.ofNat (at8 b i*16777216+at8 b (i+1)*65536+at8 b (i+2)*256+at8 b (i+3))
def wp(b:List UInt8)(i:Nat):Nat→Nat
 |0=>0
 |j+1=>wp b i j*256+at8 b (i+j)
theorem ny(b:List UInt8)(i:Nat):at8 b i<256:=(b.getD i 0).toNat_lt
theorem CT(b:List UInt8)(i:Nat):∀j,wp b i j<256 ^ j
 |0=>Nat.one_pos
 |j+1=>by
  have h1:=CT b i j
  have h2:=ny b (i+j)
  rw[wp,Nat.pow_succ]
  omega
theorem Ba{b:List UInt8}{i j:Nat}(hj:j<4):(UInt32.ofNat (wp b i j)*256) ||| (b.getD (i+j) 0).toUInt32=UInt32.ofNat (wp b i (j+1)):=by
 apply UInt32.toNat_inj.1
 have h1:=CT b i j
 have h0:256 ^ j≤256 ^ 3:=Nat.pow_le_pow_right (by decide) (by omega)
 have h2:=ny b (i+j)
 have h3:wp b i j<16777216:=Nat.lt_of_lt_of_le h1 h0
 rw[UInt32.toNat_or,UInt32.toNat_mul,UInt32.toNat_ofNat',UInt8.toNat_toUInt32,UInt32.toNat_ofNat',wp]
 show(wp b i j % 4294967296*256 % 4294967296 ||| at8 b (i+j))=_
 rw[Nat.mod_eq_of_lt (a:=wp b i j) (by omega),Nat.mod_eq_of_lt (a:=wp b i j*256) (by omega),Nat.mod_eq_of_lt (a:=wp b i j*256+_) (by omega),show wp b i j*256=2 ^ 8*wp b i j by omega,Nat.two_pow_add_eq_or_of_lt (i:=8) h2]
theorem Fh(b:List UInt8)(i:Nat):wp b i 4=at8 b i*16777216+at8 b (i+1)*65536+at8 b (i+2)*256+at8 b (i+3):=by
 have e1:wp b i 1=wp b i 0*256+at8 b (i+0):=rfl
 have e2:wp b i 2=wp b i 1*256+at8 b (i+1):=rfl
 have e3:wp b i 3=wp b i 2*256+at8 b (i+2):=rfl
 have e4:wp b i 4=wp b i 3*256+at8 b (i+3):=rfl
 have e0:wp b i 0=0:=rfl
 rw[Nat.add_zero]at e1
 rw[e4,e3,e2,e1,e0]
 generalize at8 b i=p
 generalize at8 b (i+1)=q
 generalize at8 b (i+2)=r
 generalize at8 b (i+3)=s
 omega
theorem CJ(b:List UInt8)(i:Nat):UInt32.ofNat (wp b i 4)=kC b i:=congrArg UInt32.ofNat (Fh b i)
theorem xf(b:List UInt8)(i:Nat):(b.getD i 0).toUInt32*16777216+(b.getD (i+1) 0).toUInt32*65536+(b.getD (i+2) 0).toUInt32*256+(b.getD (i+3) 0).toUInt32=kC b i:=by
 apply UInt32.toNat_inj.1
 have h0:(b.getD i 0).toNat<256:=ny b i
 have h1:(b.getD (i+1) 0).toNat<256:=ny b (i+1)
 have h2:(b.getD (i+2) 0).toNat<256:=ny b (i+2)
 have h3:(b.getD (i+3) 0).toNat<256:=ny b (i+3)
 have k1:(16777216:UInt32).toNat=16777216:=rfl
 have k2:(65536:UInt32).toNat=65536:=rfl
 have k3:(256:UInt32).toNat=256:=rfl
 simp only[kC,at8,UInt32.toNat_add,UInt32.toNat_mul,UInt8.toNat_toUInt32,UInt32.toNat_ofNat',k1,k2,k3]
 generalize(b.getD i 0).toNat=p at*
 generalize(b.getD (i+1) 0).toNat=q at*
 generalize(b.getD (i+2) 0).toNat=r at*
 generalize(b.getD (i+3) 0).toNat=s at*
 omega
def Hs(x:UInt32):UInt32:=ix 7 x ^^^ ix 18 x ^^^ (x/8)
def GF(x:UInt32):UInt32:=ix 17 x ^^^ ix 19 x ^^^ (x/1024)
def lV(w:List UInt32)(i:Nat):UInt32:=w.getD (i-16) 0+Hs (w.getD (i-15) 0)+w.getD (i-7) 0+GF (w.getD (i-2) 0)
def wl(b:List UInt8):Nat→List UInt32
 |0=>[]
 |i+1=>wl b i++[if i<16 then kC b (4*i)else lV (wl b i) i]
theorem fo(b:List UInt8):∀i,(wl b i).length=i
 |0=>rfl
 |i+1=>by rw[wl,List.length_append,fo b i];rfl
def v_(v:List UInt32)(i:Nat):UInt32:=v.getD i 0
def rt(v:List UInt32)(k w:UInt32):UInt32:=v_ v 7+turns 6 11 25 (v_ v 4)+((v_ v 4 &&& v_ v 5) ^^^ (~~~(v_ v 4) &&& v_ v 6))+k+w
def ru(v:List UInt32):UInt32:=turns 2 13 22 (v_ v 0)+((v_ v 0 &&& v_ v 1) ^^^ (v_ v 0 &&& v_ v 2) ^^^ (v_ v 1 &&& v_ v 2))
def Hh(v:List UInt32)(k w:UInt32):List UInt32:=[rt v k w+ru v,v_ v 0,v_ v 1,v_ v 2,v_ v 3+rt v k w,v_ v 4,v_ v 5,v_ v 6]
def kn(w v:List UInt32):Nat→List UInt32
 |0=>v
 |i+1=>Hh (kn w v i) (fv.getD i 0) (w.getD i 0)
theorem kh{w v:List UInt32}(h:v.length=8):∀i,(kn w v i).length=8
 |0=>h
 |i+1=>rfl
def fL(v h:List UInt32)(i:Nat):List UInt32:=(List.range v.length).map fun j=>if j<i then v_ v j+v_ h j else v_ v j
def ea(h:List UInt32)(b:List UInt8):List UInt32:=fL (kn (wl b 64) h 64) h 8
theorem iS{h:List UInt32}(hl:h.length=8)(b:List UInt8):(ea h b).length=8:=by simp[ea,fL,kh hl]
theorem qV{v h:List UInt32}:fL v h 0=v:=by
 apply List.ext_getElem?
 intro i
 simp only[fL,Nat.not_lt_zero,if_false,List.getElem?_map]
 by_cases hi:i<v.length
 ·simp[hi,v_,List.getD]
 ·rw[List.getElem?_eq_none (by simpa using hi),List.getElem?_eq_none (by omega)];rfl
theorem qK{v h:List UInt32}{i:Nat}(hi:i<v.length):fL v h (i+1)=(fL v h i).set i (v_ (fL v h i) i+v_ h i):=by
 apply List.ext_getElem?
 intro j
 have e:v_ (fL v h i) i=v_ v i:=by simp[fL,v_,List.getD,hi]
 rw[e]
 by_cases hj:j<v.length
 ·by_cases hij:i=j
  ·subst hij
   simp[fL,hi]
  ·rw[List.getElem?_set_ne hij]
   simp only[fL,List.getElem?_map,List.getElem?_range hj,Option.map_some]
   congr 1
   by_cases h1:j<i
   ·rw[if_pos h1,if_pos (by omega)]
   ·rw[if_neg h1,if_neg (by omega)]
 ·rw[List.getElem?_eq_none (by simp[fL];omega),List.getElem?_eq_none (by simp[fL];omega)]
def nR:Nat→List UInt32→List UInt8→List UInt32
 |0,h,_=>h
 |n+1,h,l=>nR n (ea h (l.take 64)) (l.drop 64)
def fm(h:List UInt32)(l:List UInt8):List UInt32:=nR (l.length/64) h l
theorem pa:∀(n:Nat) (h:List UInt32) (l b:List UInt8),l.length=64*n→b.length=64→nR (n+1) h (l++b)=ea (nR n h l) b
 |0,h,l,b,hl,hb=>by
  obtain rfl:=List.eq_nil_of_length_eq_zero hl
  simp only[nR,List.nil_append]
  rw[List.take_of_length_le (by omega)]
 |n+1,h,l,b,hl,hb=>by
  have h1:(l++b).take 64=l.take 64:=by rw[List.take_append_of_le_length (by omega)]
  have h2:(l++b).drop 64=l.drop 64++b:=by rw[List.drop_append_of_le_length (by omega)]
  rw[nR,h1,h2,pa n _ (l.drop 64) b (by rw[List.length_drop];omega) hb]
  rfl
theorem pV{h:List UInt32}{l b:List UInt8}(hl:l.length % 64=0)(hb:b.length=64):fm h (l++b)=ea (fm h l) b:=by
 unfold fm
 rw[List.length_append,hb,show(l.length+64)/64=l.length/64+1 by omega]
 exact pa _ h l b (by omega) hb
theorem l4:∀(n:Nat) (h:List UInt32) (l:List UInt8),h.length=8→(nR n h l).length=8
 |0,h,l,hl=>hl
 |n+1,h,l,hl=>l4 n _ _ (iS hl _)
theorem mg{h:List UInt32}(l:List UInt8)(hl:h.length=8):(fm h l).length=8:=l4 _ _ _ hl
def AV(x:UInt32):List UInt8:=[.ofNat (x/16777216).toNat,.ofNat (x/65536).toNat,.ofNat (x/256).toNat,.ofNat x.toNat]
def eE(h:List UInt32):List UInt8:=h.flatMap AV
def sE(n:Nat):List UInt8:=(List.range 8).map fun i=>.ofNat (n/256 ^ (7-i))
def ir(n:Nat):Nat:=(119-n % 64) % 64
def ja(b:List UInt8):List UInt8:=b++(128::List.replicate (ir b.length) 0)++sE (8*b.length)
theorem oo(b:List UInt8):(ja b).length % 64=0:=by
 simp only[ja,List.length_append,List.length_cons,List.length_replicate,sE,List.length_map,List.length_range,ir]
 omega
def bA(b:List UInt8):List UInt8:=eE (fm lN (ja b))
theorem mo{h:List UInt32}(hl:h.length=8):(eE h).length=32:=by
 match h,hl with
 | [a,b,c,d,e,f,g,i],_=>rfl
theorem bq(b:List UInt8):(bA b).length=32:=mo (mg _ rfl)
end Go.Hx
end
section
namespace Go.Proofs.YtmibdabdlgmafaaGreatDoor
open Go.Eng
theorem cY:c5 Tryz.prog 3=some false:=by kernel_rfl
theorem tA:fl Tryz.prog 3=some 1:=by kernel_rfl
theorem Fi:TI Tryz.prog 3 (.int .i64 0) 1 8:=by unfold TI;kernel_rfl
theorem iV:c5 Tryz.prog 5=some false:=by kernel_rfl
theorem dJ:fl Tryz.prog 5=some 1:=by kernel_rfl
theorem fh:TI Tryz.prog 5 (.int .u8 0) 1 1:=by unfold TI;kernel_rfl
theorem lO:c5 Tryz.prog 9=some false:=by kernel_rfl
theorem Io:fl Tryz.prog 9=some 1:=by kernel_rfl
theorem Ij:TI Tryz.prog 9 (.string ⟨#[]⟩) 1 16:=by unfold TI;kernel_rfl
theorem di:c5 Tryz.prog 27=some false:=by kernel_rfl
theorem je:fl Tryz.prog 27=some 1:=by kernel_rfl
theorem ku:TI Tryz.prog 27 (.slice none 0 0) 1 24:=by unfold TI;kernel_rfl
theorem FT:c5 Tryz.prog 33=some false:=by kernel_rfl
theorem H2:fl Tryz.prog 33=some 1:=by kernel_rfl
theorem HD:TI Tryz.prog 33 (.slice none 0 0) 1 24:=by unfold TI;kernel_rfl
theorem pj:c5 Tryz.prog 35=some false:=by kernel_rfl
theorem sX:c5 Tryz.prog 36=some false:=by kernel_rfl
theorem GY:fl Tryz.prog 36=some 1:=by kernel_rfl
theorem Hg:c5 Tryz.prog 37=some false:=by kernel_rfl
theorem Fv:fl Tryz.prog 37=some 1:=by kernel_rfl
theorem cK:c5 Tryz.prog 39=some true:=by kernel_rfl
theorem bT:fl Tryz.prog 39=some 5:=by kernel_rfl
theorem mR:TI Tryz.prog 39 (.agg (([.int .i64 0])++([.slice none 0 0])++([.slice none 0 0])++([.slice none 0 0])++([.int .i64 0]):List Value).toArray) 5 88:=by unfold TI;kernel_rfl
theorem zf:eV Tryz.prog 39 0=some (0,1,3):=by kernel_rfl
theorem jY:eV Tryz.prog 39 1=some (1,1,36):=by kernel_rfl
theorem ER:eV Tryz.prog 39 2=some (2,1,36):=by kernel_rfl
theorem ve:eV Tryz.prog 39 3=some (3,1,37):=by kernel_rfl
theorem jO:eV Tryz.prog 39 4=some (4,1,3):=by kernel_rfl
theorem Eo:TI Tryz.prog 44 (.slice none 0 0) 1 24:=by unfold TI;kernel_rfl
theorem k4:c5 Tryz.prog 47=some false:=by kernel_rfl
theorem xD:fl Tryz.prog 47=some 1:=by kernel_rfl
theorem HA:TI Tryz.prog 47 (.int .i64 0) 1 8:=by unfold TI;kernel_rfl
theorem cB:c5 Tryz.prog 53=some true:=by kernel_rfl
theorem b7:fl Tryz.prog 53=some 32:=by kernel_rfl
theorem fw:TI Tryz.prog 53 (.agg (aT (List.replicate 32 0):List Value).toArray) 32 32:=by unfold TI;kernel_rfl
theorem vV{l:List UInt8}(h:l.length=32):Tryz.prog.keyLits 2 53 (aT l)=some (l.map fun b=>Lit.int .u8 (b.toNat:Int)):=fk (D:=0) Tryz.underlying53 Tryz.underlying5 (by kernel_rfl) (by kernel_rfl) h
theorem CD{N:Nat}{D:List Deferred}{ρ:Env}{w:World}{ty t' :TypeId}{x y:Operand}{l m:List UInt8}(hx:ev ρ x=some (.agg (aT l).toArray))(hy:ev ρ y=some (.agg (aT m).toArray))(hl:l.length=32)(hm:m.length=32):Yl Tryz.prog N D ρ w (.binOp .eql 53 x y t') ty (.bool (decide (l=m))):=
 CW (m:=5) hx hy (by decide) (by kernel_rfl) (by kernel_rfl) cB (by rw[aA,hl];kernel_rfl) (by rw[aA,hm];kernel_rfl) (vV hl) (vV hm) iI
theorem oR{N:Nat}{D:List Deferred}{ρ:Env}{w:World}{ty t' :TypeId}{x y:Operand}{l m:List UInt8}(hx:ev ρ x=some (.agg (aT l).toArray))(hy:ev ρ y=some (.agg (aT m).toArray))(hl:l.length=32)(hm:m.length=32):Yl Tryz.prog N D ρ w (.binOp .neq 53 x y t') ty (.bool (decide (¬l=m))):=
 F0 (m:=5) hx hy (by decide) (by kernel_rfl) (by kernel_rfl) cB (by rw[aA,hl];kernel_rfl) (by rw[aA,hm];kernel_rfl) (vV hl) (vV hm) iI
theorem gK:c5 Tryz.prog 75=some true:=by kernel_rfl
theorem gg:fl Tryz.prog 75=some 3:=by kernel_rfl
theorem y5:TI Tryz.prog 75 (.agg (([.int .i64 0])++([.int .i64 0])++([.int .i64 0]):List Value).toArray) 3 24:=by unfold TI;kernel_rfl
theorem dT:eV Tryz.prog 75 0=some (0,1,3):=by kernel_rfl
theorem gk:eV Tryz.prog 75 1=some (1,1,3):=by kernel_rfl
theorem eW:eV Tryz.prog 75 2=some (2,1,3):=by kernel_rfl
theorem gD:c5 Tryz.prog 80=some false:=by kernel_rfl
theorem Gu:fl Tryz.prog 80=some 1:=by kernel_rfl
theorem HR:TI Tryz.prog 80 (.slice none 0 0) 1 24:=by unfold TI;kernel_rfl
theorem ka:c5 Tryz.prog 82=some true:=by kernel_rfl
theorem eS:fl Tryz.prog 82=some 36:=by kernel_rfl
theorem tv:TI Tryz.prog 82 (.agg ((([.int .i64 0])++([.int .i64 0])++([.int .i64 0]))++(aT (List.replicate 32 0))++([.slice none 0 0]):List Value).toArray) 36 80:=by unfold TI;kernel_rfl
theorem iu:eV Tryz.prog 82 0=some (0,3,75):=by kernel_rfl
theorem D4:lz Tryz.prog 82 0=some (0,3):=by kernel_rfl
theorem o5:eV Tryz.prog 82 1=some (3,32,53):=by kernel_rfl
theorem E6:lz Tryz.prog 82 1=some (3,32):=by kernel_rfl
theorem dE:eV Tryz.prog 82 2=some (35,1,80):=by kernel_rfl
theorem E9:lz Tryz.prog 82 2=some (35,1):=by kernel_rfl
theorem Gr:c5 Tryz.prog 83=some false:=by kernel_rfl
theorem CE:c5 Tryz.prog 84=some false:=by kernel_rfl
theorem GC:fl Tryz.prog 84=some 1:=by kernel_rfl
theorem Hk:TI Tryz.prog 86 (.agg (([.pointer none])++(([.int .i64 0])++([.slice none 0 0])++([.slice none 0 0])++([.slice none 0 0])++([.int .i64 0]))++((([.int .i64 0])++([.int .i64 0])++([.int .i64 0]))++(aT (List.replicate 32 0))++([.slice none 0 0]))++([.pointer none])++([.slice none 0 0])++([.slice none 0 0]):List Value).toArray) 45 232:=by unfold TI;kernel_rfl
theorem pk:eV Tryz.prog 86 0=some (0,1,35):=by kernel_rfl
theorem D7:lz Tryz.prog 86 0=some (0,1):=by kernel_rfl
theorem nc:eV Tryz.prog 86 1=some (1,5,39):=by kernel_rfl
theorem Ea:lz Tryz.prog 86 1=some (1,5):=by kernel_rfl
theorem nI:eV Tryz.prog 86 2=some (6,36,82):=by kernel_rfl
theorem DR:lz Tryz.prog 86 2=some (6,36):=by kernel_rfl
theorem EA:eV Tryz.prog 86 3=some (42,1,83):=by kernel_rfl
theorem Dt:lz Tryz.prog 86 3=some (42,1):=by kernel_rfl
theorem uI:eV Tryz.prog 86 4=some (43,1,84):=by kernel_rfl
theorem Ee:eV Tryz.prog 86 5=some (44,1,27):=by kernel_rfl
theorem Dx:lz Tryz.prog 86 5=some (44,1):=by kernel_rfl
theorem F3:c5 Tryz.prog 88=some true:=by kernel_rfl
theorem FD:fl Tryz.prog 88=some 36:=by kernel_rfl
theorem E2:TI Tryz.prog 88 (.agg ((([.int .i64 0])++([.int .i64 0])++([.int .i64 0]))++(aT (List.replicate 32 0))++([.slice none 0 0]):List Value).toArray) 36 80:=by unfold TI;kernel_rfl
theorem vp:lz Tryz.prog 88 0=some (0,3):=by kernel_rfl
theorem DP:eV Tryz.prog 88 1=some (3,32,53):=by kernel_rfl
theorem Ac:lz Tryz.prog 88 1=some (3,32):=by kernel_rfl
theorem AN:eV Tryz.prog 88 2=some (35,1,80):=by kernel_rfl
theorem vb:lz Tryz.prog 88 2=some (35,1):=by kernel_rfl
theorem nY:c5 Tryz.prog 100=some true:=by kernel_rfl
theorem dO:fl Tryz.prog 100=some 33:=by kernel_rfl
theorem jv:TI Tryz.prog 100 (.agg ((aT (List.replicate 32 0))++([.int .i64 0]):List Value).toArray) 33 40:=by unfold TI;kernel_rfl
theorem gW:eV Tryz.prog 100 0=some (0,32,53):=by kernel_rfl
theorem rI:lz Tryz.prog 100 0=some (0,32):=by kernel_rfl
theorem gx:eV Tryz.prog 100 1=some (32,1,3):=by kernel_rfl
theorem rE:lz Tryz.prog 100 1=some (32,1):=by kernel_rfl
theorem vH:c5 Tryz.prog 101=some true:=by kernel_rfl
theorem nO:fl Tryz.prog 101=some 33:=by kernel_rfl
theorem sR:TI Tryz.prog 101 (.agg ((aT (List.replicate 32 0))++([.int .i64 0]):List Value).toArray) 33 40:=by unfold TI;kernel_rfl
theorem Bd:eV Tryz.prog 101 0=some (0,32,53):=by kernel_rfl
theorem Bp:lz Tryz.prog 101 0=some (0,32):=by kernel_rfl
theorem wS:eV Tryz.prog 101 1=some (32,1,3):=by kernel_rfl
theorem Cx:lz Tryz.prog 101 1=some (32,1):=by kernel_rfl
theorem rb:c5 Tryz.prog 156=some true:=by kernel_rfl
theorem fb:fl Tryz.prog 156=some 2:=by kernel_rfl
theorem iG:TI Tryz.prog 156 (.agg (([.string ⟨#[]⟩])++([.string ⟨#[]⟩]):List Value).toArray) 2 32:=by unfold TI;kernel_rfl
theorem fi:eV Tryz.prog 156 0=some (0,1,9):=by kernel_rfl
theorem oK:eV Tryz.prog 156 1=some (1,1,9):=by kernel_rfl
theorem bM:c5 Tryz.prog 166=some false:=by kernel_rfl
theorem bB:fl Tryz.prog 166=some 1:=by kernel_rfl
theorem k7:TI Tryz.prog 166 (.int .u32 0) 1 4:=by unfold TI;kernel_rfl
theorem ph:c5 Tryz.prog 174=some false:=by kernel_rfl
theorem GG:fl Tryz.prog 174=some 1:=by kernel_rfl
theorem CZ:c5 Tryz.prog 175=some false:=by kernel_rfl
theorem zS:fl Tryz.prog 175=some 1:=by kernel_rfl
theorem GM:TI Tryz.prog 177 (.agg (([.int .i64 0])++([.map none])++([.map none])++([.slice none 0 0])++([.int .i64 0]):List Value).toArray) 5 56:=by unfold TI;kernel_rfl
theorem BZ:eV Tryz.prog 177 0=some (0,1,3):=by kernel_rfl
theorem jC:eV Tryz.prog 177 1=some (1,1,174):=by kernel_rfl
theorem Cj:eV Tryz.prog 177 2=some (2,1,174):=by kernel_rfl
theorem lZ:eV Tryz.prog 177 3=some (3,1,175):=by kernel_rfl
theorem oY:eV Tryz.prog 177 4=some (4,1,3):=by kernel_rfl
theorem Dm:c5 Tryz.prog 186=some true:=by kernel_rfl
theorem Dn:fl Tryz.prog 186=some 4:=by kernel_rfl
theorem qs:TI Tryz.prog 186 (.agg (([.int .i64 0])++([.string ⟨#[]⟩])++([.string ⟨#[]⟩])++([.string ⟨#[]⟩]):List Value).toArray) 4 56:=by unfold TI;kernel_rfl
theorem wa:eV Tryz.prog 186 0=some (0,1,3):=by kernel_rfl
theorem oV:eV Tryz.prog 186 1=some (1,1,9):=by kernel_rfl
theorem Bb:eV Tryz.prog 186 2=some (2,1,9):=by kernel_rfl
theorem BW:eV Tryz.prog 186 3=some (3,1,9):=by kernel_rfl
theorem F8:TI Tryz.prog 189 (.agg (([.string ⟨#[]⟩])++([.slice none 0 0]):List Value).toArray) 2 40:=by unfold TI;kernel_rfl
theorem BI:eV Tryz.prog 189 0=some (0,1,9):=by kernel_rfl
theorem CK:eV Tryz.prog 189 1=some (1,1,27):=by kernel_rfl
theorem vM:TI Tryz.prog 232 (.nilIface) 1 16:=by unfold TI;kernel_rfl
theorem FX:TI Tryz.prog 257 (.agg (([.string ⟨#[]⟩])++([.string ⟨#[]⟩]):List Value).toArray) 2 32:=by unfold TI;kernel_rfl
theorem sc:eV Tryz.prog 257 0=some (0,1,9):=by kernel_rfl
theorem B2:eV Tryz.prog 257 1=some (1,1,9):=by kernel_rfl
theorem wj:c5 Tryz.prog 265=some false:=by kernel_rfl
theorem GI:TI Tryz.prog 267 (.agg ((([.int .i64 0])++([.int .i64 0])++([.int .i64 0]))++([.slice none 0 0])++([.map none]):List Value).toArray) 5 56:=by unfold TI;kernel_rfl
theorem Bx:eV Tryz.prog 267 0=some (0,3,75):=by kernel_rfl
theorem rk:eV Tryz.prog 267 1=some (3,1,84):=by kernel_rfl
theorem oI:eV Tryz.prog 267 2=some (4,1,265):=by kernel_rfl
theorem y9:c5 Tryz.prog 271=some true:=by kernel_rfl
theorem tR:fl Tryz.prog 271=some 3:=by kernel_rfl
theorem mG:TI Tryz.prog 271 (.agg (([.int .i64 0])++([.int .i64 0])++([.int .i64 0]):List Value).toArray) 3 24:=by unfold TI;kernel_rfl
theorem Db:fl Tryz.prog 288=some 1:=by kernel_rfl
theorem vE:TI Tryz.prog 288 (.agg (([.int .i64 0]):List Value).toArray) 1 8:=by unfold TI;kernel_rfl
theorem Cp:eV Tryz.prog 288 0=some (0,1,47):=by kernel_rfl
theorem qN:c5 Tryz.prog 295=some true:=by kernel_rfl
theorem jk:fl Tryz.prog 295=some 3:=by kernel_rfl
theorem nZ:TI Tryz.prog 295 (.agg (([.slice none 0 0])++([.int .i64 0])++([.int .i64 0]):List Value).toArray) 3 40:=by unfold TI;kernel_rfl
theorem Bf:eV Tryz.prog 295 0=some (0,1,27):=by kernel_rfl
theorem B1:eV Tryz.prog 295 2=some (2,1,47):=by kernel_rfl
theorem wV:c5 Tryz.prog 298=some true:=by kernel_rfl
theorem k5:fl Tryz.prog 298=some 2:=by kernel_rfl
theorem ri:TI Tryz.prog 298 (.agg (([.int .i64 0])++([.int .i64 0]):List Value).toArray) 2 16:=by unfold TI;kernel_rfl
theorem kJ:eV Tryz.prog 298 0=some (0,1,3):=by kernel_rfl
theorem wo:eV Tryz.prog 298 1=some (1,1,3):=by kernel_rfl
theorem qv:c5 Tryz.prog 306=some true:=by kernel_rfl
theorem lr:fl Tryz.prog 306=some 8:=by kernel_rfl
theorem wB:TI Tryz.prog 306 (.agg ((List.replicate 8 ([.int .u32 0])).flatten:List Value).toArray) 8 32:=by unfold TI;kernel_rfl
theorem CV:TI Tryz.prog 308 (.agg (((List.replicate 8 ([.int .u32 0])).flatten)++([.int .i64 0])++([.slice none 0 0]):List Value).toArray) 10 64:=by unfold TI;kernel_rfl
theorem oM:eV Tryz.prog 308 0=some (0,8,306):=by kernel_rfl
theorem mq:eV Tryz.prog 308 1=some (8,1,3):=by kernel_rfl
theorem jJ:eV Tryz.prog 308 2=some (9,1,27):=by kernel_rfl
theorem om:c5 Tryz.prog 322=some false:=by kernel_rfl
theorem C5:c5 Tryz.prog 354=some true:=by kernel_rfl
theorem wh:fl Tryz.prog 354=some 64:=by kernel_rfl
theorem Ar:TI Tryz.prog 354 (.agg ((List.replicate 64 ([.int .u32 0])).flatten:List Value).toArray) 64 256:=by unfold TI;kernel_rfl
theorem yW:c5 Tryz.prog 357=some false:=by kernel_rfl
theorem FC:TI Tryz.prog 359 (.agg (([.slice none 0 0])++([.map none])++([.int .i64 0]):List Value).toArray) 3 40:=by unfold TI;kernel_rfl
theorem jP:eV Tryz.prog 359 0=some (0,1,27):=by kernel_rfl
theorem rm:eV Tryz.prog 359 1=some (1,1,357):=by kernel_rfl
theorem gU:eV Tryz.prog 359 2=some (2,1,3):=by kernel_rfl
theorem wx:c5 Tryz.prog 364=some true:=by kernel_rfl
theorem tE:fl Tryz.prog 364=some 4:=by kernel_rfl
theorem Gf:TI Tryz.prog 364 (.agg (aT (List.replicate 4 0):List Value).toArray) 4 4:=by unfold TI;kernel_rfl
theorem Di:c5 Tryz.prog 386=some false:=by kernel_rfl
theorem Fp:TI Tryz.prog 389 (.agg ((([.int .i64 0])++([.int .i64 0])++([.int .i64 0]))++([.int .u32 0])++([.pointer none])++([.slice none 0 0]):List Value).toArray) 6 64:=by unfold TI;kernel_rfl
theorem mj:eV Tryz.prog 389 0=some (0,3,75):=by kernel_rfl
theorem A0:eV Tryz.prog 389 1=some (3,1,166):=by kernel_rfl
theorem vJ:eV Tryz.prog 389 2=some (4,1,386):=by kernel_rfl
theorem me:eV Tryz.prog 389 3=some (5,1,27):=by kernel_rfl
end Go.Proofs.YtmibdabdlgmafaaGreatDoor
end
section
namespace Go.Hx
open Go.Eng
def l8(x:Nat):Nat:=if x % 2=1 then(x/2) ^^^ 2197175160 else x/2
theorem ym{x:Nat}(h:x<4294967296):l8 x<4294967296:=by
 unfold l8
 split
 ·exact Nat.xor_lt_two_pow (n:=32) (by omega) (by decide)
 ·omega
def fX:Nat→Nat→Nat
 |0,x=>x
 |n+1,x=>l8 (fX n x)
theorem kK{x:Nat}(h:x<4294967296):∀n,fX n x<4294967296
 |0=>h
 |n+1=>ym (kK h n)
def j3(n:Nat)(l:List UInt8):Nat:=l.foldl (fun n b=>fX 8 (n ^^^ b.toNat)) n
theorem mM{n:Nat}(h:n<4294967296):∀l:List UInt8,j3 n l<4294967296:=by
 intro l
 induction l generalizing n with
 |nil=>exact h
 |cons a r ih=>exact ih (kK (Nat.xor_lt_two_pow (n:=32) h (by have:=a.toNat_lt;omega)) 8)
theorem pW(n:Nat)(l:List UInt8)(b:UInt8):j3 n (l++[b])=fX 8 (j3 n l ^^^ b.toNat):=by simp[j3]
theorem ub{m:Nat}(h:m<4294967296):4294967295 ^^^ m=4294967295-m:=by
 have h1:(BitVec.allOnes 32 ^^^ BitVec.ofNat 32 m)= ~~~ BitVec.ofNat 32 m:=BitVec.allOnes_xor
 have h2:=congrArg BitVec.toNat h1
 rw[BitVec.toNat_xor,BitVec.toNat_not,BitVec.toNat_allOnes,BitVec.toNat_ofNat,Nat.mod_eq_of_lt h]at h2
 exact h2
def dj(l:List UInt8):Nat:=4294967295-j3 4294967295 l
theorem ju(l:List UInt8):dj l<4294967296:=by unfold dj;omega
def jA(n:Nat):List UInt8:=[UInt8.ofNat n,UInt8.ofNat (n/256),UInt8.ofNat (n/65536),UInt8.ofNat (n/16777216)]
def rG:Nat→Nat→Nat
 |0,n=>n
 |k+1,n=>rG k n/256
def Ed(k n:Nat):List UInt8:=(List.range k).map fun i=>UInt8.ofNat (rG i n)
theorem zt(k n:Nat):Ed (k+1) n=Ed k n++[UInt8.ofNat (rG k n)]:=by simp[Ed,List.range_succ]
theorem yf(n:Nat):Ed 4 n=jA n:=by
 simp only[Ed,List.range_succ,List.range_zero,List.nil_append,List.cons_append,List.map_cons,List.map_nil,rG,jA,Nat.div_div_eq_div_mul]
theorem vT{n b:Nat}(h:n<b):∀k,rG k n<b
 |0=>h
 |k+1=>by have:=vT h k;simp only[rG];omega
theorem iq(n:Nat):(jA n).length=4:=rfl
def zX(l:List UInt8):List UInt8:=l++jA (dj l)
theorem xr(x:Nat)(h:x<4294967296):(x/2) ^^^ (2197175160*(x % 2))=l8 x:=by
 unfold l8
 split
 ·rename_i h1;rw[h1]
 ·rename_i h1
  have:x % 2=0:=by omega
  rw[this];simp
theorem iM(n:Nat):IntKind.u8.wrap (n:Int)=((UInt8.ofNat n).toNat:Int):=by
 simp[IntKind.wrap,IntKind.signed,IntKind.bits]
theorem HK(x:Nat)(h:x<4294967296):bits .and .u32 (x:Int) 1=((x % 2:Nat):Int):=by
 have:=u32_and_nat x 1 h (by decide)
 rw[Nat.and_one_is_mod]at this
 exact this
theorem yi(x:Nat)(h:x<4294967296):bits .xor .u32 ((x:Int)/2) (2197175160*((x % 2:Nat):Int))=((l8 x:Nat):Int):=by
 have h2:x % 2=0∨x % 2=1:=by omega
 have h3:2197175160*(x % 2)<4294967296:=by rcases h2 with h2|h2 <;> rw[h2] <;> decide
 have:=u32_xor_nat (x/2) (2197175160*(x % 2)) (by omega) h3
 rw[xr x h]at this
 rw[←this]
 congr 1
theorem sG(x:Nat)(h:x<4294967296)(b:UInt8):bits .xor .u32 (x:Int) (b.toNat:Int)=((x ^^^ b.toNat:Nat):Int):=u32_xor_nat x b.toNat h (by have:=b.toNat_lt;omega)
theorem AE(x:Nat)(h:x<4294967296):bits .xor .u32 ((x:Int)/2) 2197175160=(((x/2) ^^^ 2197175160:Nat):Int):=u32_xor_nat (x/2) 2197175160 (by omega) (by decide)
theorem nV{x:Nat}(h:x<4294967296)(b:UInt8):x ^^^ b.toNat<4294967296:=Nat.xor_lt_two_pow (n:=32) h (by have:=b.toNat_lt;omega)
end Go.Hx
end
section
namespace Go.Hx
open Go.Eng
def qe:List UInt8:=[48,49,50,51,52,53,54,55,56,57,97,98,99,100,101,102]
def va(b:UInt8):List UInt8:=[qe.getD (b.toNat/16) 0,qe.getD (b.toNat % 16) 0]
def cG(l:List UInt8):List UInt8:=l.flatMap va
theorem dW(l:List UInt8):(cG l).length=2*l.length:=by
 induction l with
 |nil=>rfl
 |cons a r ih=>simp only[cG,List.flatMap_cons,List.length_append,List.length_cons]at ih ⊢;rw[ih];simp[va];omega
theorem tp(l m:List UInt8):cG (l++m)=cG l++cG m:=by simp[cG]
theorem eK{l:List UInt8}{k:Nat}(h:k<l.length):l.take (k+1)=l.take k++[l.getD k 0]:=by
 rw[List.take_succ_eq_append_getElem h];simp[List.getD,List.getElem?_eq_getElem h]
theorem qJ{l:List UInt8}{k:Nat}(h:k<l.length):cG (l.take (k+1))=cG (l.take k)++va (l.getD k 0):=by
 rw[eK h,tp];simp[cG]
theorem tw(j:Nat)(h:j<16):((bytesOf ⟨#[48,49,50,51,52,53,54,55,56,57,97,98,99,100,101,102]⟩).take (j+1)).drop j=[qe.getD j 0]:=by
 revert j;decide
theorem xu{l:List UInt8}{k:Nat}(h:k<l.length):strOf (cG (l.take k))++strOf (((bytesOf ⟨#[48,49,50,51,52,53,54,55,56,57,97,98,99,100,101,102]⟩).take ((l.getD k 0).toNat/16+1)).drop ((l.getD k 0).toNat/16))++
  strOf (((bytesOf ⟨#[48,49,50,51,52,53,54,55,56,57,97,98,99,100,101,102]⟩).take ((l.getD k 0).toNat % 16+1)).drop ((l.getD k 0).toNat % 16))=strOf (cG (l.take (k+1))):=by
 have hb:=(l.getD k 0).toNat_lt
 rw[tw _ (by omega),tw _ (by omega),cX,cX,qJ h]
 simp[va]
theorem we(i:Int)(h0:0≤i)(h:i<16):(#[48,49,50,51,52,53,54,55,56,57,97,98,99,100,101,102]:Array UInt8)[i.toNat]? =some (qe.getD i.toNat 0):=by
 have:i.toNat<16:=by omega
 generalize i.toNat=j at this
 revert j
 decide
theorem Bl(x:UInt8):(#[48,49,50,51,52,53,54,55,56,57,97,98,99,100,101,102]:Array UInt8)[((x.toNat:Int)/16).toNat]? =some (qe.getD (x.toNat/16) 0):=by
 have h:=x.toNat_lt
 rw[we _ (by omega) (by omega)]
 rfl
theorem Bk(x:UInt8):(#[48,49,50,51,52,53,54,55,56,57,97,98,99,100,101,102]:Array UInt8)[((x.toNat % 16:Nat):Int).toNat]? =some (qe.getD (x.toNat % 16) 0):=by
 rw[we _ (by omega) (by omega)]
 rfl
theorem FJ(x:UInt8):bits .and .u8 (x.toNat:Int) 15=((x.toNat % 16:Nat):Int):=by
 have:=u8_and_nat x.toNat 15 (by have:=x.toNat_lt;omega) (by decide)
 rw[show((15:Nat):Int)=15 from rfl]at this
 rw[this]
 congr 1
 exact Nat.and_two_pow_sub_one_eq_mod x.toNat 4
end Go.Hx
end
section
namespace Go.Hx
open Go.Eng
def Eu(c:UInt8):Int:=if 48≤c.toNat∧c.toNat≤57 then(c.toNat:Int)-48 else if 97≤c.toNat∧c.toNat≤102 then(c.toNat:Int)-87 else-1
def unhex:List UInt8→Option (List UInt8)
 | []=>some []
 | [_]=>none
 |a::b::r=>if Eu a<0∨Eu b<0 then none else(unhex r).map (UInt8.ofNat (16*(Eu a).toNat+(Eu b).toNat)::·)
theorem sS(k:Nat)(h:k<16):Eu (qe.getD k 0)=k:=by
 revert k;decide
theorem lB:∀(l:List UInt8),unhex (cG l)=some l
 | []=>rfl
 |a::r=>by
  have ih:=lB r
  have ha:=a.toNat_lt
  have h1:=sS (a.toNat/16) (by omega)
  have h2:=sS (a.toNat % 16) (by omega)
  have e:cG (a::r)=qe.getD (a.toNat/16) 0::qe.getD (a.toNat % 16) 0::cG r:=by simp[cG,va]
  rw[e,unhex,h1,h2,if_neg (by omega),ih]
  simp only[Option.map_some,Int.toNat_natCast]
  congr 2
  have e2:16*(a.toNat/16)+a.toNat % 16=a.toNat:=by omega
  rw[e2]
  simp
theorem yv{l m:List UInt8}(h:cG l=cG m):l=m:=by
 have:=lB l
 rw[h,lB m]at this
 simpa using this.symm
end Go.Hx
end
section
set_option maxRecDepth 20000
namespace Go.Proofs.YtmibdabdlgmafaaGreatDoor
open Go.Eng Go.Hx
theorem Ch(g:Nat)(bt:TypeId)(x:Nat)(hx:x<4294967296)(w:World)(hb:e8 w g bt [.int .u32 (x:Int)]):
  Calls Tryz.prog 298 #[.pointer (some ⟨g,0,none⟩)] w fun e w' =>e= .returned (.tuple #[])∧Fr (fun i=>i=g) w w' ∧e8 w' g bt [.int .u32 (l8 x:Nat)]:=by
 have hc:w.cell? ⟨g,0,none⟩=some (.int .u32 (x:Int)):=hb.cell rfl
 have h3:(0:Int)≤2197175160*((x % 2:Nat):Int)∧2197175160*((x % 2:Nat):Int)<4294967296:=by omega
 refine enter (N:=9) Tryz.func298 rfl rfl (by simp) ?_
 refine bJ<|bY<|nq (ak rfl bM hc)<|nq (gJ (by simp) rfl rfl (HK x hx))<|nq (ay rfl)<|bX<|cE (ab (t:=1) rfl<|ab (t:=0) rfl<|aZ)<|bk<|bY<|nq (ak rfl bM hc)<|nq (mE (p:=2) rfl rfl (by decide) (by decide) (by decide))<|nq (ai rfl)<|nq (gz rfl rfl (wQ h3.1 h3.2))<|nq (gJ (by simp) rfl rfl (yi x hx))<| ?_
 refine Ia (AL rfl rfl bB rfl hb (by simp) fun w1 hf1 hb1 hs1=> ?_)
 refine bX<|cE (ab (t:=1) rfl<|ab (t:=0) rfl<|aZ)<| ?_
 exact FN trivial rfl ⟨rfl,hf1,hb1⟩
theorem yY(x n:Nat)(hx:x<4294967296)(hn:n≤1000000)(w:World):
  Calls Tryz.prog 273 #[.int .u32 (x:Int),.int .i64 (n:Int)] w fun e w' =>e= .returned (.int .u32 (fX n x:Nat))∧Fr No w w' :=by
 refine enter (N:=14) Tryz.func273 rfl rfl (by simp) ?_
 refine bJ<|bY<| ?_
 refine nx (uj rfl fun g w1 hg hf1 hb1=> ?_)
 refine nq (ay rfl)<|bX<|bk<|bJ<|bY<|nq (fD rfl rfl)<|nq (ay rfl)<|bX<|cE (ab (t:=5) rfl<|ab (t:=4) rfl<|ab (t:=2) rfl<|ab (t:=0) rfl<|ab (t:=1) rfl<|aZ)<|bk<|bJ<|bJ<|bY<|nq (ai rfl)<|nq (ai rfl)<|bX<|bk<|dR<| ?_
 refine mX (fun k=>n-k) (fun k=>[(2,.pointer (some ⟨g,0,none⟩)),(5,.func (.func 298) #[] #[.pointer (some ⟨g,0,none⟩)]),(7,.int .i64 (n:Int)),(8,.int .i64 (k:Nat))]) (fun k w' =>k≤n∧Fr No w w' ∧e8 w' g 166 [.int .u32 (fX k x:Nat)]) 0 (⟨Nat.zero_le _,hf1,hb1⟩) (ab (t:=2) rfl<|ab (t:=5) rfl<|ab (t:=7) rfl<|ab (t:=8) rfl<|aZ) (fun k w2 ⟨hk,hf2,hb2⟩=> ?_)
 refine bJ<|bY<|nq (bx rfl rfl)<|bX<|bk<|bJ<| ?_
 refine x7 rfl (fun h=> ?_) (fun h=> ?_)
 ·refine iH<|bk<|bJ<|dR<|bY<|nq (ai rfl)<| ?_
  refine nx (wM rfl rfl Tryz.call298 (first:=[]) (cap:=[_]) (Ch g _ _ (kK hx k) _ hb2) ?_)
  rintro e_ w3 ⟨rfl,hf3,hb3⟩
  refine⟨_,rfl, ?_⟩
  refine bX<|cE (ab (t:=9) rfl<|ab (t:=2) rfl<|ab (t:=5) rfl<|ab (t:=7) rfl<|ab (t:=8) rfl<|aZ)<|jS<|bk<|bY<|nq (aO rfl rfl (bE (by omega) (by omega)))<|nq (ai rfl)<|bX<|cE (ab (t:=8) rfl<|ab (t:=9) rfl<|ab (t:=2) rfl<|ab (t:=5) rfl<|ab (t:=7) rfl<|aZ)<| ?_
  refine nK (k+1) (ab (t:=2) rfl<|ab (t:=5) rfl<|ab (t:=7) rfl<|ab (t:=8) rfl<|aZ) (⟨by omega,hf2.new hf3 (fun i hi=>by omega),hb3⟩) (by omega)
 ·obtain rfl:k=n:=by omega
  refine lP<|cI<|cI<|dM<|bk<|bJ<|bY<|nq (ak rfl bM ((hb2.cell rfl)))<|nq (ay rfl)<|bX<|cE (ab (t:=4) rfl<|ab (t:=9) rfl<|ab (t:=2) rfl<|ab (t:=5) rfl<|ab (t:=7) rfl<|ab (t:=8) rfl<|aZ)<|bk<|iW<| ?_
  exact iY trivial rfl rfl ⟨rfl,hf2⟩
theorem BY(A:Option Addr)(n c:Nat)(l:List UInt8)(s:Nat)(hs:s<4294967296)(w:World)(hr:Rd w 1 A n (aT l))(hn:n≤140737488351232):
  Calls Tryz.prog 232 #[.int .u32 (s:Int),.slice A n c] w fun e w' =>e= .returned (.int .u32 (4294967295-j3 (4294967295-s) l:Nat))∧Fr No w w' :=by
 have hl:l.length=n:=by have:=hr.1;rw[aA]at this;omega
 refine enter (N:=25) Tryz.func232 rfl rfl (by simp) ?_
 refine bJ<|bY<|nq (ay rfl)<|bX<|bk<|bJ<|bY<|nq (ai rfl)<|nq (yV (rq rfl hs) (congrArg (fun n:Nat=>Value.int .u32 (n:Int)) (ub hs)))<|nq (ay rfl)<|bX<|cE (ab (t:=5) rfl<|ab (t:=4) rfl<|ab (t:=0) rfl<|ab (t:=1) rfl<|aZ)<|bk<|bJ<|bJ<|bY<|nq (ai rfl)<|nq (a6 rfl Tryz.underlying27)<|nq (ai rfl)<|bX<|cE (ab (t:=11) rfl<|ab (t:=10) rfl<|ab (t:=5) rfl<|ab (t:=4) rfl<|ab (t:=0) rfl<|ab (t:=1) rfl<|aZ)<|bk<|dR<| ?_
 refine mX (fun k=>n-k) (fun k=>[(1,.slice A n c),(5,.int .u32 (j3 (4294967295-s) (l.take k):Nat)),(10,.int .i64 (n:Int)),(11,.int .i64 (k:Nat))]) (fun k w' =>k≤n∧Fr No w w') 0 (⟨Nat.zero_le _,Fr.refl _ _⟩) (ab (t:=1) rfl<|ab (t:=5) rfl<|ab (t:=10) rfl<|ab (t:=11) rfl<|aZ) (fun k w2 ⟨hk,hf2⟩=> ?_)
 refine bJ<|bY<|nq (bx rfl rfl)<|bX<|bk<|bJ<| ?_
 refine x7 rfl (fun h=> ?_) (fun h=> ?_)
 ·have hkn:k<l.length:=by omega
  have hm:=mM (n:=4294967295-s) (by omega) (l.take k)
  have hbt:=(l.getD k 0).toNat_lt
  have r2:=hr.x5 hf2
  refine iH<|bk<|bJ<|dR<|bJ<|bY<|nq (ai rfl)<|nq (ay rfl)<|bX<|cE (ab (t:=6) rfl<|ab (t:=12) rfl<|ab (t:=1) rfl<|ab (t:=5) rfl<|ab (t:=10) rfl<|ab (t:=11) rfl<|aZ)<|bk<|bY<|nq (ai rfl)<|nq (ai rfl)<|nq (ai rfl)<|nq (aS rfl rfl Tryz.underlying27 dJ r2.2.1 rfl (by omega))<|nq (ak rfl iV (r2.cell (bO hkn)))<|nq (b8 rfl Tryz.underlying5 Tryz.underlying166 ((wQ (by omega) (by omega))))<|nq (gJ (by simp) rfl rfl (sG _ hm _))<| ?_
  refine nx (jZ rfl Tryz.call273 (yY _ 8 (nV hm _) (by decide) _) ?_)
  rintro e_ w3 ⟨rfl,hf3⟩
  refine⟨_,rfl, ?_⟩
  rw[←pW,←Go.Hx.eK hkn]
  refine nq (ay rfl)<|bX<|cE (ab (t:=5) rfl<|ab (t:=6) rfl<|ab (t:=12) rfl<|ab (t:=1) rfl<|ab (t:=10) rfl<|ab (t:=11) rfl<|aZ)<|jS<|bk<|bY<|nq (aO rfl rfl (bE (by omega) (by omega)))<|nq (ai rfl)<|bX<|cE (ab (t:=11) rfl<|ab (t:=5) rfl<|ab (t:=6) rfl<|ab (t:=12) rfl<|ab (t:=1) rfl<|ab (t:=10) rfl<|aZ)<| ?_
  refine nK (k+1) (ab (t:=1) rfl<|ab (t:=5) rfl<|ab (t:=10) rfl<|ab (t:=11) rfl<|aZ) (⟨by omega,hf2.eX hf3⟩) (by omega)
 ·obtain rfl:k=n:=by omega
  have hm:=mM (n:=4294967295-s) (by omega) (l.take k)
  refine lP<|cI<|cI<|dM<|bk<|bJ<|bY<|nq (ai rfl)<|nq (rq rfl hm)<|nq (ay rfl)<|bX<|cE (ab (t:=4) rfl<|ab (t:=12) rfl<|ab (t:=1) rfl<|ab (t:=5) rfl<|ab (t:=10) rfl<|ab (t:=11) rfl<|aZ)<|bk<|iW<| ?_
  rw[List.take_of_length_le (by omega)]at hm ⊢
  rw[ub hm]
  exact iY trivial rfl rfl ⟨rfl,hf2⟩
theorem zi(A:Option Addr)(n c:Nat)(l:List UInt8)(w:World)(hr:Rd w 1 A n (aT l))(hn:n≤140737488351232):
  Calls Tryz.prog 180 #[.slice A n c] w fun e w' =>e= .returned (.int .u32 (dj l:Nat))∧Fr No w w' :=by
 refine enter (N:=5) Tryz.func180 rfl rfl (by simp) ?_
 refine bJ<|bY<|nq (ay rfl)<|bX<|bk<|bJ<|bY<|nq (ai rfl)<| ?_
 refine nx (jZ rfl Tryz.call232 (BY A n c l 0 (by decide) w hr hn) ?_)
 rintro e_ w1 ⟨rfl,hf1⟩
 refine⟨_,rfl, ?_⟩
 refine nq (ay rfl)<|bX<|cE (ab (t:=2) rfl<|ab (t:=0) rfl<|aZ)<|bk<|iW<| ?_
 exact iY trivial rfl rfl ⟨rfl,hf1⟩
theorem clone(A:Option Addr)(n c:Nat)(l:List UInt8)(w:World)(hr:Rd w 1 A n (aT l))(hn:n≤140737488351232):
  Calls Tryz.prog 117 #[.slice A n c] w fun e w' =>∃v,e= .returned v∧Go.Eng.Own w' w.heap.size 5 1 v n (aT l)∧Fr No w w' :=by
 have hl:l.length=n:=by have:=hr.1;rw[aA]at this;omega
 refine enter (N:=8) Tryz.func117 rfl rfl (by simp) ?_
 refine bJ<|bY<|nq (ay rfl)<|bX<|bk<|bJ<|bJ<|bY<|nq (ai rfl)<|nq (EG rfl rfl Tryz.underlying27)<|bX<|cE (ab (t:=4) rfl<|ab (t:=2) rfl<|ab (t:=0) rfl<|aZ)<|bk<| ?_
 cases A with
 |none=>
  have h0:n=0:=by
   rcases Nat.eq_zero_or_pos n with h|h
   ·exact h
   ·exact absurd rfl (hr.2.1 h)
  subst h0
  obtain rfl:l=[]:=List.eq_nil_of_length_eq_zero hl
  refine Gy rfl (rfl) ?_
  refine bJ<|bY<|nq (ay rfl)<|bX<|bk<|iW<|kW<| ?_
  exact iY trivial rfl rfl ⟨_,rfl,Own.nil _ _ _ _,Fr.refl _ _⟩
 |some a=>
  refine xK rfl (rfl) ?_
  refine iH<|bk<|bJ<|bY<| ?_
  refine nx (EB Tryz.underlying27 fh fun g w1 hg hf1 hb1=> ?_)
  refine nq (ai rfl)<| ?_
  refine nx (pb rfl rfl Tryz.underlying27 Tryz.underlying27 (by exact .inl rfl) fh rfl (Own.Gt hb1 hg) (Src.b9 (hr.x5 hf1)) iL (by unfold maxLen;omega) (by omega) hf1.size fun v w2 ho hf2 hv=> ?_)
  refine nq (ay rfl)<|bX<|cE (ab (t:=2) rfl<|ab (t:=4) rfl<|ab (t:=0) rfl<|aZ)<|bk<|iW<| ?_
  refine iY trivial rfl rfl ⟨v,rfl, ?_,hf1.new hf2 (fun i hi=>by have:i=g:=hi;omega)⟩
  simpa using ho
theorem AJ(A:Option Addr)(n c:Nat)(l:List UInt8)(s:Nat)(hs:s<4294967296)(w:World)(hr:Rd w 1 A n (aT l))(hn:n≤140737488351232):
  Calls Tryz.prog 243 #[.int .u32 (s:Int),.slice A n c] w fun e w' =>e= .returned (.int .u32 (4294967295-j3 (4294967295-s) l:Nat))∧w=w' :=by
 have hl:l.length=n:=by have:=hr.1;rw[aA]at this;omega
 refine enter (N:=37) Tryz.func243 rfl rfl (by simp) ?_
 refine bJ<|bY<|nq (ay rfl)<|bX<|bk<|bJ<|bY<|nq (ai rfl)<|nq (ct rfl rfl ((show IntKind.u32.wrap (4294967295-(s:Int))=((4294967295-s:Nat):Int) by rw[wQ (by omega) (by omega)];omega)))<|nq (ay rfl)<|bX<|cE (ab (t:=5) rfl<|ab (t:=4) rfl<|ab (t:=0) rfl<|ab (t:=1) rfl<|aZ)<|bk<|bJ<|bJ<|bY<|nq (ay rfl)<|bX<|bk<|dR<| ?_
 refine mX (fun k=>n-k) (fun k=>[(1,.slice A n c),(5,.int .u32 (j3 (4294967295-s) (l.take k):Nat)),(6,.int .i64 (k:Nat))]) (fun k w' =>k≤n∧w=w') 0 (⟨Nat.zero_le _,rfl⟩) (ab (t:=1) rfl<|ab (t:=5) rfl<|ab (t:=6) rfl<|aZ) (fun k w2 ⟨hk,hw⟩=> ?_)
 obtain rfl:=hw
 refine bJ<|bJ<|bY<|nq (ai rfl)<|nq (ai rfl)<|nq (a6 rfl Tryz.underlying27)<|nq (bx rfl rfl)<|bX<|cE (ab (t:=13) rfl<|ab (t:=1) rfl<|ab (t:=5) rfl<|ab (t:=6) rfl<|aZ)<|bk<| ?_
 refine x7 rfl (fun h=> ?_) (fun h=> ?_)
 ·have hkn:k<l.length:=by omega
  have hm:=mM (n:=4294967295-s) (by omega) (l.take k)
  have hbt:=(l.getD k 0).toNat_lt
  have hx:=nV hm (l.getD k 0)
  refine iH<|bk<|bJ<|dR<|bJ<|bY<|nq (ai rfl)<|nq (ai rfl)<|nq (ai rfl)<|nq (aS rfl rfl Tryz.underlying27 dJ hr.2.1 rfl (by omega))<|nq (ak rfl iV (hr.cell (bO hkn)))<|nq (b8 rfl Tryz.underlying5 Tryz.underlying166 ((wQ (by omega) (by omega))))<|nq (gJ (by simp) rfl rfl (sG _ hm _))<|nq (ay rfl)<|bX<|cE (ab (t:=5) rfl<|ab (t:=13) rfl<|ab (t:=1) rfl<|ab (t:=6) rfl<|aZ)<|bk<|bJ<|bY<|nq (ay rfl)<|bX<|bk<|dR<| ?_
  generalize hX:j3 (4294967295-s) (l.take k) ^^^ (l.getD k 0).toNat=X at hx
  refine mX (fun q=>8-q) (fun q=>[(1,.slice A n c),(5,.int .u32 (fX q X:Nat)),(6,.int .i64 (k:Nat)),(7,.int .i64 (q:Nat))]) (fun q w' =>q≤8∧w=w') 0 (⟨Nat.zero_le _,rfl⟩) (ab (t:=1) rfl<|ab (t:=5) rfl<|ab (t:=6) rfl<|ab (t:=7) rfl<|aZ) (fun q w3 ⟨hq,hw⟩=> ?_)
  obtain rfl:=hw
  have hc:=kK hx q
  refine bJ<|bJ<|bY<|nq (ai rfl)<|nq (bx rfl rfl)<|bX<|cE (ab (t:=24) rfl<|ab (t:=1) rfl<|ab (t:=5) rfl<|ab (t:=6) rfl<|ab (t:=7) rfl<|aZ)<|bk<| ?_
  refine x7 rfl (fun h2=> ?_) (fun h2=> ?_)
  ·refine iH<|bk<|bJ<|dR<|bJ<|bY<|nq (ai rfl)<|nq (hZ rfl rfl (by omega) (by omega))<|nq (cD rfl rfl)<|bX<|cE (ab (t:=29) rfl<|ab (t:=24) rfl<|ab (t:=1) rfl<|ab (t:=5) rfl<|ab (t:=6) rfl<|ab (t:=7) rfl<|aZ)<|bk<| ?_
   refine x7 rfl (fun h3=> ?_) (fun h3=> ?_)
   ·refine bY<|nq (ai rfl)<|nq (kd rfl rfl (by omega) (by omega) (wQ (by omega) (by omega)))<|nq (gJ (by simp) rfl rfl (AE _ hc))<|nq (ay rfl)<|bX<|cE (ab (t:=5) rfl<|ab (t:=29) rfl<|ab (t:=24) rfl<|ab (t:=1) rfl<|ab (t:=6) rfl<|ab (t:=7) rfl<|aZ)<|jS<|bk<|bY<|nq (ai rfl)<|nq (aO rfl rfl (bE (by omega) (by omega)))<|nq (ay rfl)<|bX<|cE (ab (t:=7) rfl<|ab (t:=5) rfl<|ab (t:=29) rfl<|ab (t:=24) rfl<|ab (t:=1) rfl<|ab (t:=6) rfl<|aZ)<| ?_
    rw[show fX q X/2 ^^^ 2197175160=fX (q+1) X by rw[fX,l8,if_pos (by omega)]]
    refine nK (q+1) (ab (t:=1) rfl<|ab (t:=5) rfl<|ab (t:=6) rfl<|ab (t:=7) rfl<|aZ) (⟨by omega,rfl⟩) (by omega)
   ·refine bY<|nq (ai rfl)<|nq (kd rfl rfl (by omega) (by omega) (wQ (by omega) (by omega)))<|nq (ay rfl)<|bX<|cE (ab (t:=5) rfl<|ab (t:=29) rfl<|ab (t:=24) rfl<|ab (t:=1) rfl<|ab (t:=6) rfl<|ab (t:=7) rfl<|aZ)<|jS<|bk<|bY<|nq (ai rfl)<|nq (aO rfl rfl (bE (by omega) (by omega)))<|nq (ay rfl)<|bX<|cE (ab (t:=7) rfl<|ab (t:=5) rfl<|ab (t:=29) rfl<|ab (t:=24) rfl<|ab (t:=1) rfl<|ab (t:=6) rfl<|aZ)<| ?_
    rw[show(fX q X:Int)/2=((fX (q+1) X:Nat):Int) by rw[fX,l8,if_neg (by omega)];omega]
    refine nK (q+1) (ab (t:=1) rfl<|ab (t:=5) rfl<|ab (t:=6) rfl<|ab (t:=7) rfl<|aZ) (⟨by omega,rfl⟩) (by omega)
  ·obtain rfl:q=8:=by omega
   refine lP<|cI<|cI<|dM<|jS<|bk<|bY<|nq (ai rfl)<|nq (aO rfl rfl (bE (by omega) (by omega)))<|nq (ay rfl)<|bX<|cE (ab (t:=6) rfl<|ab (t:=24) rfl<|ab (t:=1) rfl<|ab (t:=5) rfl<|ab (t:=7) rfl<|aZ)<| ?_
   rw[←hX,←pW,←Go.Hx.eK hkn]
   refine nK (k+1) (ab (t:=1) rfl<|ab (t:=5) rfl<|ab (t:=6) rfl<|aZ) (⟨by omega,rfl⟩) (by omega)
 ·obtain rfl:k=n:=by omega
  have hm:=mM (n:=4294967295-s) (by omega) (l.take k)
  refine lP<|cI<|cI<|dM<|bk<|bJ<|bY<|nq (ai rfl)<|nq (ct rfl rfl ((show IntKind.u32.wrap (4294967295-((j3 (4294967295-s) (l.take k):Nat):Int))=((4294967295-j3 (4294967295-s) (l.take k):Nat):Int) by rw[wQ (by omega) (by omega)];omega)))<|nq (ay rfl)<|bX<|cE (ab (t:=4) rfl<|ab (t:=13) rfl<|ab (t:=1) rfl<|ab (t:=5) rfl<|ab (t:=6) rfl<|aZ)<|bk<|iW<| ?_
  rw[List.take_of_length_le (by omega)]
  exact iY trivial rfl rfl ⟨rfl,rfl⟩
theorem Bc(A:Option Addr)(n c:Nat)(l:List UInt8)(w:World)(hr:Rd w 1 A n (aT l))(hn:n≤70368744177664):
  Calls Tryz.prog 189 #[.slice A n c] w fun e w' =>∃v,e= .returned v∧Go.Eng.Own w' w.heap.size 5 1 v (n+4) (aT (zX l))∧Fr No w w' :=by
 have hl:l.length=n:=by have:=hr.1;rw[aA]at this;omega
 refine enter (N:=24) Tryz.func189 rfl rfl (by simp) ?_
 refine bJ<|bY<|nq (ay rfl)<|bX<|bk<|bJ<|bY<|nq (ai rfl)<| ?_
 refine nx (jZ rfl Tryz.call243 (AJ A n c l 0 (by decide) w hr (by omega)) ?_)
 rintro e_ w1 ⟨rfl,rfl⟩
 refine⟨_,rfl, ?_⟩
 refine nq (ay rfl)<|bX<|cE (ab (t:=3) rfl<|ab (t:=2) rfl<|ab (t:=0) rfl<|aZ)<|bk<|bJ<|bY<|nq (ay rfl)<|bX<|bk<|bJ<|bY<|nq (ai rfl)<|nq (ai rfl)<| ?_
 refine nx (pb rfl rfl Tryz.underlying27 Tryz.underlying27 (by exact .inl rfl) fh rfl (Own.nil w w.heap.size _ 1) (Src.b9 hr) iL (by unfold maxLen;omega) (by omega) (Nat.le_refl _) fun v w2 hv hf2 hvv=> ?_)
 have hlt:=ju l
 have f2:Fr No w w2:=hf2.mono (fun _ _ e=>e.elim)
 refine nq (ay rfl)<|bX<|cE (ab (t:=4) rfl<|ab (t:=3) rfl<|ab (t:=2) rfl<|ab (t:=0) rfl<|aZ)<|bk<|bJ<|bJ<|bY<|nq (ay rfl)<|bX<|bk<|dR<| ?_
 refine vf (fun k _=>4-k) (fun k v=>[(3,.int .u32 (rG k (dj l):Nat)),(4,v),(5,.int .i64 (k:Nat))]) (fun k v w' =>k≤4∧Go.Eng.Own w' w.heap.size 5 1 v (n+k) (aT (l++Ed k (dj l)))∧Fr No w w') 0 v (⟨Nat.zero_le _,by simpa[Ed]using hv,f2⟩) (ab (t:=3) rfl<|ab (t:=4) rfl<|ab (t:=5) rfl<|aZ) (fun k v w3 ⟨hk,ho,hf⟩=> ?_)
 refine bJ<|bJ<|bY<|nq (ai rfl)<|nq (bx rfl rfl)<|bX<|cE (ab (t:=12) rfl<|ab (t:=3) rfl<|ab (t:=4) rfl<|ab (t:=5) rfl<|aZ)<|bk<| ?_
 refine x7 rfl (fun h=> ?_) (fun h=> ?_)
 ·have hs8:=vT hlt k
  refine iH<|bk<|bJ<|dR<|bJ<|bY<|nq (ai rfl)<|nq (ai rfl)<|nq (hZ rfl rfl (by omega) (by omega))<|nq (b8 rfl Tryz.underlying166 Tryz.underlying5 ((show IntKind.u8.wrap (((rG k (dj l):Nat):Int) % 256)=((UInt8.ofNat (rG k (dj l))).toNat:Int) by simp[IntKind.wrap,IntKind.signed,IntKind.bits])))<| ?_
  refine nx (tP Tryz.underlying27 fh rfl rfl rfl (by simp[Value.cells,B8]) (by decide) (by decide) fun g w4 hg hf4 hb4=> ?_)
  refine nx (pb rfl rfl Tryz.underlying27 Tryz.underlying27 (by exact .inl rfl) fh rfl (ho.x5 hf4) (Src.lG hb4 rfl) (bl (l:=[_])) (by unfold maxLen;omega) (by omega) (hf.eX hf4).size fun v5 w5 ho5 hf5 hv5=> ?_)
  refine nq (ay rfl)<|bX<|cE (ab (t:=4) rfl<|ab (t:=12) rfl<|ab (t:=3) rfl<|ab (t:=5) rfl<|aZ)<|bk<|bY<|nq (ai rfl)<|nq (kd rfl rfl (by omega) (by omega) (wQ (by omega) (by omega)))<|nq (ay rfl)<|bX<|cE (ab (t:=3) rfl<|ab (t:=4) rfl<|ab (t:=12) rfl<|ab (t:=5) rfl<|aZ)<|jS<|bk<|bY<|nq (ai rfl)<|nq (aO rfl rfl (bE (by omega) (by omega)))<|nq (ay rfl)<|bX<|cE (ab (t:=5) rfl<|ab (t:=3) rfl<|ab (t:=4) rfl<|ab (t:=12) rfl<|aZ)<| ?_
  refine uA (k+1) v5 (ab (t:=3) rfl<|ab (t:=4) rfl<|ab (t:=5) rfl<|aZ) (⟨by omega,by rw[zt,←List.append_assoc,bR];exact ho5,(hf.eX hf4).new hf5 (fun i hi=>(ho.from hi).1)⟩) (by omega)
 ·obtain rfl:k=4:=by omega
  refine lP<|cI<|cI<|dM<|bk<|bJ<|bY<|nq (ai rfl)<|nq (ay rfl)<|bX<|cE (ab (t:=2) rfl<|ab (t:=12) rfl<|ab (t:=3) rfl<|ab (t:=4) rfl<|ab (t:=5) rfl<|aZ)<|bk<|iW<| ?_
  rw[yf]at ho
  exact iY trivial rfl rfl ⟨v,rfl,ho,hf⟩
end Go.Proofs.YtmibdabdlgmafaaGreatDoor
end
section
set_option maxRecDepth 20000
namespace Go.Proofs.YtmibdabdlgmafaaGreatDoor
open Go.Eng Go.Hx
theorem uD(A:Option Addr)(n c:Nat)(l:List UInt8)(A' :Option Addr)(n' c' :Nat)(l' :List UInt8)(w:World)(hr:Rd w 1 A n (aT l))(hr' :Rd w 1 A' n' (aT l')):
  Calls Tryz.prog 215 #[.slice A n c,.slice A' n' c'] w fun e w' =>e= .returned (.bool (decide (l=l')))∧w=w' :=by
 refine enter (N:=10) Tryz.func215 rfl rfl (by simp) ?_
 refine bJ<|bY<|nq (ay rfl)<|bX<|bk<|bJ<|bY<|nq (ai rfl)<|nq (kj rfl Tryz.underlying27 Tryz.underlying5 Tryz.underlying9 hr)<|nq (ai rfl)<|nq (kj rfl Tryz.underlying27 Tryz.underlying5 Tryz.underlying9 hr')<|nq (Az rfl rfl)<|nq (ay rfl)<|bX<|cE (ab (t:=4) rfl<|ab (t:=0) rfl<|ab (t:=1) rfl<|aZ)<|bk<|iW<| ?_
 refine iY trivial rfl rfl ⟨?_,rfl⟩
 simp only[cR]
end Go.Proofs.YtmibdabdlgmafaaGreatDoor
end
section
set_option maxRecDepth 20000
namespace Go.Proofs.YtmibdabdlgmafaaGreatDoor
open Go.Eng Go.Hx
theorem nS{A A1:Option Addr}{n c n1 c1:Nat}{l l1:List UInt8}:cf Tryz.prog 215 [.slice A n c,.slice A1 n1 c1] [] [cz 1 A n (aT l),cz 1 A1 n1 (aT l1)] (fun v_ X_ S_=>v_=(.bool (decide (l=l1)))∧X_=[]∧S_=[]):=by
 exact jn fun m=>Calls.mono (uD A n c l A1 n1 c1 l1 _ (m.rd 0 rfl) (m.rd 1 rfl)) (fun e w' ⟨h,hw⟩=>⟨_,h,⟨rfl,rfl,rfl⟩,hw▸Fr.refl _ _⟩)
theorem nh{A:Option Addr}{n c:Nat}{l:List UInt8}(hn:n≤140737488351232):cf Tryz.prog 117 [.slice A n c] [] [cz 1 A n (aT l)] (fun v_ X_ S_=>∃v,v_=v∧X_=[aI 5 1 v n (aT l)]∧S_=[]):=by
 exact lU fun m=>Calls.mono (clone A n c l _ (m.rd 0 rfl) hn) (fun e w' ⟨v,h,ho,hf⟩=>⟨v,v,_,_,_,_,h,⟨v,rfl,rfl,rfl⟩,ho,hf⟩)
end Go.Proofs.YtmibdabdlgmafaaGreatDoor
end
section
set_option maxRecDepth 20000
namespace Go.Proofs.YtmibdabdlgmafaaGreatDoor
open Go.Eng Go.Hx
def dF:bg:=cz 1 (some ⟨1,0,none⟩) 64 (dL fv)
theorem DQ{n:Nat}(h0:0<n)(hn:n<32):IntKind.u64.wrap (-(n:Int))=((18446744073709551616-n:Nat):Int):=by
 simp[IntKind.wrap,IntKind.signed,IntKind.bits]
 omega
theorem zj{n:Nat}(h0:0<n)(hn:n<32):bits .and .u64 ((18446744073709551616-n:Nat):Int) 31=((32-n:Nat):Int):=by
 have h:=u64_and_nat (18446744073709551616-n) 31 (by omega) (by decide)
 rw[show((31:Nat):Int)=31 from rfl]at h
 rw[h,show(31:Nat)=2 ^ 5-1 from rfl,Nat.and_two_pow_sub_one_eq_mod]
 congr 1
 show(18446744073709551616-n) % 32=32-n
 omega
theorem uR{x:UInt32}{n:Nat}(h0:0<n)(hn:n<32):cf Tryz.prog 296 [Wd x,.int .i64 (-(n:Int))] [] [] (fun v_ X_ S_=>v_=(Wd (ix n x))∧X_=[]∧S_=[]):=by
 refine aK (N:=17) Tryz.func296 rfl rfl (by simp) fun b=> ?_
 have hs:IntKind.u64.wrap (32-((32-n:Nat):Int))=(n:Int):=by
  rw[show(32:Int)-((32-n:Nat):Int)=(n:Int) by omega]
  simp[IntKind.wrap,IntKind.signed,IntKind.bits]
  omega
 refine ae<|ah<|aG rfl<|ag<|aa<|ae<|ah<|au rfl<|hy (fun _=>b8 rfl Tryz.underlying3 Tryz.underlying263 (DQ h0 hn))<|hy (fun _=>gJ (by simp) rfl rfl (zj h0 hn))<|aG rfl<|ag<|az [5,4,0,1] rfl<|aa<|ae<|ah<|au rfl<|au rfl<|hy (fun _=>(su (k:=32-n) (by omega) rfl rfl))<|au rfl<|au rfl<|hy (fun _=>ct rfl rfl hs)<|hy (fun _=>(uK (k:=n) hn rfl rfl))<|hy (fun _=>yV (AB rfl rfl) ((show Wd (UInt32.ofNat (x.toNat*2 ^ (32-n)) ||| UInt32.ofNat (x.toNat/2 ^ n))=Wd (ix n x) by rw[rX h0 hn])))<|aG rfl<|ag<|az [4,5,0,1] rfl<|aa<|aR<| ?_
 exact bc trivial rfl rfl [] rfl [] rfl ⟨rfl,rfl,rfl⟩
theorem vQ{x:UInt32}{n1 n2 n3:Nat}(h1:0<n1∧n1<32)(h2:0<n2∧n2<32)(h3:0<n3∧n3<32):cf Tryz.prog 269 [Wd x,.int .i64 (n1:Int),.int .i64 (n2:Int),.int .i64 (n3:Int)] [] [] (fun v_ X_ S_=>v_=(Wd (turns n1 n2 n3 x))∧X_=[]∧S_=[]):=by
 refine aK (N:=23) Tryz.func269 rfl rfl (by simp) fun b=> ?_
 refine ae<|ah<|aG rfl<|ag<|aa<|ae<|ah<|au rfl<|au rfl<|hy (fun _=>wX rfl (bE (by omega) (by omega)))<| ?_
 refine hx (an rfl Tryz.call296 (uR h1.1 h1.2 (n:=n1)) [] rfl [] rfl ?_)
 rintro _ _ _ ⟨rfl,rfl,rfl⟩
 refine au rfl<|au rfl<|hy (fun _=>wX rfl (bE (by omega) (by omega)))<| ?_
 refine hx (an rfl Tryz.call296 (uR h2.1 h2.2 (n:=n2)) [] rfl [] rfl ?_)
 rintro _ _ _ ⟨rfl,rfl,rfl⟩
 refine hy (fun _=>cW rfl rfl)<|au rfl<|au rfl<|hy (fun _=>wX rfl (bE (by omega) (by omega)))<| ?_
 refine hx (an rfl Tryz.call296 (uR h3.1 h3.2 (n:=n3)) [] rfl [] rfl ?_)
 rintro _ _ _ ⟨rfl,rfl,rfl⟩
 refine hy (fun _=>cW rfl rfl)<|aG rfl<|ag<|az [8,0,1,2,3] rfl<|aY rfl rfl<|aa<|aR<| ?_
 exact bc trivial rfl rfl [] rfl [] rfl ⟨rfl,rfl,rfl⟩
theorem mh{a:List UInt32}{i k n:Nat}(ha:a.length=i)(hk:k<i):(dL (a++List.replicate n 0))[k]? =some (Wd (a.getD k 0)):=by
 rw[bo (by simp;omega)]
 simp[List.getD,List.getElem?_append_left (show k<a.length by omega)]
theorem Bj{a r:List UInt32}{i:Nat}{x:UInt32}(ha:a.length=i):(dL (a++x::r))[i]? =some (Wd x):=by
 subst ha
 simp[dL]
theorem w7{a r:List UInt32}{i:Nat}{x y:UInt32}(ha:a.length=i):(dL (a++x::r)).set i (Wd y)=dL (a++y::r):=by
 subst ha
 simp[dL,List.set_append]
theorem wu{a r:List UInt32}{y:UInt32}:a++y::r=(a++[y])++r:=by simp
theorem E3{A:Option Addr}{c:Nat}{l:List UInt8}(hc:64≤c):cf Tryz.prog 268 [.slice A 64 c] [] [cz 1 A 64 (aT l)] (fun v_ X_ S_=>v_=(.agg (dL (wl l 64)).toArray)∧X_=[]∧S_=[]):=by
 refine aK (N:=75) Tryz.func268 rfl rfl (by simp) fun b=> ?_
 refine aQ (fun m=>ek (m.rd 0 rfl)) ?_
 rintro⟨hl_r,hA_r⟩
 have hl:l.length=64:=hl_r
 refine ae<|ah<| ?_
 refine hx (ba Ar (fun g2=> ?_))
 refine ag<|aY rfl rfl<|aa<|ae<|ah<| ?_
 refine hx (ba Ar (fun g3=> ?_))
 refine aH (fun w m=>m.bw 0 rfl (show _=aE g3 354 (dL (wl l 0++List.replicate (64-0) 0))from rfl)) ?_
 refine ag<|aY rfl rfl<|aa<|ae<|ae<|ah<|au rfl<|ag<|aa<|aM<| ?_
 refine dD (fun i=>64-i) (fun i=>[(9,.int .i64 (i:Nat))]) (fun i=>[aE g3 354 (dL (wl l i++List.replicate (64-i) 0))]) (fun i=>[]) (fun i=>i≤64) 0 [(3,_),(2,_),(0,_)] ⟨rfl,rfl,rfl,trivial⟩ [0] rfl [] rfl (Nat.zero_le _) ⟨rfl,trivial⟩ (fun i hI=> ?_)
 have hwl:=fo l i
 refine ae<|ah<|hy (fun _=>bx rfl rfl)<|ag<|aa<|ae<| ?_
 refine cu rfl (fun h=> ?_) (fun h=> ?_)
 ·have hr64:(List.replicate (64-i) (0:UInt32))=0::List.replicate (63-i) 0:=by rw[show 64-i=(63-i)+1 by omega,List.replicate_succ]
  have hr63:(64-(i+1))=63-i:=by omega
  refine aB<|aa<|ae<|aM<|ae<|ah<|au rfl<|aG rfl<|ag<|az [4,10,9,3,2,0] rfl<|aa<|ae<|ae<|ah<|au rfl<|hy (fun _=>bx rfl rfl)<|ag<|az [13,4,10,9,3,2,0] rfl<|aa<| ?_
  refine cu rfl (fun h16=> ?_) (fun h16=> ?_)
  ·have hws:wl l (i+1)=wl l i++[kC l (4*i)]:=by rw[wl,if_pos (by omega)]
   refine a8 (fun w m=>m.ew 0 rfl (View.sub (k:=4*i) (m:=4) hc (by omega))) ?_
   refine aQ (fun m=>ek (m.rd 0 rfl)) ?_
   rintro⟨hl_r4,hA_r4⟩
   refine ae<|ae<|ah<|au rfl<|au rfl<|hy (fun _=>gz rfl rfl (bE (by omega) (by omega)))<|au rfl<|hy (fun _=>gz rfl rfl (bE (by omega) (by omega)))<|hy (fun _=>aO rfl rfl (bE (by omega) (by omega)))<|hy (fun _=>yV (eA rfl rfl rfl Tryz.underlying27 dJ (show((4*i:Nat):Int)=_ by omega) (show((4*i+4:Nat):Int)=_ by omega) (by omega) (by omega)) ((show Value.slice (if c=4*i then A else A.map (·.add (4*i*1))) (4*i+4-4*i) (c-4*i)= .slice (if c=4*i then A else A.map (·.add (4*i*1))) 4 (c-4*i) by rw[Nat.add_sub_cancel_left])))<|hy (fun _=>a6 rfl Tryz.underlying27)<|au rfl<|ag<|az [22,21,20,13,4,10,9,3,2,0] rfl<|aa<|aM<| ?_
   refine a8 (fun w m=>m.bw 0 rfl (show _=aE g3 354 (dL (wl l i++UInt32.ofNat (wp l (4*i) 0)::List.replicate (63-i) 0))from by rw[hr64];rfl)) ?_
   refine dD (fun j=>4-j) (fun j=>[(22,.int .i64 (j:Nat))]) (fun j=>[aE g3 354 (dL (wl l i++UInt32.ofNat (wp l (4*i) j)::List.replicate (63-i) 0))]) (fun j=>[]) (fun j=>j≤4) 0 [(21,_),(20,_),(13,_),(4,_),(10,_),(9,_),(3,_),(2,_),(0,_)] ⟨rfl,rfl,rfl,rfl,rfl,rfl,rfl,rfl,rfl,trivial⟩ [0] rfl [] rfl (Nat.zero_le _) ⟨rfl,trivial⟩ (fun j hj4=> ?_)
   refine ae<|ah<|hy (fun _=>bx rfl rfl)<|ag<|aa<|ae<| ?_
   refine cu rfl (fun hj=> ?_) (fun hj=> ?_)
   ·have hgl:((l.drop (4*i)).take 4).getD j 0=l.getD (4*i+j) 0:=by
     simp[List.getD,List.getElem?_take,List.getElem?_drop,show j<4 by omega]
    refine aB<|aa<|ae<|aM<|ae<|ah<|hy (fun _=>aS rfl rfl Tryz.underlying27 dJ hA_r4 rfl (by omega))<|hy (fun m=>ak rfl iV ((m.rd 0 rfl).cell (bO (by omega))))<|aG rfl<|ag<|az [6,23,22,21,20,13,4,10,9,3,2,0] rfl<|aa<|ah<|au rfl<|au rfl<|hy (fun _=>bS rfl rfl Tryz.underlying354 bB rfl (by omega))<|hy (fun m=>ak rfl bM ((m.aN 0 rfl).aw i _ (Bj hwl)))<|hy (fun _=>rJ (k:=8) (b:=256) (by decide) rfl rfl rfl)<|au rfl<|hy (fun _=>yk rfl Tryz.underlying5 Tryz.underlying166)<|hy (fun _=>yV (AB rfl rfl) ((show Wd ((UInt32.ofNat (wp l (4*i) j)*256) ||| (((l.drop (4*i)).take 4).getD j 0).toUInt32)=Wd (UInt32.ofNat (wp l (4*i) (j+1))) by rw[hgl,Ba (by omega)])))<|hy (fun _=>bS rfl rfl Tryz.underlying354 bB rfl (by omega))<| ?_
    refine cF (bZ 0 rfl rfl rfl bB rfl (by rw[aX];simp only[List.length_append,List.length_cons,List.length_replicate,hwl];omega) ?_)
    refine ag<|az [6,23,22,21,20,13,4,10,9,3,2,0] rfl<|aY rfl rfl<|aW<|aa<|ah<|hy (fun _=>aO rfl rfl (bE (by omega) (by omega)))<|au rfl<|ag<|az [22,6,23,21,20,13,4,10,9,3,2,0] rfl<| ?_
    refine bd (fun w m=>m.bw 0 rfl (show _=aE g3 354 (dL (wl l i++UInt32.ofNat (wp l (4*i) (j+1))::List.replicate (63-i) 0))from by rw[Nat.zero_add,w7 hwl])) ?_
    refine cH (j+1) ⟨rfl,rfl,rfl,rfl,rfl,rfl,rfl,rfl,rfl,rfl,trivial⟩ [0,0] rfl [0,1] rfl (by omega) (by omega)
   ·obtain rfl:j=4:=by omega
    refine bH<|al<|al<|aD<|aa<|bH<|al<|aD<|aa<|ah<|hy (fun _=>aO rfl rfl (bE (by omega) (by omega)))<|au rfl<|ag<|az [9,23,22,21,20,13,4,10,3,2,0] rfl<| ?_
    refine bd (fun w m=>m.bw 0 rfl (show _=aE g3 354 (dL (wl l (i+1)++List.replicate (64-(i+1)) 0))from by rw[CJ,wu,hws,hr63])) ?_
    refine cH (i+1) ⟨rfl,rfl,rfl,rfl,trivial⟩ [0,0] rfl [1] rfl (by omega) (by omega)
  ·have hws:wl l (i+1)=wl l i++[lV (wl l i) i]:=by rw[wl,if_neg (by omega)]
   refine aB<|aa<|ae<|cA [] [(0,some 0),(1,some 0),(2,some 0),(3,some 0),(4,some 0),(5,some 0),(6,some 0),(7,some 0),(8,some 0),(9,some 0)] (by kernel_rfl) (by kernel_rfl) rfl 99<|aj (ai rfl)<|aj (ct rfl rfl (bE (by omega) (by omega)))<|aj (bS rfl rfl Tryz.underlying354 bB (show((i-15:Nat):Int)=_ by omega) (by omega))<|bV (fun m=>ak rfl bM ((m.aN 0 rfl).aw (i-15) _ (mh hwl (by omega))))<|aj (ai rfl)<|aj (ct rfl rfl (bE (by omega) (by omega)))<|aj (bS rfl rfl Tryz.underlying354 bB (show((i-2:Nat):Int)=_ by omega) (by omega))<|bV (fun m=>ak rfl bM ((m.aN 0 rfl).aw (i-2) _ (mh hwl (by omega))))<|aj (ay rfl)<|aj (ay rfl)<|bp<|az [8,7,13,4,10,9,3,2,0] rfl<|aa<|cA [6,8,20,22,29] [(0,some 4),(1,some 4),(2,some 4),(3,some 4),(4,some 4),(5,some 0),(7,some 1),(10,some 4),(11,some 4),(14,some 4),(15,some 4),(16,some 4),(17,some 4),(19,some 2),(21,some 3),(24,some 4),(25,some 4),(6,none),(8,none),(9,some 4),(12,some 4),(13,some 4),(18,some 4),(20,none),(22,none),(23,some 4),(26,some 4),(27,some 4),(28,some 4),(29,none)] (by kernel_rfl) (by kernel_rfl) rfl 4<|aj (ai rfl)<|aj (ai rfl)<|aj (ct rfl rfl (bE (by omega) (by omega)))<|aj (bS rfl rfl Tryz.underlying354 bB (show((i-16:Nat):Int)=_ by omega) (by omega))<|bV (fun m=>ak rfl bM ((m.aN 0 rfl).aw (i-16) _ (mh hwl (by omega))))<|aj (ai rfl)<|aj (ai rfl)<|aj (ai rfl)<|aj (kG (k:=3) (b:=8) (by decide) rfl rfl rfl)<|aj (ai rfl)<|aj (ct rfl rfl (bE (by omega) (by omega)))<|aj (bS rfl rfl Tryz.underlying354 bB (show((i-7:Nat):Int)=_ by omega) (by omega))<|bV (fun m=>ak rfl bM ((m.aN 0 rfl).aw (i-7) _ (mh hwl (by omega))))<|aj (ai rfl)<|aj (ai rfl)<|aj (ai rfl)<|aj (kG (k:=10) (b:=1024) (by decide) rfl rfl rfl)<| ?_
   refine dk (an rfl Tryz.call296 (uR (by decide) (by decide) (n:=7)) [] rfl [] rfl ?_)
   rintro _ _ _ ⟨rfl,rfl,rfl⟩
   refine⟨(fun _=>wk [0,0] [0] rfl rfl), ?_⟩
   refine dk (an rfl Tryz.call296 (uR (by decide) (by decide) (n:=18)) [] rfl [] rfl ?_)
   rintro _ _ _ ⟨rfl,rfl,rfl⟩
   refine⟨(fun _=>wk [0,0] [0] rfl rfl), ?_⟩
   refine aj (cW rfl rfl)<|aj (cW rfl rfl)<|aj (c9 rfl rfl)<|aj (c9 rfl rfl)<| ?_
   refine dk (an rfl Tryz.call296 (uR (by decide) (by decide) (n:=17)) [] rfl [] rfl ?_)
   rintro _ _ _ ⟨rfl,rfl,rfl⟩
   refine⟨(fun _=>wk [0,0] [0] rfl rfl), ?_⟩
   refine dk (an rfl Tryz.call296 (uR (by decide) (by decide) (n:=19)) [] rfl [] rfl ?_)
   rintro _ _ _ ⟨rfl,rfl,rfl⟩
   refine⟨(fun _=>wk [0,0] [0] rfl rfl), ?_⟩
   refine aj (cW rfl rfl)<|aj (cW rfl rfl)<|aj (yV (c9 rfl rfl) ((rfl:_=Wd (lV (wl l i) i))))<|aj (bS rfl rfl Tryz.underlying354 bB rfl (by omega))<| ?_
   refine gi (bZ 0 rfl rfl rfl bB rfl (by rw[aX];simp only[List.length_append,List.length_replicate,hwl];omega) ⟨(fun h=>absurd h (by decide)), ?_⟩)
   refine bp<|az [8,7,13,4,10,9,3,2,0] rfl<|aY rfl rfl<|aW<|aa<|ah<|hy (fun _=>aO rfl rfl (bE (by omega) (by omega)))<|au rfl<|ag<|az [9,8,7,13,4,10,3,2,0] rfl<| ?_
   refine bd (fun w m=>m.bw 0 rfl (show _=aE g3 354 (dL (wl l (i+1)++List.replicate (64-(i+1)) 0))from by rw[Nat.zero_add,hr64,w7 hwl,wu,hws,hr63])) ?_
   refine cH (i+1) ⟨rfl,rfl,rfl,rfl,trivial⟩ [0,0] rfl [0] rfl (by omega) (by omega)
 ·obtain rfl:i=64:=by omega
  refine a8 (fun w m=>m.bw 0 rfl (show _=aE g3 354 (dL (wl l 64))from by rw[Nat.sub_self];simp)) ?_
  refine bH<|al<|al<|aD<|aa<|ae<|ah<|hy (fun m=>yV (aP rfl C5 wh (by rw[aX,fo]) ((m.aN 0 rfl).aw)) ((rfl:_=Value.agg (dL (wl l 64)).toArray)))<| ?_
  refine cF (a7 1 rfl rfl rfl wh (by rw[aX,fo]) gy rfl ?_)
  refine ag<|az [10,9,3,2,0] rfl<|aY rfl rfl<|aa<|aR<| ?_
  exact eZ trivial rfl rfl C5 wh (by rw[aX,fo]) (fun m=>(m.aN 0 rfl).aw) [] rfl [] rfl ⟨rfl,rfl,rfl⟩
theorem tJ(v h:List UInt32)(i:Nat):(fL v h i).length=v.length:=by simp[fL]
theorem H5{A:Option Addr}{c:Nat}{l:List UInt8}{h:List UInt32}(hc:64≤c)(hh:h.length=8):cf Tryz.prog 227 [.agg (dL h).toArray,.slice A 64 c] [] [cz 1 A 64 (aT l),dF] (fun v_ X_ S_=>v_=(.agg (dL (ea h l)).toArray)∧X_=[]∧S_=[]):=by
 refine aK (N:=99) Tryz.func227 rfl rfl (by simp) fun b=> ?_
 refine aQ (fun m=>ek (m.rd 0 rfl)) ?_
 rintro⟨hl_r,hA_r⟩
 refine ae<|ah<| ?_
 refine hx (br rfl (fun g2=> ?_))
 refine aH (fun w m=>m.bw 0 rfl (show _=aE g2 306 (dL h)from congrArg (aE _ _) (aV _))) ?_
 refine hx (ba wB (fun g4=> ?_))
 refine ag<|aY rfl rfl<|aa<|ae<|ah<|au rfl<| ?_
 refine hx (an rfl Tryz.call268 (E3 (by omega)) [] rfl [0] rfl ?_)
 rintro _ _ _ ⟨rfl,rfl,rfl⟩
 obtain⟨W,hW⟩:∃W,wl l 64=W:=⟨_,rfl⟩
 have hw64:W.length=64:=by rw[←hW];exact fo l 64
 rw[hW]
 refine hx (ba Ar (fun g5=> ?_))
 refine cF (a7 0 rfl rfl rfl wh (by rw[aX,hw64]) gy rfl ?_)
 refine ag<|az [5,4,2,0,1] rfl<|aY rfl rfl<|aa<|ae<|ah<|hy (fun m=>yV (aP rfl qv lr (by rw[aX,hh]) ((m.aN 2 rfl).aw)) ((rfl:_=Value.agg (dL h).toArray)))<| ?_
 refine hx (ba wB (fun g6=> ?_))
 refine cF (a7 0 rfl rfl rfl lr (by rw[aX,hh]) gy rfl ?_)
 refine ag<|az [6,5,4,2,0,1] rfl<|aY rfl rfl<|aa<|ae<|ae<|ah<|au rfl<|ag<|aa<|aM<| ?_
 refine dD (fun i=>64-i) (fun i=>[(16,.int .i64 (i:Nat))]) (fun i=>[aE g6 306 (dL (kn W h i))]) (fun i=>[]) (fun i=>i≤64) 0 [(6,_),(5,_),(4,_),(2,_),(0,_),(1,_)] ⟨rfl,rfl,rfl,rfl,rfl,rfl,trivial⟩ [0] rfl [] rfl (Nat.zero_le _) ⟨rfl,trivial⟩ (fun i hI=> ?_)
 have hv:=kh (w:=W) hh i
 have hro:fv.length=64:=rfl
 refine ae<|ah<|hy (fun _=>bx rfl rfl)<|ag<|aa<|ae<| ?_
 refine cu rfl (fun hlt=> ?_) (fun hlt=> ?_)
 ·generalize hvd:kn W h i=v at hv ⊢
  refine aB<|aa<|ae<|aM<|ae<|ah<|au rfl<|aG rfl<|ag<|az [7,17,16,6,5,4,2,0,1] rfl<|aa<|ae<|cA [] [(0,some 0),(1,some 0),(2,some 0),(3,some 0),(4,some 0),(5,some 0)] (by kernel_rfl) (by kernel_rfl) rfl 99<|aj (bS rfl rfl Tryz.underlying306 bB (show((4:Nat):Int)=4 from rfl) (by omega))<|bV (fun m=>ak rfl bM ((m.aN 0 rfl).aw 4 _ (bo (by omega))))<|aj (bS rfl rfl Tryz.underlying306 bB (show((0:Nat):Int)=0 from rfl) (by omega))<|bV (fun m=>ak rfl bM ((m.aN 0 rfl).aw 0 _ (bo (by omega))))<|aj (ay rfl)<|aj (ay rfl)<|bp<|az [9,8,7,17,16,6,5,4,2,0,1] rfl<|aa<|ae<|cA [3] [(0,some 1),(1,some 1),(2,some 0),(5,some 1),(6,some 1),(7,some 1),(8,some 1),(9,some 1),(10,some 1),(11,some 1),(12,some 1),(13,some 1),(14,some 1),(16,some 1),(17,some 1),(18,some 1),(20,some 1),(21,some 1),(22,some 1),(3,none),(4,some 1),(15,some 1),(19,some 1),(23,some 1),(24,some 1)] (by kernel_rfl) (by kernel_rfl) rfl 99<|aj (bS rfl rfl Tryz.underlying306 bB (show((7:Nat):Int)=7 from rfl) (by omega))<|bV (fun m=>ak rfl bM ((m.aN 0 rfl).aw 7 _ (bo (by omega))))<|aj (ai rfl)<|aj (ai rfl)<|aj (bS rfl rfl Tryz.underlying306 bB (show((5:Nat):Int)=5 from rfl) (by omega))<|bV (fun m=>ak rfl bM ((m.aN 0 rfl).aw 5 _ (bo (by omega))))<|aj (iw rfl rfl)<|aj (ai rfl)<|aj (EL rfl)<|aj (bS rfl rfl Tryz.underlying306 bB (show((6:Nat):Int)=6 from rfl) (by omega))<|bV (fun m=>ak rfl bM ((m.aN 0 rfl).aw 6 _ (bo (by omega))))<|aj (iw rfl rfl)<|aj (cW rfl rfl)<|aj (ai rfl)<|aj (bS rfl rfl Tryz.underlying354 bB rfl (by omega))<|bV (fun m=>ak rfl bM ((show Rd _ 1 _ 64 (dL fv)from m.Ec 1 rfl).cell (j:=i) (bo (by omega))))<|aj (ai rfl)<|aj (bS rfl rfl Tryz.underlying354 bB rfl (by omega))<|bV (fun m=>ak rfl bM ((m.aN 1 rfl).aw i _ (bo (by omega))))<| ?_
  refine dk (an rfl Tryz.call269 (vQ (by decide) (by decide) (by decide) (n1:=6) (n2:=11) (n3:=25)) [] rfl [] rfl ?_)
  rintro _ _ _ ⟨rfl,rfl,rfl⟩
  refine⟨(fun _=>wk [0,0,0,0] [0,1] rfl rfl), ?_⟩
  refine aj (c9 rfl rfl)<|aj (c9 rfl rfl)<|aj (c9 rfl rfl)<| ?_
  generalize hk:fv.getD i 0=k
  refine aj (yV (c9 rfl rfl) ((rfl:_=Wd (rt v k (W.getD i 0)))))<|aj (ay rfl)<|bp<|az [10,9,8,7,17,16,6,5,4,2,0,1] rfl<|aY rfl rfl<|aa<|ae<|cA [1] [(0,some 0),(2,some 1),(3,some 1),(4,some 1),(5,some 1),(6,some 1),(7,some 1),(8,some 1),(9,some 1),(10,some 1),(11,some 1),(12,some 1),(13,some 1),(14,some 1),(15,some 1),(16,some 1),(1,none),(17,some 1),(18,some 1)] (by kernel_rfl) (by kernel_rfl) rfl 99<|aj (ai rfl)<|aj (ai rfl)<|aj (bS rfl rfl Tryz.underlying306 bB (show((1:Nat):Int)=1 from rfl) (by omega))<|bV (fun m=>ak rfl bM ((m.aN 0 rfl).aw 1 _ (bo (by omega))))<|aj (iw rfl rfl)<|aj (ai rfl)<|aj (bS rfl rfl Tryz.underlying306 bB (show((2:Nat):Int)=2 from rfl) (by omega))<|bV (fun m=>ak rfl bM ((m.aN 0 rfl).aw 2 _ (bo (by omega))))<|aj (iw rfl rfl)<|aj (cW rfl rfl)<|aj (bS rfl rfl Tryz.underlying306 bB (show((1:Nat):Int)=1 from rfl) (by omega))<|bV (fun m=>ak rfl bM ((m.aN 0 rfl).aw 1 _ (bo (by omega))))<|aj (bS rfl rfl Tryz.underlying306 bB (show((2:Nat):Int)=2 from rfl) (by omega))<|bV (fun m=>ak rfl bM ((m.aN 0 rfl).aw 2 _ (bo (by omega))))<|aj (iw rfl rfl)<|aj (cW rfl rfl)<| ?_
  refine dk (an rfl Tryz.call269 (vQ (by decide) (by decide) (by decide) (n1:=2) (n2:=13) (n3:=22)) [] rfl [] rfl ?_)
  rintro _ _ _ ⟨rfl,rfl,rfl⟩
  refine⟨(fun _=>wk [0,0,0,0] [0,1] rfl rfl), ?_⟩
  refine aj (yV (c9 rfl rfl) ((rfl:_=Wd (ru v))))<|aj (ay rfl)<|bp<|az [11,10,9,8,7,17,16,6,5,4,2,0,1] rfl<|aY rfl rfl<|aa<|ah<|au rfl<|au rfl<|hy (fun _=>c9 rfl rfl)<|hy (fun _=>bS rfl rfl Tryz.underlying306 bB (show((0:Nat):Int)=0 from rfl) (by omega))<|hy (fun m=>ak rfl bM ((m.aN 0 rfl).aw 0 _ (bo (by omega))))<|hy (fun _=>bS rfl rfl Tryz.underlying306 bB (show((1:Nat):Int)=1 from rfl) (by omega))<|hy (fun m=>ak rfl bM ((m.aN 0 rfl).aw 1 _ (bo (by omega))))<|hy (fun _=>bS rfl rfl Tryz.underlying306 bB (show((2:Nat):Int)=2 from rfl) (by omega))<|hy (fun m=>ak rfl bM ((m.aN 0 rfl).aw 2 _ (bo (by omega))))<|hy (fun _=>bS rfl rfl Tryz.underlying306 bB (show((3:Nat):Int)=3 from rfl) (by omega))<|hy (fun m=>ak rfl bM ((m.aN 0 rfl).aw 3 _ (bo (by omega))))<|au rfl<|hy (fun _=>c9 rfl rfl)<|hy (fun _=>bS rfl rfl Tryz.underlying306 bB (show((4:Nat):Int)=4 from rfl) (by omega))<|hy (fun m=>ak rfl bM ((m.aN 0 rfl).aw 4 _ (bo (by omega))))<|hy (fun _=>bS rfl rfl Tryz.underlying306 bB (show((5:Nat):Int)=5 from rfl) (by omega))<|hy (fun m=>ak rfl bM ((m.aN 0 rfl).aw 5 _ (bo (by omega))))<|hy (fun _=>bS rfl rfl Tryz.underlying306 bB (show((6:Nat):Int)=6 from rfl) (by omega))<|hy (fun m=>ak rfl bM ((m.aN 0 rfl).aw 6 _ (bo (by omega))))<|hy (fun _=>yV (sU (n:=8) wB (by kernel_rfl) rfl (by kernel_rfl) rfl (by kernel_rfl) (by kernel_rfl) (qM (l:=[_,_,_,_,_,_,_,_]))) ((rfl:_=Value.agg (dL (Hh v k (W.getD i 0))).toArray)))<| ?_
  refine cF (a7 0 rfl rfl rfl lr rfl gy (by rw[aX,hv]) ?_)
  refine ag<|az [11,10,9,8,7,17,16,6,5,4,2,0,1] rfl<|aY rfl rfl<|aW<|aa<|ah<|hy (fun _=>aO rfl rfl (bE (by omega) (by omega)))<|au rfl<|ag<|az [16,11,10,9,8,7,17,6,5,4,2,0,1] rfl<| ?_
  refine bd (fun w m=>m.bw 0 rfl (show _=aE g6 306 (dL (kn W h (i+1)))from by rw[←hvd,←hk];rfl)) ?_
  refine cH (i+1) ⟨rfl,rfl,rfl,rfl,rfl,rfl,rfl,trivial⟩ [0,0,0,0] rfl [0,1] rfl (by omega) (by omega)
 ·obtain rfl:i=64:=by omega
  generalize hvv:kn W h 64=v at hv ⊢
  refine a8 (fun w m=>m.bw 0 rfl (show _=aE g6 306 (dL (fL v h 0))from by rw[qV])) ?_
  refine bH<|al<|al<|aD<|aa<|ae<|ae<|ah<|au rfl<|ag<|aa<|aM<| ?_
  refine dD (fun j=>8-j) (fun j=>[(86,.int .i64 (j:Nat))]) (fun j=>[aE g6 306 (dL (fL v h j))]) (fun j=>[]) (fun j=>j≤8) 0 [(17,_),(16,_),(6,_),(5,_),(4,_),(2,_),(0,_),(1,_)] ⟨rfl,rfl,rfl,rfl,rfl,rfl,rfl,rfl,trivial⟩ [0] rfl [] rfl (Nat.zero_le _) ⟨rfl,trivial⟩ (fun j hj8=> ?_)
  have hsl:=tJ v h j
  refine ae<|ah<|hy (fun _=>bx rfl rfl)<|ag<|aa<|ae<| ?_
  refine cu rfl (fun hj=> ?_) (fun hj=> ?_)
  ·refine aB<|aa<|ae<|aM<|ae<|ah<|au rfl<|aG rfl<|ag<|az [12,87,86,17,16,6,5,4,2,0,1] rfl<|aa<|cA [8] [(0,some 0),(1,some 0),(2,some 0),(3,some 0),(4,some 0),(5,some 0),(6,some 0),(7,some 0),(8,none)] (by kernel_rfl) (by kernel_rfl) rfl 0<|aj (ai rfl)<|aj (bS rfl rfl Tryz.underlying306 bB rfl (by omega))<|bV (fun m=>ak rfl bM ((m.aN 0 rfl).aw j _ (bo (by omega))))<|aj (ai rfl)<|aj (bS rfl rfl Tryz.underlying306 bB rfl (by omega))<|bV (fun m=>ak rfl bM ((m.aN 3 rfl).aw j _ (bo (by omega))))<|aj (yV (c9 rfl rfl) ((rfl:_=Wd (v_ (fL v h j) j+v_ h j))))<|aj (bS rfl rfl Tryz.underlying306 bB rfl (by omega))<| ?_
   refine gi (bZ 0 rfl rfl rfl bB rfl (by rw[aX];omega) ⟨(fun h=>absurd h (by decide)), ?_⟩)
   refine bp<|az [12,87,86,17,16,6,5,4,2,0,1] rfl<|aY rfl rfl<|aW<|aa<|ah<|hy (fun _=>aO rfl rfl (bE (by omega) (by omega)))<|au rfl<|ag<|az [86,12,87,17,16,6,5,4,2,0,1] rfl<| ?_
   refine bd (fun w m=>m.bw 0 rfl (show _=aE g6 306 (dL (fL v h (j+1)))from by rw[Nat.zero_add,rS,qK (by omega)])) ?_
   refine cH (j+1) ⟨rfl,rfl,rfl,rfl,rfl,rfl,rfl,rfl,rfl,trivial⟩ [0,0,0,0] rfl [0,1] rfl (by omega) (by omega)
  ·obtain rfl:j=8:=by omega
   have hB:fL v h 8=ea h l:=by rw[ea,hW,hvv]
   rw[hB]
   have hbl:=iS hh l
   refine bH<|al<|al<|aD<|aa<|ae<|ah<|hy (fun m=>yV (aP rfl qv lr (by rw[aX,hbl]) ((m.aN 0 rfl).aw)) ((rfl:_=Value.agg (dL (ea h l)).toArray)))<| ?_
   refine cF (a7 2 rfl rfl rfl lr (by rw[aX,hbl]) gy rfl ?_)
   refine ag<|az [87,86,17,16,6,5,4,2,0,1] rfl<|aY rfl rfl<|aa<|aR<| ?_
   exact eZ trivial rfl rfl qv lr (by rw[aX,hbl]) (fun m=>(m.aN 0 rfl).aw) [] rfl [] rfl ⟨rfl,rfl,rfl⟩
end Go.Proofs.YtmibdabdlgmafaaGreatDoor
end
section
set_option maxRecDepth 100000
namespace Go.Proofs.YtmibdabdlgmafaaGreatDoor
open Go.Eng Go.Hx Go.ChangeShapes Go.WideShapes Go.ChangeAt Go.WideMaps Go.WideElems Go.RowKit
theorem Ej : Tryz.prog.globalNamed "lighterage/sha.roots" = some 1 := by kernel_rfl
theorem DG:(Tryz.prog.globals[1]?).map (·.type)=some 354:=by kernel_rfl
theorem uW:(Rows.laid_lighterage_sha_roots:DataW Unit)= .agg (fv.map fun x=>.lit (.int .u32 (x.toNat:Int))):=by kernel_rfl
theorem zO (os : Os) (args : Array Value) : laidMetH Tryz.prog [("lighterage/sha.roots", Rows.laid_lighterage_sha_roots)] ((World.doorLaid Tryz.prog 400 os).forCall (fun _ _ => 0) ⟨#[], args, []⟩).memory :=
  laidMetH_of_parts3 (fuel:=8) (laidMet_of_run' 8 (by kernel_rfl) (by kernel_rfl)) (by kernel_rfl) (by kernel_rfl)
theorem qm {W : World} (h : laidMetH Tryz.prog [("lighterage/sha.roots", Rows.laid_lighterage_sha_roots)] W) : dF.holds W := by
  rw[MakeChecks.laidMetH_plain _ _ _ (by kernel_rfl)]at h
  obtain⟨ps,⟨g0,t0,cs0,f0,p0,q0,hg0,ht0,hv0,hd0,_,_⟩,_,_⟩:=h
  obtain rfl:=Option.some.inj (Ej.symm.trans hg0)
  obtain rfl:=Option.some.inj (DG.symm.trans ht0)
  rw[uW]at hd0
  obtain⟨xs,m1,rfl,hx1,hlen,hn,hel⟩:=DataW.trod_array Tryz.underlying354 hd0
  have c3:Tryz.prog.cellsOf 166=1:=by kernel_rfl
  simp only[Prod.mk.injEq,DataW.agg.injEq]at hx1
  refine⟨by rw[aX];rfl,fun _=>by simp,fun j u hu=> ?_⟩
  have hj:j<64:=by
    obtain⟨h1,_⟩:=List.getElem?_eq_some_iff.1 hu
    rw[aX]at h1
    exact h1
  have h0:=hel j hj
  have hxj:(xs.map (·.1))[j]? =(fv.map fun x=>DataW.lit (Lit.int .u32 (x.toNat:Int)))[j]? :=by rw[←hx1.1]
  obtain⟨y,hy⟩:∃y,xs[j]? =some y:=⟨_,List.getElem?_eq_getElem (by omega)⟩
  rw[hy]at h0
  obtain⟨n,e1,e2,_⟩:=DataW.trod_int Tryz.underlying166 h0
  rw[List.getElem?_map,hy,List.getElem?_map]at hxj
  rw[dL,List.getElem?_map]at hu
  cases hr:fv[j]? with
  |none=>rw[hr]at hu;cases hu
  |some r=>
    rw[hr]at hu hxj
    rw[e2]at hxj
    have hn2:n=(r.toNat:Int):=by simpa using hxj
    have hu2:u= .int .u32 (r.toNat:Int):=by simpa using hu.symm
    have h5:=World.var?_cell hg0 hv0 j
    rw[c3,Nat.mul_one]at e1
    have h6:cs0[j]? =some (.int .u32 n):=by
      have h7:(List.take 1 (List.drop j cs0.toList))[0]? =some (.int .u32 n):=by rw[e1];rfl
      rw[List.getElem?_take,if_pos (by decide),List.getElem?_drop,Nat.add_zero]at h7
      simpa using h7
    show W.cell? ((Option.getD (some _) d0).add j)=some u
    rw[hu2,←hn2,←h6,←h5]
    have e:(⟨1,0,none⟩:Addr).add j=⟨1,j,none⟩:=by simp[Addr.add];omega
    exact congrArg W.cell? e
end Go.Proofs.YtmibdabdlgmafaaGreatDoor
end
section
set_option maxRecDepth 20000
namespace Go.Proofs.YtmibdabdlgmafaaGreatDoor
open Go.Eng Go.Hx
theorem ud{l:List UInt8}{c:UInt8}:cf Tryz.prog 267 [.string (strOf l),B8 c] [] [] (fun v_ X_ S_=>v_=(.int .i64 (Lib.indexByte l c))∧X_=[]∧S_=[]):=by
 refine aK (N:=8) Tryz.func267 rfl rfl (by simp) fun b=> ?_
 refine ae<|ah<|aG rfl<|ag<|aa<|ae<|ah<|au rfl<|au rfl<| ?_
 refine hx (pA (fun m=>C9 rfl Tryz.func295 (by kernel_rfl) (by kernel_rfl) (by kernel_rfl) (show _=some Extern.BytealgIndexByte.indexByte by kernel_rfl) (Lib.run_indexByteString _ _ _)) ?_)
 refine aG rfl<|ag<|az [4,0,1] rfl<|aa<|aR<| ?_
 exact bc trivial rfl rfl [] rfl [] rfl ⟨(by congr 2;simp),rfl,rfl⟩
theorem xi{l:List UInt8}{c:UInt8}:cf Tryz.prog 274 [.string (strOf l),.string (strOf [c])] [] [] (fun v_ X_ S_=>v_=(.int .i64 (Lib.indexByte l c))∧X_=[]∧S_=[]):=by
 refine aK (N:=143) Tryz.func274 rfl rfl (by simp) fun b=> ?_
 refine ae<|ah<|aG rfl<|ag<|aa<|ae<|ah<|au rfl<|hy (fun _=>yV (fa rfl Tryz.underlying9) ((rfl:_=Value.int .i64 1)))<|aG rfl<|ag<|az [5,4,0,1] rfl<|aa<|ae<|aM<|ae<|ah<|au rfl<|hy (fun _=>cD rfl rfl)<|au rfl<| ?_
 refine bQ (o:=_) rfl rfl rfl (fun _=>ai rfl)<|bQ (o:=_) rfl rfl rfl (fun _=>ai rfl)<|bQ (o:=_) rfl rfl rfl (fun _=>Az rfl rfl)<|hy (fun _=>bn rfl rfl)<|aG rfl<|ag<|az [16,5,4,0,1] rfl<|aa<| ?_
 refine cu rfl (fun h=> ?_) (fun h=> ?_)
 ·obtain rfl:=cR.1 h
  refine ae<|ah<|aG rfl<|ag<|aa<|aR<|aU<|aq<| ?_
  exact bc trivial rfl rfl [] rfl [] rfl ⟨(by simp[Lib.indexByte]),rfl,rfl⟩
 ·refine ae<|ah<|au rfl<|hy (fun _=>cD rfl rfl)<|aG rfl<|ag<|az [24,16,5,4,0,1] rfl<|aa<| ?_
  refine fx rfl (rfl) ?_
  refine ae<|ah<|au rfl<|au rfl<|hy (fun _=>yV (jl rfl rfl Tryz.underlying9 rfl (uh (by simp))) ((rfl:_=B8 c)))<| ?_
  refine hx (an rfl Tryz.call267 (ud) [] rfl [] rfl ?_)
  rintro _ _ _ ⟨rfl,rfl,rfl⟩
  refine aG rfl<|ag<|az [4,24,16,5,0,1] rfl<|aY rfl rfl<|aa<|aR<|aU<|aq<| ?_
  exact bc trivial rfl rfl [] rfl [] rfl ⟨rfl,rfl,rfl⟩
theorem p6{l:List UInt8}{c:UInt8}:cf Tryz.prog 233 [.string (strOf l),.string (strOf [c])] [] [] (fun v_ X_ S_=>v_=(.int .i64 (Lib.indexByte l c))∧X_=[]∧S_=[]):=by
 refine aK (N:=8) Tryz.func233 rfl rfl (by simp) fun b=> ?_
 refine ae<|ah<|aG rfl<|ag<|aa<|ae<|ah<|au rfl<|au rfl<| ?_
 refine hx (an rfl Tryz.call274 (xi) [] rfl [] rfl ?_)
 rintro _ _ _ ⟨rfl,rfl,rfl⟩
 refine aG rfl<|ag<|az [4,0,1] rfl<|aY rfl rfl<|aa<|aR<| ?_
 exact bc trivial rfl rfl [] rfl [] rfl ⟨rfl,rfl,rfl⟩
theorem uF{l:List UInt8}{c:UInt8}:cf Tryz.prog 184 [.string (strOf l),.string (strOf [c])] [] [] (fun v_ X_ S_=>v_=(.bool (decide (c∈l)))∧X_=[]∧S_=[]):=by
 refine aK (N:=9) Tryz.func184 rfl rfl (by simp) fun b=> ?_
 refine ae<|ah<|aG rfl<|ag<|aa<|ae<|ah<|au rfl<|au rfl<| ?_
 refine hx (an rfl Tryz.call233 (p6) [] rfl [] rfl ?_)
 rintro _ _ _ ⟨rfl,rfl,rfl⟩
 refine hy (fun _=>eO rfl rfl)<|aG rfl<|ag<|az [4,0,1] rfl<|aY rfl rfl<|aa<|aR<| ?_
 exact bc trivial rfl rfl [] rfl [] rfl ⟨(by congr 1;rw[←Lib.contains_iff_indexByte];simp),rfl,rfl⟩
def fQ(p:List UInt8):Prop:=p≠ []∧p.length≤96∧¬(0:UInt8)∈p
instance(p:List UInt8):Decidable (fQ p):=by unfold fQ;infer_instance
theorem vG(p:List UInt8):strOf p≠⟨#[]⟩↔p≠ []:=by
 rw[show(⟨#[]⟩:ByteArray)=strOf []from rfl]
 simp only[ne_eq,cR]
theorem yK{p:List UInt8}:cf Tryz.prog 115 [.string (strOf p)] [] [] (fun v_ X_ S_=>v_=(.bool (decide (fQ p)))∧X_=[]∧S_=[]):=by
 have hsz:=da p
 refine aK (N:=15) Tryz.func115 rfl rfl (by simp) fun b=> ?_
 refine ae<|ah<|aG rfl<|ag<|aa<|ae<|ah<|au rfl<|hy (fun _=>ma rfl rfl)<|au rfl<| ?_
 refine fH 5 rfl (fun h1=> ?_) (fun h1=> ?_)
 ·have h1' :=(vG p).1 h1
  refine bQ (o:=_) rfl rfl rfl (fun _=>ai rfl)<|bQ (o:=_) rfl rfl rfl (fun _=>fa rfl Tryz.underlying9)<|bQ (o:=_) rfl rfl rfl (fun _=>jo rfl rfl)<|hy (fun _=>bz rfl rfl)<|au rfl<| ?_
  refine fH 10 rfl (fun h2=> ?_) (fun h2=> ?_)
  ·have h2' :p.length≤96:=by omega
   refine bQ (o:=_) rfl rfl rfl (fun _=>ai rfl)<| ?_
   refine G6 (o:=_) rfl rfl rfl (an rfl Tryz.call184 (uF) [] rfl [] rfl ?_)
   rintro _ _ _ ⟨rfl,rfl,rfl⟩
   refine bQ (o:=_) rfl rfl rfl (fun _=>eu rfl)<|hy (fun _=>bz rfl rfl)<|aG rfl<|ag<|az [2,0] rfl<|aY rfl rfl<|aa<|aR<| ?_
   exact bc trivial rfl rfl [] rfl [] rfl ⟨(by congr 1;simp only[fQ];simp[h1',h2']),rfl,rfl⟩
  ·have h2' :¬p.length≤96:=by omega
   refine aJ rfl rfl rfl (by decide)<|aJ rfl rfl rfl (by decide)<|aJ rfl rfl rfl (by decide)<|hy (fun _=>bn rfl rfl)<|aG rfl<|ag<|az [2,0] rfl<|aa<|aR<| ?_
   exact bc trivial rfl rfl [] rfl [] rfl ⟨(by congr 1;simp only[fQ];simp[h2']),rfl,rfl⟩
 ·have h1' :¬p≠ []:=fun h=>h1 ((vG p).2 h)
  refine aJ rfl rfl rfl (by decide)<|aJ rfl rfl rfl (by decide)<|aJ rfl rfl rfl (by decide)<|hy (fun _=>bn rfl rfl)<|au rfl<| ?_
  refine aJ rfl rfl rfl (by decide)<|aJ rfl rfl rfl (by decide)<|aJ rfl rfl rfl (by decide)<|hy (fun _=>bn rfl rfl)<|aG rfl<|ag<|az [2,0] rfl<|aa<|aR<| ?_
  exact bc trivial rfl rfl [] rfl [] rfl ⟨(by congr 1;simp only[fQ];simp[h1']),rfl,rfl⟩
end Go.Proofs.YtmibdabdlgmafaaGreatDoor
end
section
set_option maxRecDepth 20000
namespace Go.Proofs.YtmibdabdlgmafaaGreatDoor
open Go.Eng Go.Hx
abbrev dH:=List (List UInt8×bh)
def eC(l:dH):List (List UInt8×Value):=l.map fun x=>(x.1,x.2.val)
def lH(l:dH):Nat:=(l.map fun x=>x.2.n).sum
theorem lY:∀(l:dH) (p:List UInt8),bF (eC l) p=(bF l p).map bh.val
 | [],p=>rfl
 |(k,r)::q,p=>by
  have:=lY q p
  simp only[eC,List.map_cons,bF]at this ⊢
  split <;> simp_all
theorem p9:∀(l:dH) (p:List UInt8) (r:bh),cC (eC l) p r.val=eC (cC l p r)
 | [],p,r=>rfl
 |(k,u)::q,p,r=>by
  have:=p9 q p r
  simp only[eC,List.map_cons,cC]at this ⊢
  split <;> simp_all
theorem tB:∀(l:dH) (p:List UInt8),e7 (eC l) p=eC (e7 l p)
 | [],p=>rfl
 |(k,u)::q,p=>by
  have:=tB q p
  simp only[eC,List.map_cons,e7]at this ⊢
  split <;> simp_all
theorem Cn{l:dH}{j:Nat}{p:List UInt8×Value}(h:(eC l)[j]? =some p):∃r,l[j]? =some (p.1,r)∧p.2=r.val:=by
 simp only[eC,List.getElem?_map]at h
 cases hl:l[j]? with
 |none=>rw[hl]at h;cases h
 |some x=>
  rw[hl]at h
  simp only[Option.map_some,Option.some.injEq]at h
  subst h
  exact⟨x.2,rfl,rfl⟩
theorem uG(l:dH)(j:Nat):(eC l).eraseIdx j=eC (l.eraseIdx j):=(map_eraseIdx _ l j).symm
theorem qt:∀{l:dH} {j:Nat} {x:List UInt8×bh},l[j]? =some x→lH (l.eraseIdx j)+x.2.n=lH l
 | [],j,x,h=>by simp at h
 |a::q,0,x,h=>by
  simp only[List.getElem?_cons_zero,Option.some.injEq]at h
  subst h
  simp[lH];omega
 |a::q,j+1,x,h=>by
  simp only[List.getElem?_cons_succ]at h
  have:=qt h
  simp only[lH,List.eraseIdx_cons_succ,List.map_cons,List.sum_cons]at this ⊢
  omega
inductive jh
 |written (p:List UInt8) (r:bh)
 |renamed (a b:List UInt8)
 |removed (p:List UInt8)
def jh.row:jh→Option bh
 | .written _ r=>some r
 |_=>none
def jh.val:jh→Value
 | .written p r=>.iface 189 (.agg [SV p,r.val].toArray)
 | .renamed a b=>.iface 257 (.agg [SV a,SV b].toArray)
 | .removed p=>.iface 237 (.agg [SV p].toArray)
structure cU where
 room:Int
 gs:Nat
 gl:Nat
 seen:dH
 dq:dH
 waits:List jh
 wA:Option Addr
 wc:Nat
 cy:Int
def rowsOf(st:cU):List bh:=st.seen.map (·.2)++st.dq.map (·.2)++st.waits.filterMap jh.row
def lJ(st:cU):List Value:=[.int .i64 st.room,.map (some st.gs),.map (some st.gl),.slice st.wA st.waits.length st.wc,.int .i64 st.cy]
abbrev bG(g:Nat)(st:cU):bg:=eD [aE g 177 (lJ st),dC SV st.gs (eC st.seen),dC SV st.gl (eC st.dq),aI 232 1 (.slice st.wA st.waits.length st.wc) st.waits.length (st.waits.map jh.val),dI (rowsOf st)]
def lQ(n:Int)(gs gl:Nat):cU:=⟨n,gs,gl,[],[],[],none,0,-1⟩
theorem Hb{n:Int}(h1:1≤n)(h2:n≤1048576):cf Tryz.prog 24 [.int .i64 n] [] [] (fun v_ X_ S_=>∃g gs gl,v_=(.tuple #[.pointer (some ⟨g,0,none⟩),.int .i64 0])∧X_=[bG g (lQ n gs gl)]∧S_=[]):=by
 refine aK (N:=15) Tryz.func24 rfl rfl (by simp) fun b=> ?_
 refine ae<|ah<|aG rfl<|aG rfl<|ag<|aa<|ae<|ae<|ah<|au rfl<|hy (fun _=>bx rfl rfl)<|au rfl<| ?_
 refine fH 6 rfl (fun h=> ?_) (fun h=> ?_)
 ·exact absurd h (by omega)
 ·refine bQ (o:=_) rfl rfl rfl (fun _=>ai rfl)<|bQ (o:=_) rfl rfl rfl (fun _=>cw rfl rfl)<|hy (fun _=>bn rfl rfl)<|ag<|az [9,3,2,0] rfl<|aa<| ?_
  refine dm rfl (decide_eq_false (by omega)) ?_
  refine aB<|aa<|ae<|ah<|au rfl<| ?_
  refine hx (mH SV (fun g11=> ?_))
  refine hx (mH SV (fun g12=> ?_))
  refine hy (fun _=>yV (b6 GM rfl rfl (by kernel_rfl) (.cons (o:=0) (sz:=1) (by kernel_rfl) rfl rfl (Nat.le_of_ble_eq_true rfl) (.cons (o:=1) (sz:=1) (by kernel_rfl) rfl rfl (Nat.le_of_ble_eq_true rfl) (.cons (o:=2) (sz:=1) (by kernel_rfl) rfl rfl (Nat.le_of_ble_eq_true rfl) (.cons (o:=4) (sz:=1) (by kernel_rfl) rfl rfl (Nat.le_of_ble_eq_true rfl) .nil))))) ((rfl:_=Value.agg (lJ (lQ n g11 g12)).toArray)))<| ?_
  refine hx (br rfl (fun g14=> ?_))
  refine aG rfl<|aG rfl<|ag<|az [3,2,9,0] rfl<|aY rfl rfl<|aa<|aR<| ?_
  refine bd (fun w m=>m.cL (r' :=aI 232 1 (.slice none 0 0) 0 []) (.refl _ _) (Own.nil _ _ _ _) (fun k hk=>hk.elim)) ?_
  refine bd (fun w m=>m.yD) ?_
  refine bd (X' :=bG g14 (lQ n g11 g12)::_) (fun w m=>(m.perm (ao [2,3,2,1,0] _ [_,_,_,_,_] _ rfl)).pack) ?_
  exact cQ trivial rfl rfl rfl [0] rfl [] rfl ⟨_,_,_,rfl,rfl,rfl⟩
theorem Hq{g:Nat}{st:cU}:cf Tryz.prog 87 [.pointer (some ⟨g,0,none⟩)] [bG g st] [] (fun v_ X_ S_=>v_=(.bool (decide (st.cy≠0)))∧X_=[bG g st]∧S_=[]):=by
 refine aK (N:=8) Tryz.func87 rfl rfl (by simp) fun b=> ?_
 refine a8 (fun w m=>(m.perm (ao [0] _ [_] _ rfl)).unpack) ?_
 refine ae<|ah<|aG rfl<|ag<|aa<|ae<|ah<|au rfl<|hy (fun _=>aL rfl)<|hy (fun _=>ax rfl oY (by decide))<|hy (fun m=>ak rfl cY (ar (m.aN 0 rfl) rfl))<|hy (fun _=>de rfl rfl)<|aG rfl<|ag<|az [2,0] rfl<|aa<|aR<| ?_
 refine bd (X' :=bG g st::_) (fun w m=>(m.perm (ao [0,0,0,0,0] _ [_,_,_,_,_] _ rfl)).pack) ?_
 exact bc trivial rfl rfl [0] rfl [] rfl ⟨rfl,rfl,rfl⟩
def cU.fp(st:cU):cU:={st with cy:=if 0<st.cy then st.cy-1 else st.cy}
theorem ux{g:Nat}{st:cU}(hp:st.cy≤1000000000000):cf Tryz.prog 181 [.pointer (some ⟨g,0,none⟩)] [bG g st] [] (fun v_ X_ S_=>v_=(.tuple #[])∧X_=[bG g st.fp]∧S_=[]):=by
 refine aK (N:=14) Tryz.func181 rfl rfl (by simp) fun b=> ?_
 refine a8 (fun w m=>(m.perm (ao [0] _ [_] _ rfl)).unpack) ?_
 refine ae<|ah<|au rfl<|hy (fun _=>aL rfl)<|hy (fun _=>ax rfl oY (by decide))<|hy (fun m=>ak rfl cY (ar (m.aN 0 rfl) rfl))<|hy (fun _=>cw rfl rfl)<|ag<|az [6,0] rfl<|aa<| ?_
 refine cu rfl (fun h=> ?_) (fun h=> ?_)
 ·have e:st.fp={st with cy:=st.cy-1}:=by simp only[cU.fp,if_pos h]
  rw[e]
  refine ah<|au rfl<|hy (fun _=>aL rfl)<|hy (fun _=>ax rfl oY (by decide))<|hy (fun m=>ak rfl cY (ar (m.aN 0 rfl) rfl))<|hy (fun _=>ct rfl rfl (bE (by omega) (by omega)))<|hy (fun _=>aL rfl)<|hy (fun _=>ax rfl oY (by decide))<| ?_
  refine cF (bZ 0 rfl rfl rfl tA rfl (by first|exact Nat.le_of_ble_eq_true rfl|simp) ?_)
  refine ag<|az [6,0] rfl<|aY rfl rfl<| ?_
  refine bd (X' :=bG g {st with cy:=st.cy-1}::_) (fun w m=>(m.perm (ao [0,0,0,0,0] _ [_,_,_,_,_] _ rfl)).pack) ?_
  exact fA trivial rfl [0] rfl [] rfl ⟨rfl,rfl,rfl⟩
 ·have e:st.fp=st:=by simp only[cU.fp,if_neg h]
  rw[e]
  refine aB<| ?_
  refine bd (X' :=bG g st::_) (fun w m=>(m.perm (ao [0,0,0,0,0] _ [_,_,_,_,_] _ rfl)).pack) ?_
  exact fA trivial rfl [0] rfl [] rfl ⟨rfl,rfl,rfl⟩
theorem FL{g:Nat}{st:cU}(ht:lH st.seen≤1000000000000):cf Tryz.prog 88 [.pointer (some ⟨g,0,none⟩)] [bG g st] [] (fun v_ X_ S_=>v_=(.int .i64 (lH st.seen:Nat))∧X_=[bG g st]∧S_=[]):=by
 refine aK (N:=20) Tryz.func88 rfl rfl (by simp) fun b=> ?_
 refine a8 (fun w m=>(m.perm (ao [0] _ [_] _ rfl)).unpack) ?_
 refine ae<|ah<|aG rfl<|ag<|aa<|ae<|ah<|aG rfl<|ag<|aa<|ae<|ae<|ah<|au rfl<|hy (fun _=>aL rfl)<|hy (fun _=>ax rfl jC (by decide))<|hy (fun m=>ak rfl ph (ar (m.aN 0 rfl) rfl))<| ?_
 refine hx (z7 1 rfl rfl Tryz.underlying174 (fun r10=> ?_))
 refine ag<|az [10,3,2,0] rfl<|aY rfl rfl<|aa<|aM<| ?_
 refine gh (fun left n cur=>left.length) (fun left n cur=>[(3,.int .i64 (n:Nat))]) (fun left n cur=>[oB SV r10 st.gs (eC st.seen) (eC left) cur]) (fun left n cur=>[]) (fun left n cur=>n+lH left=lH st.seen) st.seen 0 none [(10,_),(2,_),(0,_)] ⟨rfl,rfl,rfl,trivial⟩ [0] rfl [] rfl (Nat.zero_add _) ⟨rfl,trivial⟩ (fun left n cur hI=> ?_)
 refine ae<|ah<| ?_
 refine hx (BF 0 rfl rfl (fun h0=> ?_) (fun j p hp=> ?_))
 ·obtain rfl:left=[]:=List.map_eq_nil_iff.1 h0
  have hn:n=lH st.seen:=by simpa[lH]using hI
  subst hn
  refine hy (fun _=>aF rfl rfl)<|ag<|az [12,3,10,2,0] rfl<|aa<|ae<| ?_
  refine dm rfl (rfl) ?_
  refine bH<|al<|al<|aD<|aa<|ae<|ah<|au rfl<|aG rfl<|ag<|az [2,12,3,10,0] rfl<|aa<|aR<| ?_
  refine bd (fun w m=>m.Ds 0 rfl) ?_
  refine bd (X' :=bG g st::_) (fun w m=>(m.perm (ao [1,0,0,0,0] _ [_,_,_,_,_] _ rfl)).pack) ?_
  exact bc trivial rfl rfl [0] rfl [] rfl ⟨rfl,rfl,rfl⟩
 ·obtain⟨k,v⟩:=p
  obtain⟨r,hr,e⟩:=Cn hp
  obtain rfl:v=r.val:=e
  have ht:=qt hr
  have hlt:=(List.getElem?_eq_some_iff.1 hr).1
  simp only at ht
  refine hy (fun _=>aF rfl rfl)<|ag<|az [12,3,10,2,0] rfl<|aa<|ae<| ?_
  refine fx rfl (rfl) ?_
  refine aB<|aa<|aM<|ae<|ah<|hy (fun m=>yr rfl (m.Hz 0 rfl))<|hy (fun _=>yV (aF rfl rfl) ((rfl:_=Value.slice r.A r.n r.c)))<|aG rfl<|ag<|az [5,12,3,10,2,0] rfl<|aa<|ah<|au rfl<|au rfl<|hy (fun _=>a6 rfl Tryz.underlying27)<|hy (fun _=>aO rfl rfl (bE (by omega) (by omega)))<|aG rfl<|ag<|az [3,5,12,10,2,0] rfl<|aW<| ?_
  refine bd (fun w m=>m.bw 0 rfl (show _=oB SV r10 st.gs (eC st.seen) (eC (left.eraseIdx j)) (some (k,r.val))from congrArg (fun q=>oB SV r10 st.gs (eC st.seen) q (some (k,r.val))) (uG left j))) ?_
  refine gj (left.eraseIdx j) (n+r.n) (some (k,r.val)) ⟨rfl,rfl,rfl,rfl,trivial⟩ [0,0,0,0,0] rfl [] rfl (by omega) (by rw[List.length_eraseIdx,if_pos hlt];omega)
theorem pP{l:dH}(p:List UInt8):(bF l p=none∧bF (eC l) p=none)∨∃r,bF l p=some r∧bF (eC l) p=some r.val:=by
 rw[lY]
 cases bF l p with
 |none=>exact .inl ⟨rfl,rfl⟩
 |some r=>exact .inr ⟨r,rfl,rfl⟩
def er(st:cU)(p:List UInt8):Int:=if st.cy=0 then 6 else if bF st.seen p=none then 4 else 0
theorem zT{g:Nat}{st:cU}{p:List UInt8}:cf Tryz.prog 158 [.pointer (some ⟨g,0,none⟩),.string (strOf p)] [bG g st] [] (fun v_ X_ S_=>v_=(.int .i64 (er st p))∧X_=[bG g st]∧S_=[]):=by
 have hf:er st p=er st p:=rfl
 refine aK (N:=23) Tryz.func158 rfl rfl (by simp) fun b=> ?_
 refine a8 (fun w m=>(m.perm (ao [0] _ [_] _ rfl)).unpack) ?_
 have hh:(bF (eC st.seen) p).isSome=decide (bF st.seen p≠none):=by
  rcases pP (l:=st.seen) p with⟨h1,h2⟩|⟨r,h1,h2⟩ <;> simp[h1,h2]
 refine ae<|ah<|aG rfl<|ag<|aa<|ae<|ah<|au rfl<|hy (fun _=>aL rfl)<|hy (fun _=>ax rfl jC (by decide))<|hy (fun m=>ak rfl ph (ar (m.aN 0 rfl) rfl))<|au rfl<|hy (fun m=>gn (enc:=SV) rfl rfl Tryz.underlying174 ku (kA Tryz.underlying9) (m.mr 1 rfl))<|au rfl<|hy (fun _=>aF rfl rfl)<|hy (fun _=>yV (aF rfl rfl) ((show Value.bool (bF (eC st.seen) p).isSome= .bool (decide (bF st.seen p≠none)) by rw[hh])))<|aG rfl<|aG rfl<|ag<|az [6,4,0,1] rfl<|aa<|ae<|aM<|ae<|ah<| ?_
 refine aH (X' :=bG g st::_) (fun w m=>(m.perm (ao [0,0,0,0,0] _ [_,_,_,_,_] _ rfl)).pack) ?_
 refine au rfl<| ?_
 refine hx (an rfl Tryz.call87 (Hq) [0] rfl [] rfl ?_)
 rintro _ _ _ ⟨rfl,rfl,rfl⟩
 refine hy (fun _=>eu rfl)<|aG rfl<|ag<|az [16,6,4,0,1] rfl<|aY rfl rfl<|aa<| ?_
 refine cu rfl (fun h1=> ?_) (fun h1=> ?_)
 ·refine ae<|ah<|aG rfl<|ag<|aa<|aR<|aU<|aq<| ?_
  exact bc trivial rfl rfl [0] rfl [] rfl ⟨(by rw[er,if_pos (by omega)]),rfl,rfl⟩
 ·refine ae<|ah<|au rfl<|hy (fun _=>eu rfl)<|aG rfl<|ag<|az [20,16,6,4,0,1] rfl<|aa<| ?_
  refine cu rfl (fun h2=> ?_) (fun h2=> ?_)
  ·refine ae<|ah<|aG rfl<|ag<|aa<|aR<|aU<|aq<| ?_
   exact bc trivial rfl rfl [0] rfl [] rfl ⟨(by rw[er,if_neg (by omega),if_pos (Decidable.not_not.1 h2)]),rfl,rfl⟩
  ·refine aB<|aW<|aa<|ae<|ah<|aG rfl<|ag<|aa<|aR<| ?_
   exact bc trivial rfl rfl [0] rfl [] rfl ⟨(by rw[er,if_neg (by omega),if_neg (fun e=>h2 (fun h=>h e))]),rfl,rfl⟩
end Go.Proofs.YtmibdabdlgmafaaGreatDoor
end
section
set_option maxRecDepth 20000
namespace Go.Proofs.YtmibdabdlgmafaaGreatDoor
open Go.Eng Go.Hx
theorem s6{st:cU}{p:List UInt8}{r:bh}(h:bF st.seen p=some r):r∈rowsOf st:=by
 unfold rowsOf
 refine List.mem_append_left _ (List.mem_append_left _ ?_)
 exact List.mem_map.2 ⟨_,ji h,rfl⟩
def cJ(st:cU)(p:List UInt8):List UInt8:=if er st p=0 then((bF st.seen p).map (·.l)).getD []else []
theorem tU{st:cU}{p:List UInt8}(h:er st p≠0):cJ st p=[]:=by rw[cJ,if_neg h]
theorem sP{st:cU}{p:List UInt8}{r:bh}(h:er st p=0)(hr:bF st.seen p=some r):cJ st p=r.l:=by rw[cJ,if_pos h,hr];rfl
theorem s4{st:cU}{p:List UInt8}(h:er st p=0):∃r,bF st.seen p=some r:=by
 unfold er at h
 split at h
 ·omega
 ·split at h
  ·omega
  ·rename_i h2
   cases hq:bF st.seen p with
   |none=>exact absurd hq h2
   |some r=>exact⟨r,rfl⟩
def Small(st:cU):Prop:=∀r∈rowsOf st,r.n≤1000000000
theorem Gp{g:Nat}{st:cU}{p:List UInt8}(hs:Small st):cf Tryz.prog 90 [.pointer (some ⟨g,0,none⟩),.string (strOf p)] [bG g st] [] (fun v_ X_ S_=>∃v,v_=(.tuple #[v,.int .i64 (er st p)])∧X_=[bG g st,aI 5 1 v (cJ st p).length (aT (cJ st p))]∧S_=[]):=by
 refine aK (N:=20) Tryz.func90 rfl rfl (by simp) fun b=> ?_
 refine ae<|ah<|aG rfl<|aG rfl<|ag<|aa<|ae<|ae<|ah<|au rfl<|au rfl<| ?_
 refine hx (an rfl Tryz.call158 (zT) [0] rfl [] rfl ?_)
 rintro _ _ _ ⟨rfl,rfl,rfl⟩
 refine aG rfl<|ag<|az [6,5,4,0,1] rfl<|aY rfl rfl<|aa<|ae<|ah<|au rfl<|hy (fun _=>de rfl rfl)<|ag<|az [11,6,5,4,0,1] rfl<|aa<| ?_
 refine cu rfl (fun h=> ?_) (fun h=> ?_)
 ·rw[tU h]
  refine ae<|ah<|au rfl<|aG rfl<|aG rfl<|ag<|az [5,4,11,6,0,1] rfl<|aa<|aR<|aq<| ?_
  refine bd (fun w m=>m.cL (r' :=aI 5 1 (.slice none 0 0) 0 []) (.refl _ _) (Own.nil _ _ _ _) (fun k hk=>hk.elim)) ?_
  exact cQ trivial rfl rfl rfl [1,0] rfl [] rfl ⟨_,rfl,rfl,rfl⟩
 ·have h0:=Decidable.not_not.1 h
  obtain⟨r,hr⟩:=s4 h0
  have hv:bF (eC st.seen) p=some r.val:=by rw[lY,hr];rfl
  rw[sP h0 hr,h0]
  have hmem:=s6 hr
  obtain⟨i,hi⟩:=List.mem_iff_getElem?.1 hmem
  have hsm:=hs r hmem
  refine a8 (fun w m=>(m.perm (ao [0] _ [_] _ rfl)).unpack) ?_
  refine aQ (fun m=>ek ((View.ok (View.row hi)).1 _ (m.H0 4 rfl))) fun hrl=> ?_
  have hrl:=hrl.1
  refine aB<|aa<|ae<|ah<|au rfl<|hy (fun _=>aL rfl)<|hy (fun _=>ax rfl jC (by decide))<|hy (fun m=>ak rfl ph (ar (m.aN 0 rfl) rfl))<|au rfl<|hy (fun m=>yV (gn (enc:=SV) rfl rfl Tryz.underlying174 ku (kA Tryz.underlying9) (m.mr 1 rfl)) ((show ff false (.slice none 0 0) (bF (eC st.seen) p)= .slice r.A r.n r.c by rw[hv];rfl)))<| ?_
  refine hx (cS rfl Tryz.call117 (nh (by omega)) [] rfl (.x 4 rfl (View.row hi) .nil) ?_)
  rintro _ _ _ ⟨v,rfl,rfl,rfl⟩
  refine⟨rfl, ?_⟩
  refine aC (fun m=>(m.own 0 rfl).slice) ?_
  rintro⟨A_x,c_x,rfl,hc_x⟩
  refine aC (fun m=>(m.ord 0 rfl).2.1) fun hA_x=> ?_
  refine aG rfl<|aG rfl<|ag<|az [5,4,11,6,0,1] rfl<|aY rfl rfl<|aa<|aR<| ?_
  refine bd (X' :=bG g st::_) (fun w m=>(m.perm (ao [1,1,1,1,1] _ [_,_,_,_,_] _ rfl)).pack) ?_
  exact cQ trivial rfl rfl rfl [0,0] rfl [] rfl ⟨_,rfl,(by rw[hrl]),rfl⟩
theorem Fe{g:Nat}{l:List (List UInt8×Value)}{p:List UInt8}{r:bh}:cf Tryz.prog 153 [.agg [SV p,r.val].toArray,.map (some g)] [dC SV g l] [] (fun v_ X_ S_=>v_=(.tuple #[])∧X_=[dC SV g (cC l p r.val)]∧S_=[]):=by
 refine aK (N:=9) Tryz.func153 rfl rfl (by simp) fun b=> ?_
 refine ae<|ah<| ?_
 refine hx (br rfl (fun g2=> ?_))
 refine ag<|aY rfl rfl<|aa<|ah<|au rfl<|hy (fun _=>ax rfl BI (by decide))<|hy (fun m=>ak rfl lO (ar (m.aN 0 rfl) rfl))<|hy (fun _=>ax rfl CK (by decide))<|hy (fun m=>ak rfl di (ar (m.aN 0 rfl) rfl))<| ?_
 refine cF (pd (enc:=SV) 1 rfl rfl rfl rfl Tryz.underlying174 (kA Tryz.underlying9) ?_)
 refine ag<|az [2,0,1] rfl<|aY rfl rfl<| ?_
 exact fA trivial rfl [0] rfl [] rfl ⟨rfl,rfl,rfl⟩
theorem nG{l:dH}{p:List UInt8}{r x:bh}(h:x∈(cC l p r).map (·.2)):x∈l.map (·.2)∨x=r:=by
 induction l with
 |nil=>simp only[cC,List.map_cons,List.map_nil,List.mem_singleton]at h;exact .inr h
 |cons a q ih=>
  obtain⟨k,u⟩:=a
  simp only[cC]at h
  split at h
  ·simp only[List.map_cons,List.mem_cons]at h ⊢
   rcases h with rfl|h
   ·exact .inr rfl
   ·exact .inl (.inr h)
  ·simp only[List.map_cons,List.mem_cons]at h ⊢
   rcases h with rfl|h
   ·exact .inl (.inl rfl)
   ·rcases ih h with h|h
    ·exact .inl (.inr h)
    ·exact .inr h
def cU.wrote(st:cU)(p:List UInt8)(r:bh)(A:Option Addr)(c:Nat):cU:={st.fp with seen:=cC st.seen p r,waits:=st.waits++[.written p r],wA:=A,wc:=c}
theorem pC{st:cU}{p:List UInt8}{r:bh}{A:Option Addr}{c:Nat}:∀x∈rowsOf (st.wrote p r A c),x∈rowsOf st∨x=r:=by
 intro x hx
 unfold rowsOf cU.wrote at hx
 simp only[cU.fp,List.mem_append,List.filterMap_append]at hx
 unfold rowsOf
 simp only[List.mem_append]
 rcases hx with(h|h)|h|h
 ·rcases nG h with h|h
  ·exact .inl (.inl (.inl h))
  ·exact .inr h
 ·exact .inl (.inl (.inr h))
 ·exact .inl (.inr h)
 ·simp[jh.row]at h
  exact .inr h
theorem HB{g:Nat}{st:cU}{p:List UInt8}{r:bh}{e:TypeId}(hp:st.cy≤1000000000000)(hw:st.waits.length≤1000000):cf Tryz.prog 116 [.pointer (some ⟨g,0,none⟩),(jh.written p r).val] [bG g st,aI e 1 (.slice r.A r.n r.c) r.n (aT r.l)] [] (fun v_ X_ S_=>∃A c,v_=(.tuple #[])∧X_=[bG g (st.wrote p r A c)]∧S_=[]):=by
 have hsw:st.fp.waits.length=st.waits.length:=rfl
 refine aK (N:=25) Tryz.func116 rfl rfl (by simp) fun b=> ?_
 refine ae<|ah<|au rfl<| ?_
 refine hx (an rfl Tryz.call181 (ux (by omega)) [0] rfl [] rfl ?_)
 rintro _ _ _ ⟨rfl,rfl,rfl⟩
 refine aH (fun w m=>(m.perm (ao [0] _ [_] _ rfl)).unpack) ?_
 refine ag<|az [0,1] rfl<|aY rfl rfl<|aa<|ae<|cA [8] [(0,some 0),(1,some 0),(2,some 0),(3,some 0),(4,some 0),(5,some 0),(6,some 0),(7,some 0),(8,none)] (by kernel_rfl) (by kernel_rfl) rfl 0<|aj (ai rfl)<|aj (ai rfl)<|aj (aL rfl)<|aj (ax rfl jC (by decide))<|bV (fun m=>ak rfl ph (ar (m.aN 0 rfl) rfl))<|aj (fD rfl rfl)<|aj (zy rfl (by kernel_rfl))<|aj (ai rfl)<| ?_
 refine dk (yG rfl rfl (fun w=>by kernel_rfl) Tryz.call153 (Fe) [1] rfl [] rfl ?_)
 rintro _ _ _ ⟨rfl,rfl,rfl⟩
 refine⟨(fun h=>absurd h (by decide)), ?_⟩
 refine bp<|az [0,1] rfl<|aY rfl rfl<|aa<|ah<|au rfl<|au rfl<|hy (fun _=>aL rfl)<|hy (fun _=>ax rfl lZ (by decide))<|hy (fun m=>ak rfl CZ (ar (m.aN 1 rfl) rfl))<|au rfl<| ?_
 refine hx (b5 Tryz.underlying175 vM rfl rfl rfl (by simp[Value.cells,jh.val]) (by decide) (by decide) (fun g21=> ?_))
 have hA_b21:0<1→(some (⟨g21,0,none⟩:Addr))≠none:=fun _ h=>by cases h
 refine aH (fun w m=>m.bw 0 rfl (show _=aI 232 1 (.slice (some ⟨g21,0,none⟩) 1 1) 1 [(jh.written p r).val]from rfl)) ?_
 refine hx (bC 4 rfl rfl rfl Tryz.underlying175 Tryz.underlying175 (by exact .inl rfl) vM rfl (fun m=>Src.b9 (m.ord 0 rfl)) (by simp[jh.val,Value.oneCell']) (by unfold maxLen;omega) (by omega) (fun u=> ?_))
 refine aC (fun m=>(m.own 0 rfl).slice) ?_
 rintro⟨A_d3,c_d3,rfl,hc_d3⟩
 refine aC (fun m=>(m.ord 0 rfl).2.1) fun hA_d3=> ?_
 refine hy (fun _=>aL rfl)<|hy (fun _=>ax rfl lZ (by decide))<| ?_
 refine cF (bZ 3 rfl rfl rfl zS rfl (by first|exact Nat.le_of_ble_eq_true rfl|simp) ?_)
 refine ag<|az [0,1] rfl<|aY rfl rfl<| ?_
 refine bd (fun w m=>m.bw 0 rfl (show _=aE g 177 (lJ (st.wrote p r A_d3 c_d3))from by simp[lJ,cU.wrote,cU.fp])) ?_
 refine bd (fun w m=>m.bw 3 rfl (show _=dC SV st.gs (eC (st.wrote p r A_d3 c_d3).seen)from congrArg (dC SV st.gs) (p9 _ _ _))) ?_
 refine bd (fun w m=>m.bw 2 rfl (show _=aI 232 1 (.slice A_d3 (st.wrote p r A_d3 c_d3).waits.length c_d3) (st.wrote p r A_d3 c_d3).waits.length ((st.wrote p r A_d3 c_d3).waits.map jh.val)from by simp[cU.wrote,cU.fp])) ?_
 refine bd (X' :=dI (rowsOf (st.wrote p r A_d3 c_d3))::_) (fun w m=>(m.perm (ao [5,5] _ [_,_] _ rfl)).zR (pC)) ?_
 refine bd (X' :=bG g (st.wrote p r A_d3 c_d3)::_) (fun w m=>(m.perm (ao [3,2,3,1,0] _ [_,_,_,_,_] _ rfl)).pack) ?_
 exact fA trivial rfl [0] rfl [] rfl ⟨_,_,rfl,rfl,rfl⟩
def bP(st:cU)(p:List UInt8)(n:Nat):Int:=if¬fQ p then 1 else if st.cy=0 then 6 else if st.room<(lH st.seen:Int)-(((bF st.seen p).map (·.n)).getD 0:Nat)+n then 5 else 0
theorem yI:∀{l:dH} {m:Nat},(∀x∈l,x.2.n≤m)→lH l≤l.length*m
 | [],m,h=>by simp[lH]
 |a::q,m,h=>by
  have:=yI (l:=q) (m:=m) (fun x hx=>h x (List.mem_cons_of_mem _ hx))
  have h1:=h a (List.mem_cons_self ..)
  simp only[lH,List.map_cons,List.sum_cons,List.length_cons,Nat.add_mul]at this ⊢
  omega
structure oT(st:cU)(k:Nat):Prop where
 cy:st.cy≤1000000000000
 room:st.room≤1048576
 seen:st.seen.length≤k
 rest:st.dq.length+st.waits.length≤k
 small:∀r∈rowsOf st,r.n≤1048576
theorem oT.le{st:cU}{k k' :Nat}(h:oT st k)(hk:k≤k'):oT st k' :=⟨h.cy,h.room,Nat.le_trans h.seen hk,Nat.le_trans h.rest hk,h.small⟩
theorem oT.lH{st:cU}{k:Nat}(h:oT st k):lH st.seen≤k*1048576:=Nat.le_trans (yI (m:=1048576) (fun x hx=>h.small _ (by unfold rowsOf;exact List.mem_append_left _ (List.mem_append_left _ (List.mem_map.2 ⟨x,hx,rfl⟩))))) (Nat.mul_le_mul_right _ h.seen)
theorem oT.sm{st:cU}{k:Nat}(h:oT st k):Small st:=fun r hr=>Nat.le_trans (h.small r hr) (by decide)
theorem oT.init{n:Int}{gs gl:Nat}(h:n≤1048576):oT (lQ n gs gl) 0:=⟨by simp[lQ],h,Nat.le_refl _,Nat.le_refl _,fun r hr=>by simp[rowsOf,lQ]at hr⟩
theorem pK(l:dH)(p:List UInt8)(r:bh):(cC l p r).length≤l.length+1:=by
 induction l with
 |nil=>simp[cC]
 |cons a q ih=>
  obtain⟨k,u⟩:=a
  simp only[cC]
  split <;> simp only[List.length_cons] <;> omega
theorem ue(l:dH)(p:List UInt8):(e7 l p).length≤l.length:=by
 induction l with
 |nil=>simp[e7]
 |cons a q ih=>
  obtain⟨k,u⟩:=a
  simp only[e7]
  split <;> simp only[List.length_cons] <;> omega
theorem kl{st:cU}(h:st.cy≤1000000000000):st.fp.cy≤1000000000000:=by
 simp only[cU.fp]
 split <;> omega
theorem oT.wrote{st:cU}{k:Nat}(h:oT st k){p:List UInt8}{r:bh}(hr:r.n≤1048576)(A:Option Addr)(c:Nat):oT (st.wrote p r A c) (k+1):=by
 refine⟨kl h.cy,h.room, ?_, ?_,fun x hx=> ?_⟩
 ·have:=pK st.seen p r
  have:=h.seen
  show(cC st.seen p r).length≤k+1
  omega
 ·have:=h.rest
  show st.dq.length+(st.waits++[jh.written p r]).length≤k+1
  simp only[List.length_append,List.length_cons,List.length_nil]
  omega
 ·rcases pC x hx with h' |rfl
  ·exact h.small x h'
  ·exact hr
theorem EW{g:Nat}{st:cU}{p:List UInt8}{A:Option Addr}{n c:Nat}{l:List UInt8}{k:Nat}(ok:oT st k)(hk:k≤100000)(hn:n≤1048576):cf Tryz.prog 33 [.pointer (some ⟨g,0,none⟩),.string (strOf p),.slice A n c] [bG g st] [cz 1 A n (aT l)] (fun v_ X_ S_=>∃st1 B c1 A1 c2,v_=(.int .i64 (bP st p n))∧X_=[bG g st1]∧S_=[]∧((bP st p n≠0∧st1=st)∨(bP st p n=0∧st1=st.wrote p ⟨B,n,c1,l⟩ A1 c2))):=by
 have hp:=ok.cy
 have hw:st.waits.length≤1000000:=by have:=ok.rest;omega
 have ht:lH st.seen≤1000000000000:=by have:=ok.lH;omega
 have hs:=ok.sm
 refine aK (N:=41) Tryz.func33 rfl rfl (by simp) fun b=> ?_
 refine aQ (fun m=>ek (m.rd 0 rfl)) ?_
 rintro⟨hl_r,hA_r⟩
 refine ae<|ah<|aG rfl<|ag<|aa<|ae<|aM<|ae<|ah<|au rfl<| ?_
 refine hx (an rfl Tryz.call115 (yK) [] rfl [] rfl ?_)
 rintro _ _ _ ⟨rfl,rfl,rfl⟩
 refine hy (fun _=>eu rfl)<|aG rfl<|ag<|az [7,6,0,1,2] rfl<|aY rfl rfl<|aa<| ?_
 refine cu rfl (fun h1=> ?_) (fun h1=> ?_)
 ·have e:bP st p n=1:=by rw[bP,if_pos h1]
  rw[e]
  refine ae<|ah<|aG rfl<|ag<|aa<|aR<|aU<|aq<| ?_
  exact bc trivial rfl rfl [0] rfl [] rfl ⟨_,none,0,none,0,rfl,rfl,rfl,.inl ⟨by decide,rfl⟩⟩
 ·refine ae<|ah<|au rfl<| ?_
  refine hx (an rfl Tryz.call87 (Hq) [0] rfl [] rfl ?_)
  rintro _ _ _ ⟨rfl,rfl,rfl⟩
  refine hy (fun _=>eu rfl)<|aG rfl<|ag<|az [11,7,6,0,1,2] rfl<|aY rfl rfl<|aa<| ?_
  refine cu rfl (fun h2=> ?_) (fun h2=> ?_)
  ·have e:bP st p n=6:=by rw[bP,if_neg h1,if_pos (by omega)]
   rw[e]
   refine ae<|ah<|aG rfl<|ag<|aa<|aR<|aU<|aq<| ?_
   exact bc trivial rfl rfl [0] rfl [] rfl ⟨_,none,0,none,0,rfl,rfl,rfl,.inl ⟨by decide,rfl⟩⟩
  ·have hwe:bP st p n=if st.room<(lH st.seen:Int)-(((bF st.seen p).map (·.n)).getD 0:Nat)+n then 5 else 0:=by rw[bP,if_neg h1,if_neg (by omega)]
   have hv:∃B m c0,ff false (.slice none 0 0) (bF (eC st.seen) p)= .slice B m c0∧m=((bF st.seen p).map (·.n)).getD 0∧m≤1000000000:=by
    rw[lY]
    cases hq:bF st.seen p with
    |none=>exact⟨none,0,0,rfl,rfl,by decide⟩
    |some r=>exact⟨r.A,r.n,r.c,rfl,rfl,hs r (s6 hq)⟩
   obtain⟨B,m,c0,hv1,hv2,hv3⟩:=hv
   rw[←hv2]at hwe
   refine ae<|cA [1] [(0,some 0),(2,some 1),(3,some 1),(4,some 1),(5,some 1),(6,some 1),(7,some 1),(8,some 1),(10,some 1),(11,some 1),(13,some 1),(14,some 1),(15,some 1),(16,some 1),(1,none),(9,some 1),(12,some 1),(17,some 1),(18,some 1)] (by kernel_rfl) (by kernel_rfl) rfl 99<|aj (ai rfl)<|aj (ai rfl)<|aj (aL rfl)<|aj (ax rfl jC (by decide))<|bV (fun m=>ak rfl ph (ar (show e8 _ _ _ _ from m.G5 0 rfl 0 rfl) rfl))<|aj (ai rfl)<|bV (fun m=>yV (gn (enc:=SV) rfl rfl Tryz.underlying174 ku (kA Tryz.underlying9) (show gI _ _ _ _ from m.G5 0 rfl 1 rfl)) (hv1))<|aj (a6 rfl Tryz.underlying27)<|aj (ai rfl)<|aj (a6 rfl Tryz.underlying27)<|aj (ai rfl)<|aj (aL rfl)<|aj (ax rfl BZ (by decide))<|bV (fun m=>ak rfl cY (ar (show e8 _ _ _ _ from m.G5 0 rfl 0 rfl) rfl))<| ?_
   refine dk (an rfl Tryz.call88 (FL (by omega)) [0] rfl [] rfl ?_)
   rintro _ _ _ ⟨rfl,rfl,rfl⟩
   refine⟨(fun _=>wk [0] [0] rfl rfl), ?_⟩
   refine aj (ct rfl rfl (bE (by omega) (by omega)))<|aj (aO rfl rfl (bE (by omega) (by omega)))<|aj (cw rfl rfl)<|aj (ay rfl)<|bp<|az [15,11,7,6,0,1,2] rfl<|aY rfl rfl<|aa<| ?_
   refine cu rfl (fun h3=> ?_) (fun h3=> ?_)
   ·rw[if_pos (by omega)]at hwe
    rw[hwe]
    refine ae<|ah<|aG rfl<|ag<|aa<|aR<|aU<|aq<| ?_
    exact bc trivial rfl rfl [0] rfl [] rfl ⟨_,none,0,none,0,rfl,rfl,rfl,.inl ⟨by decide,rfl⟩⟩
   ·rw[if_neg (by omega)]at hwe
    rw[hwe]
    refine aB<|aW<|aa<|ae<|ah<|au rfl<|au rfl<|au rfl<| ?_
    refine hx (an rfl Tryz.call117 (nh (by omega)) [] rfl [0] rfl ?_)
    rintro _ _ _ ⟨v,rfl,rfl,rfl⟩
    refine aC (fun m=>(m.own 0 rfl).slice) ?_
    rintro⟨A_x,c_x,rfl,hc_x⟩
    refine aC (fun m=>(m.ord 0 rfl).2.1) fun hA_x=> ?_
    refine hy (fun _=>yV (b6 F8 rfl rfl (by kernel_rfl) (.cons (o:=0) (sz:=1) (by kernel_rfl) rfl rfl (Nat.le_of_ble_eq_true rfl) (.cons (o:=1) (sz:=1) (by kernel_rfl) rfl rfl (Nat.le_of_ble_eq_true rfl) .nil))) ((rfl:_=Value.agg [SV p,Value.slice A_x n c_x].toArray)))<|hy (fun _=>re rfl Tryz.underlying189 (fun _ h=>by cases h))<| ?_
    refine hx (an rfl Tryz.call116 (HB (by omega) (by omega) (r:=⟨A_x,n,c_x,l⟩)) [1,0] rfl [] rfl ?_)
    rintro _ _ _ ⟨A2,c2,rfl,rfl,rfl⟩
    refine ag<|az [15,11,7,6,0,1,2] rfl<|aY rfl rfl<|aa<|ae<|ah<|aG rfl<|ag<|aa<|aR<| ?_
    exact bc trivial rfl rfl [0] rfl [] rfl ⟨_,_,_,_,_,rfl,rfl,rfl,.inr ⟨rfl,rfl⟩⟩
theorem Bu{g:Nat}{l:List (List UInt8×Value)}:cf Tryz.prog 154 [.map (some g)] [dC SV g l] [] (fun v_ X_ S_=>∃g1,v_=(.map (some g1))∧X_=[dC SV g l,dC SV g1 l]∧S_=[]):=by
 refine aK (N:=9) Tryz.func154 rfl rfl (by simp) fun b=> ?_
 refine ae<|ah<|aG rfl<|ag<|aa<|ae<|ae<|ah<|au rfl<|hy (fun _=>Et rfl rfl Tryz.underlying174)<|ag<|az [4,2,0] rfl<|aa<| ?_
 refine dm rfl (rfl) ?_
 refine aB<|aa<|ae<|ah<|au rfl<|hy (fun _=>re rfl Tryz.underlying174 (fun _ h=>by cases h))<| ?_
 refine hx (xw 0 rfl rfl Tryz.func209 (by kernel_rfl) (by kernel_rfl) (by kernel_rfl) (by kernel_rfl) (fun g1=> ?_))
 refine hy (fun _=>qu rfl (show _=Result.ok (Value.map (some g1)) _ by kernel_rfl))<|aG rfl<|ag<|az [2,4,0] rfl<|aY rfl rfl<|aa<|aR<| ?_
 exact bc trivial rfl rfl [1,0] rfl [] rfl ⟨_,rfl,rfl,rfl⟩
def cU.synced(st:cU)(gl:Nat):cU:={st.fp with gl:=gl,dq:=st.seen,waits:=[],wA:=none,wc:=0}
def dy(st:cU):Int:=if st.cy=0 then 6 else 0
theorem oh{st:cU}{gl:Nat}:∀x∈rowsOf (st.synced gl),x∈rowsOf st:=by
 intro x hx
 unfold rowsOf cU.synced at hx
 simp only[cU.fp,List.filterMap_nil,List.append_nil,List.mem_append,or_self]at hx
 unfold rowsOf
 exact List.mem_append_left _ (List.mem_append_left _ hx)
theorem oT.synced{st:cU}{k:Nat}(h:oT st k)(gl:Nat):oT (st.synced gl) k:=
 ⟨kl h.cy,h.room,h.seen,by show st.seen.length+0≤k;have:=h.seen;omega,fun x hx=>h.small x (oh x hx)⟩
theorem Fx{g:Nat}{st:cU}{k:Nat}(ok:oT st k):cf Tryz.prog 110 [.pointer (some ⟨g,0,none⟩)] [bG g st] [] (fun v_ X_ S_=>∃st1 gl,v_=(.int .i64 (dy st))∧X_=[bG g st1]∧S_=[]∧((st.cy=0∧st1=st)∨(st.cy≠0∧st1=st.synced gl))):=by
 refine aK (N:=19) Tryz.func110 rfl rfl (by simp) fun b=> ?_
 refine ae<|ah<|aG rfl<|ag<|aa<|ae<|ae<|ah<|au rfl<| ?_
 refine hx (an rfl Tryz.call87 (Hq) [0] rfl [] rfl ?_)
 rintro _ _ _ ⟨rfl,rfl,rfl⟩
 refine hy (fun _=>eu rfl)<|ag<|az [5,2,0] rfl<|aY rfl rfl<|aa<| ?_
 refine cu rfl (fun h1=> ?_) (fun h1=> ?_)
 ·have h0:st.cy=0:=Decidable.not_not.1 h1
  have e:dy st=6:=by rw[dy,if_pos h0]
  rw[e]
  refine ae<|ah<|aG rfl<|ag<|aa<|aR<|aq<| ?_
  exact bc trivial rfl rfl [0] rfl [] rfl ⟨_,0,rfl,rfl,rfl,.inl ⟨h0,rfl⟩⟩
 ·have h0:st.cy≠0:=fun e=>h1 (fun h=>h e)
  have e:dy st=0:=by rw[dy,if_neg h0]
  rw[e]
  have hp:=ok.cy
  refine aB<|aa<|ae<|ah<|au rfl<| ?_
  refine hx (an rfl Tryz.call181 (ux (by omega)) [0] rfl [] rfl ?_)
  rintro _ _ _ ⟨rfl,rfl,rfl⟩
  refine aH (fun w m=>(m.perm (ao [0] _ [_] _ rfl)).unpack) ?_
  refine ag<|az [5,2,0] rfl<|aY rfl rfl<|aa<|ae<|ah<|au rfl<|au rfl<|au rfl<|hy (fun _=>aL rfl)<|hy (fun _=>ax rfl jC (by decide))<|hy (fun m=>ak rfl ph (ar (m.aN 0 rfl) rfl))<| ?_
  refine hx (an rfl Tryz.call154 (Bu) [1] rfl [] rfl ?_)
  rintro _ _ _ ⟨g1,rfl,rfl,rfl⟩
  refine hy (fun _=>aL rfl)<|hy (fun _=>ax rfl Cj (by decide))<| ?_
  refine cF (bZ 2 rfl rfl rfl GG rfl (by first|exact Nat.le_of_ble_eq_true rfl|simp) ?_)
  refine hy (fun _=>aL rfl)<|hy (fun _=>ax rfl lZ (by decide))<| ?_
  refine cF (bZ 0 rfl rfl rfl zS rfl (by first|exact Nat.le_of_ble_eq_true rfl|simp) ?_)
  refine ag<|az [5,2,0] rfl<|aY rfl rfl<|aa<|ae<|ah<|aG rfl<|ag<|aa<|aR<| ?_
  refine bd (fun w m=>m.cL (r' :=aI 232 1 (.slice none 0 0) 0 []) (.refl _ _) (Own.nil _ _ _ _) (fun k hk=>hk.elim)) ?_
  refine bd (fun w m=>Mem.uP (X:=[_]) (m.perm (ao [4] _ [_] _ rfl))) ?_
  refine bd (fun w m=>Mem.uP (X:=[_]) (m.perm (ao [4] _ [_] _ rfl))) ?_
  refine bd (fun w m=>m.bw 1 rfl (show _=aE g 177 (lJ (st.synced g1))from rfl)) ?_
  refine bd (X' :=dI (rowsOf (st.synced g1))::_) (fun w m=>(m.perm (ao [4] _ [_] _ rfl)).yp (oh)) ?_
  refine bd (X' :=bG g (st.synced g1)::_) (fun w m=>(m.perm (ao [1,2,2,1,0] _ [_,_,_,_,_] _ rfl)).pack) ?_
  exact bc trivial rfl rfl [0] rfl [] rfl ⟨_,_,rfl,rfl,rfl,.inr ⟨h0,rfl⟩⟩
end Go.Proofs.YtmibdabdlgmafaaGreatDoor
end
section
set_option maxRecDepth 20000
namespace Go.Proofs.YtmibdabdlgmafaaGreatDoor
open Go.Eng Go.Hx
theorem Ih(A:Option Addr)(n c:Nat)(l:List UInt8)(m:Nat)(w:World)(hr:Rd w 1 A n (aT l))(hc:n≤c)(hn:n≤140737488351232):
  Calls Tryz.prog 32 #[.slice A n c,.int .i64 (m:Int)] w fun e w' =>∃v,e= .returned v∧Go.Eng.Own w' w.heap.size 5 1 v (min n m) (aT (l.take m))∧Fr No w w' :=by
 have hl:l.length=n:=by have:=hr.1;rw[aA]at this;omega
 have hrd:Rd w 1 A (min n m) (aT (l.take m)):=by
  have:=hr.take (k:=min n m) (by omega)
  have e:(aT l).take (min n m*1)=aT (l.take m):=by
   rw[aT,aT,←List.map_take,Nat.mul_one]
   congr 1
   by_cases h:m≤n
   ·congr 1;omega
   ·rw[List.take_of_length_le (by omega),List.take_of_length_le (by omega)]
  rw[e]at this
  exact this
 refine enter (N:=14) Tryz.func32 rfl rfl (by simp) ?_
 refine bJ<|bY<|nq (ay rfl)<|bX<|bk<|bJ<|bY<|nq (ay rfl)<|bX<|bk<|bJ<|bY<|nq (ai rfl)<|nq (ai rfl)<|nq (ai rfl)<|nq (a6 rfl Tryz.underlying27)<|nq (ai rfl)<|nq (wm rfl rfl)<|nq (mT rfl rfl Tryz.underlying27 dJ (show((min n m:Nat):Int)=_ by omega) ((by omega)))<| ?_
 refine nx (pb rfl rfl Tryz.underlying27 Tryz.underlying27 (by exact .inl rfl) fh rfl (Own.nil w w.heap.size _ 1) (Src.b9 hrd) bl (by unfold maxLen;omega) (by omega) (by omega) fun v w1 ho hf hv=> ?_)
 refine nq (ay rfl)<|bX<|cE (ab (t:=4) rfl<|ab (t:=5) rfl<|ab (t:=0) rfl<|ab (t:=1) rfl<|aZ)<|bk<|iW<| ?_
 refine iY trivial rfl rfl ⟨v,rfl, ?_,hf.mono (fun _ _ e=>e.elim)⟩
 simpa using ho
def cN(n m:Int):Int:=(if n<0 then-(n+1)else n) % m
theorem dp(n m:Int)(hm:0<m):0≤cN n m∧cN n m<m:=⟨Int.emod_nonneg _ (by omega),Int.emod_lt_of_pos _ hm⟩
theorem Ax(n m:Int)(w:World)(h1:-9223372036854775808≤n)(h2:n≤9223372036854775807)(hm:0<m):
  Calls Tryz.prog 16 #[.int .i64 n,.int .i64 m] w fun e w' =>e= .returned (.int .i64 (cN n m))∧w=w' :=by
 refine enter (N:=13) Tryz.func16 rfl rfl (by simp) ?_
 refine bJ<|bY<|nq (ay rfl)<|bX<|bk<|bJ<|bJ<|bY<|nq (ai rfl)<|nq (bx rfl rfl)<|bX<|cE (ab (t:=6) rfl<|ab (t:=4) rfl<|ab (t:=0) rfl<|ab (t:=1) rfl<|aZ)<|bk<| ?_
 refine x7 rfl (fun h=> ?_) (fun h=> ?_)
 ·refine bY<|nq (ai rfl)<|nq (aO rfl rfl (bE (by omega) (by omega)))<|nq (wX rfl (bE (by omega) (by omega)))<|nq (ay rfl)<|bX<|cE (ab (t:=0) rfl<|ab (t:=6) rfl<|ab (t:=4) rfl<|ab (t:=1) rfl<|aZ)<|bk<|bJ<|bY<|nq (ai rfl)<|nq (ai rfl)<|nq (hZ rfl rfl (by omega) (by omega))<|nq (ay rfl)<|bX<|cE (ab (t:=4) rfl<|ab (t:=0) rfl<|ab (t:=6) rfl<|ab (t:=1) rfl<|aZ)<|bk<|iW<| ?_
  refine iY trivial rfl rfl ⟨?_,rfl⟩
  simp only[cN,if_pos h]
 ·refine iH<|bk<|bJ<|bY<|nq (ai rfl)<|nq (ai rfl)<|nq (hZ rfl rfl (by omega) (by omega))<|nq (ay rfl)<|bX<|cE (ab (t:=4) rfl<|ab (t:=6) rfl<|ab (t:=0) rfl<|ab (t:=1) rfl<|aZ)<|bk<|iW<| ?_
  refine iY trivial rfl rfl ⟨?_,rfl⟩
  simp only[cN,if_neg h]
theorem bytes(a:List UInt8)(w:World)(ha:a.length=32):
  Calls Tryz.prog 183 #[.agg (aT a).toArray] w fun e w' =>∃v,e= .returned v∧Go.Eng.Own w' w.heap.size 5 1 v 32 (aT a)∧Fr No w w' :=by
 refine enter (N:=16) Tryz.func183 rfl rfl (by simp) ?_
 refine bJ<|bY<| ?_
 refine nx (uj rfl fun g1 w1 hg1 hf1 hb1=> ?_)
 rw[aV]at hb1
 refine nq (ay rfl)<|bX<|bk<|bJ<|bY<|nq (ay rfl)<|bX<|bk<|bJ<|bJ<|bY<|nq (ay rfl)<|bX<|bk<|dR<| ?_
 refine vf (fun k _=>32-k) (fun k v=>[(1,.pointer (some ⟨g1,0,none⟩)),(3,v),(4,.int .i64 (k:Nat))]) (fun k v w' =>k≤32∧Go.Eng.Own w' w1.heap.size 5 1 v k (aT (a.take k))∧Fr No w1 w') 0 (.slice none 0 0) (⟨Nat.zero_le _,Own.nil w1 w1.heap.size _ 1,Fr.refl _ _⟩) (ab (t:=1) rfl<|ab (t:=3) rfl<|ab (t:=4) rfl<|aZ) (fun k v w2 ⟨hk,ho,hf⟩=> ?_)
 refine bJ<|bJ<|bY<|nq (ai rfl)<|nq (bx rfl rfl)<|bX<|cE (ab (t:=6) rfl<|ab (t:=1) rfl<|ab (t:=3) rfl<|ab (t:=4) rfl<|aZ)<|bk<| ?_
 refine x7 rfl (fun h=> ?_) (fun h=> ?_)
 ·have ga:=bO (l:=a) (i:=k) (by omega)
  refine iH<|bk<|bJ<|dR<|bY<|nq (ai rfl)<|nq (ai rfl)<|nq (bS rfl rfl Tryz.underlying53 dJ rfl (by omega))<|nq (ak rfl iV ((hb1.x5 hf).aw _ _ ga))<| ?_
  refine nx (tP Tryz.underlying27 fh rfl rfl rfl (by simp[Value.cells,B8]) (by decide) (by decide) fun g w3 hg hf3 hb3=> ?_)
  refine nx (pb rfl rfl Tryz.underlying27 Tryz.underlying27 (by exact .inl rfl) fh rfl (ho.x5 hf3) (Src.lG hb3 rfl) (bl (l:=[_])) (by unfold maxLen;omega) (by omega) (hf.eX hf3).size fun v4 w4 ho4 hf4 hv4=> ?_)
  refine nq (ay rfl)<|bX<|cE (ab (t:=3) rfl<|ab (t:=6) rfl<|ab (t:=1) rfl<|ab (t:=4) rfl<|aZ)<|jS<|bk<|bY<|nq (ai rfl)<|nq (aO rfl rfl (bE (by omega) (by omega)))<|nq (ay rfl)<|bX<|cE (ab (t:=4) rfl<|ab (t:=3) rfl<|ab (t:=6) rfl<|ab (t:=1) rfl<|aZ)<| ?_
  refine uA (k+1) v4 (ab (t:=1) rfl<|ab (t:=3) rfl<|ab (t:=4) rfl<|aZ) (⟨by omega,by rw[eK (by omega),bR];exact ho4,(hf.eX hf3).new hf4 (fun i hi=>(ho.from hi).1)⟩) (by omega)
 ·obtain rfl:k=32:=by omega
  refine lP<|cI<|cI<|dM<|bk<|bJ<|bY<|nq (ai rfl)<|nq (ay rfl)<|bX<|cE (ab (t:=2) rfl<|ab (t:=6) rfl<|ab (t:=1) rfl<|ab (t:=3) rfl<|ab (t:=4) rfl<|aZ)<|bk<|iW<| ?_
  rw[List.take_of_length_le (by omega)]at ho
  exact iY trivial rfl rfl ⟨v,rfl,ho.wide hf1.size,hf1.eX hf⟩
end Go.Proofs.YtmibdabdlgmafaaGreatDoor
end
section
namespace Go.Hx
open Go.Eng
abbrev G9(ds:List (List UInt8)):Prop:=∀d∈ds,d.length=32
end Go.Hx
end
section
set_option maxRecDepth 20000
namespace Go.Proofs.YtmibdabdlgmafaaGreatDoor
open Go.Eng Go.Hx
end Go.Proofs.YtmibdabdlgmafaaGreatDoor
end
section
set_option maxRecDepth 20000
namespace Go.Proofs.YtmibdabdlgmafaaGreatDoor
open Go.Eng Go.Hx
theorem number(n:Nat)(w:World)(hn:n<4294967296):
  Calls Tryz.prog 160 #[.int .i64 (n:Int)] w fun e w' =>∃v,e= .returned v∧Go.Eng.Own w' w.heap.size 5 1 v 4 (aT (jA n))∧Fr No w w' :=by
 refine enter (N:=21) Tryz.func160 rfl rfl (by simp) ?_
 refine bJ<|bY<|nq (ay rfl)<|bX<|bk<|bJ<|bY<|nq (ai rfl)<|nq (b8 rfl Tryz.underlying3 Tryz.underlying166 ((wQ (by omega) (by omega))))<|nq (ay rfl)<|bX<|cE (ab (t:=3) rfl<|ab (t:=2) rfl<|ab (t:=0) rfl<|aZ)<|bk<|bJ<|bY<|nq (ai rfl)<|nq (hZ rfl rfl (by omega) (by omega))<|nq (b8 rfl Tryz.underlying166 Tryz.underlying5 ((show IntKind.u8.wrap ((n:Int) % 256)=((UInt8.ofNat n).toNat:Int) by simp[IntKind.wrap,IntKind.signed,IntKind.bits])))<|nq (ai rfl)<|nq (kd rfl rfl (by omega) (by omega) (wQ (by omega) (by omega)))<|nq (hZ rfl rfl (by omega) (by omega))<|nq (b8 rfl Tryz.underlying166 Tryz.underlying5 ((show IntKind.u8.wrap ((n:Int)/256 % 256)=((UInt8.ofNat (n/256)).toNat:Int) by simp[IntKind.wrap,IntKind.signed,IntKind.bits])))<|nq (ai rfl)<|nq (kd rfl rfl (by omega) (by omega) (wQ (by omega) (by omega)))<|nq (hZ rfl rfl (by omega) (by omega))<|nq (b8 rfl Tryz.underlying166 Tryz.underlying5 ((show IntKind.u8.wrap ((n:Int)/65536 % 256)=((UInt8.ofNat (n/65536)).toNat:Int) by simp[IntKind.wrap,IntKind.signed,IntKind.bits])))<|nq (ai rfl)<|nq (kd rfl rfl (by omega) (by omega) (wQ (by omega) (by omega)))<|nq (b8 rfl Tryz.underlying166 Tryz.underlying5 ((show IntKind.u8.wrap ((n:Int)/16777216)=((UInt8.ofNat (n/16777216)).toNat:Int) by simp[IntKind.wrap,IntKind.signed,IntKind.bits])))<| ?_
 refine nx (tP Tryz.underlying27 fh rfl rfl rfl (by simp[Value.cells,B8]) (by decide) (by decide) fun g w1 hg hf1 hb1=> ?_)
 refine nq (ay rfl)<|bX<|cE (ab (t:=2) rfl<|ab (t:=3) rfl<|ab (t:=0) rfl<|aZ)<|bk<|iW<| ?_
 exact iY trivial rfl rfl ⟨_,rfl,Own.made hb1 hg (Nat.le_refl _) (by decide) rfl,hf1⟩
end Go.Proofs.YtmibdabdlgmafaaGreatDoor
end
section
set_option maxRecDepth 20000
namespace Go.Proofs.YtmibdabdlgmafaaGreatDoor
open Go.Eng Go.Hx
theorem FR{A:Option Addr}{n c:Nat}{l:List UInt8}{m:Nat}(hc:n≤c)(hn:n≤140737488351232):cf Tryz.prog 32 [.slice A n c,.int .i64 (m:Int)] [] [cz 1 A n (aT l)] (fun v_ X_ S_=>∃v,v_=v∧X_=[aI 5 1 v (min n m) (aT (l.take m))]∧S_=[]):=by
 exact lU fun mm=>Calls.mono (Ih A n c l m _ (mm.rd 0 rfl) hc hn) (fun e w' ⟨v,h,ho,hf⟩=>⟨v,v,_,_,_,_,h,⟨v,rfl,rfl,rfl⟩,ho,hf⟩)
theorem iN{n m:Int}(h1:-9223372036854775808≤n)(h2:n≤9223372036854775807)(hm:0<m):cf Tryz.prog 16 [.int .i64 n,.int .i64 m] [] [] (fun v_ X_ S_=>v_=(.int .i64 (cN n m))∧X_=[]∧S_=[]):=by
 exact jn fun mm=>Calls.mono (Ax n m _ h1 h2 hm) (fun e w' ⟨h,hw⟩=>⟨_,h,⟨rfl,rfl,rfl⟩,hw▸Fr.refl _ _⟩)
theorem yw{A:Option Addr}{n c:Nat}{l:List UInt8}(hn:n≤70368744177664):cf Tryz.prog 189 [.slice A n c] [] [cz 1 A n (aT l)] (fun v_ X_ S_=>∃v,v_=v∧X_=[aI 5 1 v (n+4) (aT (zX l))]∧S_=[]):=by
 exact lU fun m=>Calls.mono (Bc A n c l _ (m.rd 0 rfl) hn) (fun e w' ⟨v,h,ho,hf⟩=>⟨v,v,_,_,_,_,h,⟨v,rfl,rfl,rfl⟩,ho,hf⟩)
theorem BQ{n:Nat}(hn:n<4294967296):cf Tryz.prog 160 [.int .i64 (n:Int)] [] [] (fun v_ X_ S_=>∃v,v_=v∧X_=[aI 5 1 v 4 (aT (jA n))]∧S_=[]):=by
 exact lU fun m=>Calls.mono (number n _ hn) (fun e w' ⟨v,h,ho,hf⟩=>⟨v,v,_,_,_,_,h,⟨v,rfl,rfl,rfl⟩,ho,hf⟩)
end Go.Proofs.YtmibdabdlgmafaaGreatDoor
end
section
set_option maxRecDepth 20000
namespace Go.Proofs.YtmibdabdlgmafaaGreatDoor
open Go.Eng Go.Hx
def sD(l:dH):jh→dH
 | .written p r=>cC l p r
 | .renamed a c=>match bF l a with
  |none=>l
  |some r=>cC (e7 l a) c r
 | .removed p=>e7 l p
theorem D5{g:Nat}{l:dH}{a c:List UInt8}:cf Tryz.prog 337 [.agg [SV a,SV c].toArray,.map (some g)] [dC SV g (eC l)] [] (fun v_ X_ S_=>v_=(.tuple #[])∧X_=[dC SV g (eC (sD l (.renamed a c)))]∧S_=[]):=by
 refine aK (N:=21) Tryz.func337 rfl rfl (by simp) fun b=> ?_
 refine ae<|ah<| ?_
 refine hx (br rfl (fun g2=> ?_))
 refine aH (fun w m=>m.bw 0 rfl (show _=aE g2 257 [SV a,SV c]from congrArg (aE _ _) (aV _))) ?_
 rcases pP (l:=l) a with⟨h1,h2⟩|⟨r,h1,h2⟩
 ·refine ag<|aY rfl rfl<|aa<|ae<|ah<|au rfl<|hy (fun _=>ax rfl sc (by decide))<|hy (fun m=>ak rfl lO (ar (m.aN 0 rfl) (i:=0) rfl))<|hy (fun m=>yV (gn (enc:=SV) rfl rfl Tryz.underlying174 ku (kA Tryz.underlying9) (m.mr 1 rfl)) ((show ff true (.slice none 0 0) (bF (eC l) a)= .tuple #[.slice none 0 0,.bool false] by rw[h2];rfl)))<|au rfl<|hy (fun _=>aF rfl rfl)<|hy (fun _=>aF rfl rfl)<|aG rfl<|aG rfl<|ag<|az [5,4,2,0,1] rfl<|aa<|ae<|ah<|au rfl<|ag<|aa<| ?_
  refine dm rfl (rfl) ?_
  refine aB<| ?_
  have e:sD l (.renamed a c)=l:=by rw[sD,h1]
  rw[e]
  exact fA trivial rfl [1] rfl [] rfl ⟨rfl,rfl,rfl⟩
 ·refine ag<|aa<|ae<|ah<|au rfl<|hy (fun _=>ax rfl sc (by decide))<|hy (fun m=>ak rfl lO (ar (m.aN 0 rfl) rfl))<|hy (fun m=>yV (gn (enc:=SV) rfl rfl Tryz.underlying174 ku (kA Tryz.underlying9) (m.mr 1 rfl)) ((show ff true (.slice none 0 0) (bF (eC l) a)= .tuple #[r.val,.bool true] by rw[h2];rfl)))<|au rfl<|hy (fun _=>aF rfl rfl)<|hy (fun _=>aF rfl rfl)<|aG rfl<|aG rfl<|ag<|az [5,4,2,0,1] rfl<|aa<|ae<|ah<|au rfl<|ag<|aa<| ?_
  refine fx rfl (rfl) ?_
  refine ae<|ah<|au rfl<|hy (fun _=>ax rfl sc (by decide))<|hy (fun m=>ak rfl lO (ar (m.aN 0 rfl) (i:=0) rfl))<| ?_
  refine cF (xN (enc:=SV) 1 rfl rfl rfl Tryz.underlying174 (kA Tryz.underlying9) ?_)
  refine ag<|az [13,5,4,2,0,1] rfl<|aY rfl rfl<|aa<|ah<|au rfl<|hy (fun _=>ax rfl B2 (by decide))<|hy (fun m=>ak rfl lO (ar (m.aN 1 rfl) (i:=1) rfl))<|au rfl<| ?_
  refine cF (pd (enc:=SV) 0 rfl rfl rfl rfl Tryz.underlying174 (kA Tryz.underlying9) ?_)
  refine ag<|az [13,5,4,2,0,1] rfl<|aY rfl rfl<| ?_
  have e:cC (e7 (eC l) a) c r.val=eC (sD l (.renamed a c)):=by rw[sD,h1,tB,p9]
  refine bd (fun w m=>m.bw 0 rfl (show _=dC SV g (eC (sD l (.renamed a c)))from congrArg (dC SV g) e)) ?_
  exact fA trivial rfl [0] rfl [] rfl ⟨rfl,rfl,rfl⟩
def cU.k6(st:cU)(c:jh)(A:Option Addr)(k:Nat):cU:={st.fp with seen:=sD st.seen c,waits:=st.waits++[c],wA:=A,wc:=k}
theorem nt{l:dH}{p:List UInt8}{x:bh}(h:x∈(e7 l p).map (·.2)):x∈l.map (·.2):=by
 induction l with
 |nil=>exact h
 |cons a q ih=>
  obtain⟨k,u⟩:=a
  simp only[e7]at h
  split at h
  ·exact List.mem_cons_of_mem _ h
  ·simp only[List.map_cons,List.mem_cons]at h ⊢
   rcases h with rfl|h
   ·exact .inl rfl
   ·exact .inr (ih h)
theorem AG{l:dH}{c:jh}(hc:c.row=none){x:bh}(h:x∈(sD l c).map (·.2)):x∈l.map (·.2):=by
 cases c with
 |written p r=>cases hc
 |renamed a b=>
  simp only[sD]at h
  split at h
  ·exact h
  ·rename_i r hr
   rcases nG h with h|h
   ·exact nt h
   ·exact h▸List.mem_map.2 ⟨_,ji hr,rfl⟩
 |removed p=>exact nt h
theorem BU(l:dH)(c:jh):(sD l c).length≤l.length+1:=by
 cases c with
 |written p r=>exact pK l p r
 |renamed a b=>
  simp only[sD]
  split
  ·omega
  ·rename_i r hr
   have h1:=pK (e7 l a) b r
   have h2:=ue l a
   omega
 |removed p=>have h2:=ue l p;show(e7 l p).length≤_;omega
theorem tN{st:cU}{c:jh}{A:Option Addr}{k:Nat}(hc:c.row=none):∀x∈rowsOf (st.k6 c A k),x∈rowsOf st:=by
 intro x hx
 unfold rowsOf cU.k6 at hx
 simp only[cU.fp,List.mem_append,List.filterMap_append]at hx
 unfold rowsOf
 simp only[List.mem_append]
 rcases hx with(h|h)|h|h
 ·exact .inl (.inl (AG hc h))
 ·exact .inl (.inr h)
 ·exact .inr h
 ·simp[hc]at h
theorem oT.k6{st:cU}{k:Nat}(h:oT st k){c:jh}(hc:c.row=none)(A:Option Addr)(j:Nat):oT (st.k6 c A j) (k+1):=by
 refine⟨kl h.cy,h.room, ?_, ?_,fun x hx=>h.small x (tN hc x hx)⟩
 ·have:=BU st.seen c
  have:=h.seen
  show(sD st.seen c).length≤k+1
  omega
 ·have:=h.rest
  show st.dq.length+(st.waits++[c]).length≤k+1
  simp only[List.length_append,List.length_cons,List.length_nil]
  omega
theorem HO{g:Nat}{st:cU}{a c:List UInt8}(hp:st.cy≤1000000000000)(hw:st.waits.length≤1000000):cf Tryz.prog 116 [.pointer (some ⟨g,0,none⟩),(jh.renamed a c).val] [bG g st] [] (fun v_ X_ S_=>∃A k,v_=(.tuple #[])∧X_=[bG g (st.k6 (.renamed a c) A k)]∧S_=[]):=by
 have hsw:st.fp.waits.length=st.waits.length:=rfl
 refine aK (N:=25) Tryz.func116 rfl rfl (by simp) fun b=> ?_
 refine ae<|ah<|au rfl<| ?_
 refine hx (an rfl Tryz.call181 (ux (by omega)) [0] rfl [] rfl ?_)
 rintro _ _ _ ⟨rfl,rfl,rfl⟩
 refine aH (fun w m=>(m.perm (ao [0] _ [_] _ rfl)).unpack) ?_
 refine ag<|az [0,1] rfl<|aY rfl rfl<|aa<|ae<|cA [8] [(0,some 0),(1,some 0),(2,some 0),(3,some 0),(4,some 0),(5,some 0),(6,some 0),(7,some 0),(8,none)] (by kernel_rfl) (by kernel_rfl) rfl 0<|aj (ai rfl)<|aj (ai rfl)<|aj (aL rfl)<|aj (ax rfl jC (by decide))<|bV (fun m=>ak rfl ph (ar (m.aN 0 rfl) rfl))<|aj (fD rfl rfl)<|aj (zy rfl (by kernel_rfl))<|aj (ai rfl)<| ?_
 refine dk (yG rfl rfl (fun w=>by kernel_rfl) Tryz.call337 (D5) [1] rfl [] rfl ?_)
 rintro _ _ _ ⟨rfl,rfl,rfl⟩
 refine⟨(fun h=>absurd h (by decide)), ?_⟩
 refine bp<|az [0,1] rfl<|aY rfl rfl<|aa<|ah<|au rfl<|au rfl<|hy (fun _=>aL rfl)<|hy (fun _=>ax rfl lZ (by decide))<|hy (fun m=>ak rfl CZ (ar (m.aN 1 rfl) rfl))<|au rfl<| ?_
 refine hx (b5 Tryz.underlying175 vM rfl rfl rfl (by simp[Value.cells,jh.val]) (by decide) (by decide) (fun g21=> ?_))
 have hA_b21:0<1→(some (⟨g21,0,none⟩:Addr))≠none:=fun _ h=>by cases h
 refine aH (fun w m=>m.bw 0 rfl (show _=aI 232 1 (.slice (some ⟨g21,0,none⟩) 1 1) 1 [((jh.renamed a c)).val]from rfl)) ?_
 refine hx (bC 4 rfl rfl rfl Tryz.underlying175 Tryz.underlying175 (by exact .inl rfl) vM rfl (fun m=>Src.b9 (m.ord 0 rfl)) (by simp[jh.val,Value.oneCell']) (by unfold maxLen;omega) (by omega) (fun u=> ?_))
 refine aC (fun m=>(m.own 0 rfl).slice) ?_
 rintro⟨A_d3,c_d3,rfl,hc_d3⟩
 refine aC (fun m=>(m.ord 0 rfl).2.1) fun hA_d3=> ?_
 refine hy (fun _=>aL rfl)<|hy (fun _=>ax rfl lZ (by decide))<| ?_
 refine cF (bZ 3 rfl rfl rfl zS rfl (by first|exact Nat.le_of_ble_eq_true rfl|simp) ?_)
 refine ag<|az [0,1] rfl<|aY rfl rfl<| ?_
 refine bd (fun w m=>m.bw 0 rfl (show _=aE g 177 (lJ (st.k6 ((jh.renamed a c)) A_d3 c_d3))from by simp[lJ,cU.k6,cU.fp])) ?_
 refine bd (fun w m=>m.bw 3 rfl (show _=dC SV st.gs (eC (st.k6 ((jh.renamed a c)) A_d3 c_d3).seen)from rfl)) ?_
 refine bd (fun w m=>m.bw 2 rfl (show _=aI 232 1 (.slice A_d3 (st.k6 ((jh.renamed a c)) A_d3 c_d3).waits.length c_d3) (st.k6 ((jh.renamed a c)) A_d3 c_d3).waits.length ((st.k6 ((jh.renamed a c)) A_d3 c_d3).waits.map jh.val)from by simp[cU.k6,cU.fp])) ?_
 refine bd (X' :=dI (rowsOf (st.k6 ((jh.renamed a c)) A_d3 c_d3))::_) (fun w m=>(m.perm (ao [5] _ [_] _ rfl)).yp ((tN rfl))) ?_
 refine bd (X' :=bG g (st.k6 ((jh.renamed a c)) A_d3 c_d3)::_) (fun w m=>(m.perm (ao [3,2,3,1,0] _ [_,_,_,_,_] _ rfl)).pack) ?_
 exact fA trivial rfl [0] rfl [] rfl ⟨_,_,rfl,rfl,rfl⟩
def ca(st:cU)(a c:List UInt8):Int:=if¬fQ c then 1 else er st a
theorem Bt{g:Nat}{st:cU}{a c:List UInt8}{k:Nat}(ok:oT st k)(hk:k≤100000):cf Tryz.prog 108 [.pointer (some ⟨g,0,none⟩),.string (strOf a),.string (strOf c)] [bG g st] [] (fun v_ X_ S_=>∃st1 A j,v_=(.int .i64 (ca st a c))∧X_=[bG g st1]∧S_=[]∧((ca st a c≠0∧st1=st)∨(ca st a c=0∧st1=st.k6 (.renamed a c) A j))):=by
 have hp:=ok.cy
 have hw:st.waits.length≤1000000:=by have:=ok.rest;omega
 refine aK (N:=23) Tryz.func108 rfl rfl (by simp) fun b=> ?_
 refine ae<|ah<|aG rfl<|ag<|aa<|ae<|ae<|ah<|au rfl<| ?_
 refine hx (an rfl Tryz.call115 (yK) [] rfl [] rfl ?_)
 rintro _ _ _ ⟨rfl,rfl,rfl⟩
 refine hy (fun _=>eu rfl)<|ag<|az [10,6,0,1,2] rfl<|aY rfl rfl<|aa<| ?_
 refine cu rfl (fun h1=> ?_) (fun h1=> ?_)
 ·have e:ca st a c=1:=by rw[ca,if_pos h1]
  rw[e]
  refine ae<|ah<|aG rfl<|ag<|aa<|aR<|aq<| ?_
  exact bc trivial rfl rfl [0] rfl [] rfl ⟨_,none,0,rfl,rfl,rfl,.inl ⟨by decide,rfl⟩⟩
 ·have e:ca st a c=er st a:=by rw[ca,if_neg h1]
  rw[e]
  refine aB<|aa<|ae<|ae<|ah<|au rfl<|au rfl<| ?_
  refine hx (an rfl Tryz.call158 (zT) [0] rfl [] rfl ?_)
  rintro _ _ _ ⟨rfl,rfl,rfl⟩
  refine aG rfl<|ag<|az [7,10,6,0,1,2] rfl<|aY rfl rfl<|aa<|ae<|ah<|au rfl<|hy (fun _=>de rfl rfl)<|ag<|az [15,7,10,6,0,1,2] rfl<|aa<| ?_
  refine cu rfl (fun h2=> ?_) (fun h2=> ?_)
  ·refine ae<|ah<|au rfl<|aG rfl<|ag<|az [6,15,7,10,0,1,2] rfl<|aa<|aR<|aq<| ?_
   exact bc trivial rfl rfl [0] rfl [] rfl ⟨_,none,0,rfl,rfl,rfl,.inl ⟨h2,rfl⟩⟩
  ·have h0:=Decidable.not_not.1 h2
   rw[h0]
   refine aB<|aa<|ae<|ah<|au rfl<|au rfl<|au rfl<|hy (fun _=>yV (b6 FX rfl rfl (by kernel_rfl) (.cons (o:=0) (sz:=1) (by kernel_rfl) rfl rfl (Nat.le_of_ble_eq_true rfl) (.cons (o:=1) (sz:=1) (by kernel_rfl) rfl rfl (Nat.le_of_ble_eq_true rfl) .nil))) ((rfl:_=Value.agg [SV a,SV c].toArray)))<|hy (fun _=>yV (re rfl Tryz.underlying257 (fun _ h=>by cases h)) ((rfl:_=(jh.renamed a c).val)))<| ?_
   refine hx (an rfl Tryz.call116 (HO (by omega) (by omega)) [0] rfl [] rfl ?_)
   rintro _ _ _ ⟨A,k2,rfl,rfl,rfl⟩
   refine ag<|az [15,7,10,6,0,1,2] rfl<|aY rfl rfl<|aa<|ae<|ah<|aG rfl<|ag<|aa<|aR<| ?_
   exact bc trivial rfl rfl [0] rfl [] rfl ⟨_,_,_,rfl,rfl,rfl,.inr ⟨rfl,rfl⟩⟩
end Go.Proofs.YtmibdabdlgmafaaGreatDoor
end
section
namespace Go.Eng
open Go.RowKit Go.ChangeShapes Go.WideShapes
theorem qh{zs:List Int}(h:∀n∈zs,(Lit.int .u8 n).wf=true):zs.map (Value.int .u8)=aT (zs.map fun n=>UInt8.ofNat n.toNat):=by
 rw[aT,List.map_map]
 apply List.map_congr_left
 intro n hn
 have:=bounds_u8 (h n hn)
 simp only[B8,Function.comp]
 have e:(UInt8.ofNat n.toNat).toNat=n.toNat:=by
  rw[UInt8.toNat_ofNat']
  exact Nat.mod_eq_of_lt (by omega)
 rw[e]
 congr 1
 omega
theorem vo{W:World}{x:Addr}{len cap:Nat}{zs:List Int}(hl:len≤cap)(hz:zs.length=cap)(hcell:∀i,i<zs.length→W.cell? (x.add i)=some (.int .u8 (zs.getD i 0)))(hw:∀n∈zs,(Lit.int .u8 n).wf=true):
  Rd W 1 (some x) len (aT ((zs.take len).map fun n=>UInt8.ofNat n.toNat)):=by
 rw[←qh (fun n hn=>hw n (List.mem_of_mem_take hn))]
 refine⟨by simp;omega,fun _ e=>(by cases e),fun j u hu=> ?_⟩
 have hj:=(List.getElem?_eq_some_iff.1 hu).1
 simp at hj
 have hc:=hcell j (by omega)
 rw[List.getElem?_map,List.getElem?_take,if_pos (by omega)]at hu
 rw[List.getD,List.getElem?_eq_getElem (by omega)]at hc
 rw[List.getElem?_eq_getElem (by omega)]at hu
 simp at hu hc
 rw[Option.getD_some,hc,←hu]
theorem vt{H:Type}{enc:TypeId×Value→H}{P:Program}{W:World}{t e:TypeId}{A:Option Addr}{len cap:Nat}{d:DataW H}{ps:List MemPlace}{spare:Nat→Bool}{held:Bool}
  (hu:P.underlying t=some (.slice e)) (he:P.underlying e=some (.int .u8)) (hc:P.cellsOf e=1) (h:DataW.Trod enc P W 0 spare held t (.slice A len cap) d ps):len≤cap∧∃l,Rd W 1 A len (aT l):=by
 obtain⟨fuel,hf⟩:=h
 rcases open_ints hu he hc hf with⟨hcs,_⟩|⟨x,l,c,zs,hcs,_,hl,hm,hz,_,hcell,hwz⟩
 ·simp[Value.cells]at hcs
  obtain⟨rfl,rfl,rfl⟩:=hcs
  exact⟨Nat.le_refl _,[],Rd.nil _ _ _⟩
 ·simp[Value.cells]at hcs
  obtain⟨rfl,rfl,rfl⟩:=hcs
  refine⟨hl,_,vo (cap:=zs.length) (by rw[hz];split <;> omega) rfl hcell hwz⟩
theorem tW{H:Type}{enc:TypeId×Value→H}{P:Program}{W:World}{base:Nat}{spare:Nat→Bool}{held:Bool}{t e:TypeId}{k:IntKind}{a:Option Addr}{len cap:Nat}{d:DataW H}{ps:List MemPlace}{ts:List TypeId}{ds:List (DataW H)}{j:Nat}
  (hsz:(DataW.weightsEach P ts ds).all (· ≤reachBytes)=true) (ht:ts[j]? =some t) (hd:ds[j]? =some d) (hu:P.underlying t=some (.slice e)) (he:P.underlying e=some (.int k)) (hc:P.cellsOf e=1) (hB:P.bytesOf e=1)
  (h:DataW.Trod enc P W base spare held t (.slice a len cap) d ps):len≤140737488351232:=by
 obtain⟨fuel,hf⟩:=h
 rcases open_ints hu he hc hf with⟨hcs,_⟩|⟨x,l,c,zs,hcs,_,hl,_,hz,hx,_,_⟩
 ·simp[Value.cells]at hcs
  obtain⟨rfl,rfl,rfl⟩:=hcs
  simp
 ·simp[Value.cells]at hcs
  obtain⟨rfl,rfl,rfl⟩:=hcs
  obtain⟨hx,_⟩:=Prod.mk.inj hx
  subst hx
  have z:=sized_slice hsz ht hd hu
  rw[hB,Nat.mul_one]at z
  have hl2:len≤zs.length:=by rw[hz];split <;> omega
  have h1:(lits (H:=H) k (zs.take len)).length+(lits (H:=H) k (zs.drop len)).length=zs.length:=by
   simp[lits]
   omega
  rw[h1]at z
  exact Nat.le_trans hl2 z
theorem tg{H:Type}{enc:TypeId×Value→H}{P:Program}{w:World}{base:Nat}{spare:Nat→Bool}{held:Bool}{r:Reach}{b0:Nat}{t:TypeId}{v:Value}{d:DataW H}{ps:List MemPlace}(ht:P.underlying t=some (.int .i64))(hval:Value.okWide P w r b0 t v)(hd:DataW.Trod enc P w base spare held t v d ps):
  ∃n:Int,v= .int .i64 n∧(-9223372036854775808≤n∧n≤9223372036854775807)∧ps=[]:=by
 obtain⟨n,rfl,_,rfl,hw⟩:=open_int ht hval hd
 refine⟨n,rfl, ?_,rfl⟩
 simp only[Lit.wf,IntKind.min,IntKind.max,IntKind.signed,IntKind.bits]at hw
 simp at hw
 omega
end Go.Eng
end
section
namespace Go.Eng
open Go.RowKit Go.ChangeShapes Go.WideShapes
inductive Cell
 |v (x:Value)
 |s (sz:Nat) (A:Option Addr) (n c:Nat) (xs:List Cell)
def Cell.val:Cell→Value
 | .v x=>x
 | .s _ A n c _=>.slice A n c
mutual
def Cell.db:Cell→Nat→Prop
 | .v _=>fun _=>False
 | .s _ A _ _ xs=>fun k=>(xs≠ []∧∃a,A=some a∧k=a.block)∨vS xs k
def vS:List Cell→Nat→Prop
 | []=>fun _=>False
 |x::r=>fun k=>x.db k∨vS r k
end
mutual
def Cell.holds(w:World):Cell→Prop
 | .v _=>True
 | .s sz A n c xs=>Rd w sz A n (xs.map Cell.val)∧n≤c∧gN w xs
def gN(w:World):List Cell→Prop
 | []=>True
 |x::r=>x.holds w∧gN w r
end
theorem fU{w:World}:∀{xs:List Cell},gN w xs↔∀x∈xs,x.holds w
 | []=>by simp[gN]
 |x::r=>by simp only[gN,fU (xs:=r),List.mem_cons,forall_eq_or_imp]
mutual
theorem Cell.gV{S:Nat→Prop}{w w' :World}(f:Fr S w w'):∀(c:Cell),(∀k,c.db k→¬S k)→c.holds w→c.holds w'
 | .v _,_,_=>trivial
 | .s sz A n c xs,h,hh=>by
  obtain⟨h1,h2,h3⟩:=hh
  refine⟨Rd.gV h1 f (fun k hk=>h k ?_),h2,C4 f xs (fun k hk=>h k (.inr hk)) h3⟩
  obtain⟨hne,a,ha,hk⟩:=hk
  exact .inl ⟨fun e=>hne (by rw[e];rfl),a,ha,hk⟩
theorem C4{S:Nat→Prop}{w w' :World}(f:Fr S w w'):∀(xs:List Cell),(∀k,vS xs k→¬S k)→gN w xs→gN w' xs
 | [],_,_=>trivial
 |x::r,h,hh=>⟨Cell.gV f x (fun k hk=>h k (.inl hk)) hh.1,C4 f r (fun k hk=>h k (.inr hk)) hh.2⟩
end
mutual
theorem Cell.low{w:World}:∀(c:Cell) {k:Nat},c.holds w→c.db k→k<w.heap.size
 | .v _,_,_,h=>h.elim
 | .s sz A n c xs,k,hh,hk=>by
  obtain⟨h1,h2,h3⟩:=hh
  rcases hk with⟨hne,a,ha,hk⟩|hk
  ·exact(cz sz A n (xs.map Cell.val)).low h1 ⟨fun e=>hne (List.map_eq_nil_iff.1 e),a,ha,hk⟩
  ·exact FB xs h3 hk
theorem FB{w:World}:∀(xs:List Cell) {k:Nat},gN w xs→vS xs k→k<w.heap.size
 | [],_,_,h=>h.elim
 |x::r,k,hh,hk=>by
  rcases hk with hk|hk
  ·exact Cell.low x hh.1 hk
  ·exact FB r hh.2 hk
end
def vz(c:Cell):bg:=⟨c.db,fun w=>c.holds w,fun f h x=>c.gV f h x,fun x hk=>c.low x hk⟩
theorem View.HF{sz n c:Nat}{A:Option Addr}{xs:List Cell}:View (vz (.s sz A n c xs)) (cz sz A n (xs.map Cell.val)):=
 .of (fun w h=>h.1) (fun k hk=>by
  obtain⟨hne,a,ha,hk⟩:=hk
  exact .inl ⟨fun e=>hne (by rw[e];rfl),a,ha,hk⟩)
inductive Ty(P:Program):TypeId→List Cell→Prop
 |int {t:TypeId} {k:IntKind} {z:Int} (ht:P.underlying t=some (.int k)) (hw:(Lit.int k z).wf=true):Ty P t [.v (.int k z)]
 |bool {t:TypeId} {b:Bool} (ht:P.underlying t=some .bool):Ty P t [.v (.bool b)]
 |str {t:TypeId} {s:List UInt8} (ht:P.underlying t=some .string) (hs:s.length≤140737488351232):Ty P t [.v (.string (strOf s))]
 |slice {t e:TypeId} {A:Option Addr} {n c:Nat} {xs:List Cell} (ht:P.underlying t=some (.slice e)) (hc:n≤c) (hn:n*P.bytesOf e≤140737488351232) (hl:xs.length=n*P.cellsOf e)
   (h:∀i,i<n→Ty P e ((xs.drop (i*P.cellsOf e)).take (P.cellsOf e))):Ty P t [.s (P.cellsOf e) A n c xs]
 |arr {t e:TypeId} {n:Nat} {xs:List Cell} (ht:P.underlying t=some (.array n e)) (hl:xs.length=P.cellsOf t) (h:∀i,i<n→Ty P e ((xs.drop (i*P.cellsOf e)).take (P.cellsOf e))):Ty P t xs
 |struct {t:TypeId} {fs:Array Field} {xs:List Cell} (ht:P.underlying t=some (.struct fs)) (hl:xs.length=P.cellsOf t) (h:∀(i:Nat) (f:Field),fs[i]? =some f→Ty P f.type ((xs.drop f.offset).take (P.cellsOf f.type))):Ty P t xs
def jf(P:Program):List Field→Nat→Nat→Bool
 | [],o,e=>o == e
 |f::r,o,e=>f.offset == o && jf P r (o+P.cellsOf f.type) e
def parts(P:Program):Nat→TypeId→Bool
 |0,_=>false
 |n+1,t=>match P.underlying t with
  |some (.int _)|some .bool|some .string=>true
  |some (.slice e)=>parts P n e && decide (0<P.cellsOf e)
  |some (.array m e)=>parts P n e && (P.cellsOf t == m*P.cellsOf e)
  |some (.struct fs)=>fs.toList.all (fun f=>parts P n f.type) && jf P fs.toList 0 (P.cellsOf t)
  |_=>false
section
variable{H:Type}{enc:TypeId×Value→H}{P:Program}{w:World}{base:Nat}{spare:Nat→Bool}{held:Bool}
theorem xW{b:Nat}{a:Addr}{n:Nat}{cs:List Value}(h:w.cells? b a n=some cs):cs.length=n∧∀j u,cs[j]? =some u→w.cell? (a.add j)=some u:=by
 obtain⟨hb,hl,hcell⟩:=World.cells?_some h
 refine⟨hl,fun j u hu=> ?_⟩
 have hj:j<n:=by rw[←hl];exact(List.getElem?_eq_some_iff.1 hu).1
 rw[hcell j hj,hu]
theorem im{e:TypeId}{d:DataW H}{n:Nat}:∀{ds:List (DataW H)},d∈ds→n∈d.weights P e→n∈DataW.weightsAll P e ds
 | [],h,_=>by cases h
 |a::r,h,hn=>by
  simp only[DataW.weightsAll,List.mem_append]
  rcases List.mem_cons.1 h with rfl|h
  ·exact .inl hn
  ·exact .inr (im h hn)
theorem pieces{sz:Nat}{Q:List Cell→Prop}{R:Nat→List Value→Prop}:∀(m:Nat),(∀i,i<m→∃ys:List Cell,ys.length=sz∧Q ys∧R i (ys.map Cell.val)∧gN w ys)→
  ∃xs:List Cell,xs.length=m*sz∧(∀i,i<m→Q ((xs.drop (i*sz)).take sz)∧R i (((xs.drop (i*sz)).take sz).map Cell.val))∧gN w xs
 |0,_=>⟨[],by simp,fun i hi=>absurd hi (by omega),trivial⟩
 |m+1,h=>by
  obtain⟨xs,h1,h2,h3⟩:=pieces m (fun i hi=>h i (by omega))
  obtain⟨ys,h4,h5,h6,h7⟩:=h m (by omega)
  have hlen:(m+1)*sz=m*sz+sz:=by rw[Nat.add_mul,Nat.one_mul]
  refine⟨xs++ys,by rw[List.length_append,h1,h4,hlen],fun i hi=> ?_,fU.2 fun x hx=> ?_⟩
  ·by_cases hm:i=m
   ·subst hm
    have e:((xs++ys).drop (i*sz)).take sz=ys:=by
     rw[←h1,List.drop_left,List.take_of_length_le (by omega)]
    rw[e]
    exact⟨h5,h6⟩
   ·have hi' :i<m:=by omega
    have hle:i*sz+sz≤m*sz:=by
     have:=Nat.mul_le_mul_right sz (show i+1≤m by omega)
     rwa [Nat.add_mul,Nat.one_mul]at this
    have e:((xs++ys).drop (i*sz)).take sz=(xs.drop (i*sz)).take sz:=by
     rw[List.drop_append_of_le_length (by omega),List.take_append_of_le_length (by rw[List.length_drop];omega)]
    rw[e]
    exact h2 i hi'
  ·rcases List.mem_append.1 hx with hx|hx
   ·exact fU.1 h3 x hx
   ·exact fU.1 h7 x hx
theorem nB{xs:List Value}{sz i j:Nat}(hj:j<sz):((xs.drop (i*sz)).take sz)[j]? =xs[i*sz+j]? :=by
 rw[List.getElem?_take,if_pos hj,List.getElem?_drop]
theorem mw{cs:List Value}:∀(fs:List Field) (o e:Nat),jf P fs o e=true→(∀f∈fs,∃ys:List Cell,ys.length=P.cellsOf f.type∧Ty P f.type ys∧ys.map Cell.val=(cs.drop f.offset).take (P.cellsOf f.type)∧gN w ys)→
  o≤e∧∃xs:List Cell,xs.length=e-o∧xs.map Cell.val=(cs.drop o).take (e-o)∧gN w xs∧∀f∈fs,o≤f.offset∧Ty P f.type ((xs.drop (f.offset-o)).take (P.cellsOf f.type))
 | [],o,e,hc,_=>by
  have:o=e:=by simpa[jf]using hc
  subst this
  exact⟨Nat.le_refl _,[],by simp,by simp,trivial,by simp⟩
 |f::r,o,e,hc,h=>by
  simp only[jf,Bool.and_eq_true,beq_iff_eq]at hc
  obtain⟨h0,hc⟩:=hc
  obtain⟨hle,xs,h1,h2,h3,h4⟩:=mw r _ e hc (fun g hg=>h g (List.mem_cons_of_mem _ hg))
  obtain⟨ys,h5,h6,h7,h8⟩:=h f (List.mem_cons_self ..)
  rw[h0]at h7
  refine⟨by omega,ys++xs,by rw[List.length_append,h1,h5];omega, ?_,fU.2 fun x hx=> ?_,fun g hg=> ?_⟩
  ·rw[List.map_append,h7,h2,←List.drop_drop,show e-o=P.cellsOf f.type+(e-(o+P.cellsOf f.type)) by omega,List.take_add]
  ·rcases List.mem_append.1 hx with hx|hx
   ·exact fU.1 h8 x hx
   ·exact fU.1 h3 x hx
  ·rcases List.mem_cons.1 hg with rfl|hg
   ·refine⟨by omega, ?_⟩
    rw[h0,Nat.sub_self,List.drop_zero,←h5,List.take_left]
    exact h6
   ·obtain⟨h9,h10⟩:=h4 g hg
    refine⟨by omega, ?_⟩
    have e1:(ys++xs).drop (g.offset-o)=xs.drop (g.offset-(o+P.cellsOf f.type)):=by
     rw[List.drop_append,List.drop_of_length_le (by omega),List.nil_append]
     congr 1
     omega
    rw[e1]
    exact h10
theorem j0:∀(k fuel:Nat) (t:TypeId) (cs:List Value) (x:DataW H×List MemPlace),parts P k t=true→DataW.trod enc P w 0 spare held fuel t cs=some x→(∀q∈DataW.weights P t x.1,q≤140737488351232)→∃xs:List Cell,xs.map Cell.val=cs∧gN w xs∧Ty P t xs
 |0,fuel,t,cs,x,hp,_,_=>by simp[parts]at hp
 |k+1,fuel,t,cs,x,hp,h,hw=>by
  unfold parts at hp
  split at hp
  ·rename_i q ht
   obtain⟨z,rfl,_,hz⟩:=DataW.trod_int ht h
   exact⟨[.v (.int q z)],rfl,⟨trivial,trivial⟩,.int ht hz⟩
  ·rename_i ht
   obtain⟨b,rfl,_⟩:=DataW.trod_bool ht h
   exact⟨[.v (.bool b)],rfl,⟨trivial,trivial⟩,.bool ht⟩
  ·rename_i ht
   obtain⟨s,rfl,hx,_⟩:=DataW.trod_string ht h
   have h1:=hw s.data.toList.length (by rw[hx];simp[DataW.weights])
   exact⟨[.v (.string s)],rfl,⟨trivial,trivial⟩,.str (s:=bytesOf s) ht h1⟩
  ·rename_i e ht
   simp only[Bool.and_eq_true,decide_eq_true_eq]at hp
   rcases DataW.trod_slice ht h with⟨rfl,rfl⟩|⟨a,len,cap,elems,rest,m,_,rfl,hx,hb,hl,hm,hlen,hel,_,_⟩
   ·exact⟨[.s (P.cellsOf e) none 0 0 []],rfl,⟨⟨Rd.nil _ _ _,Nat.le_refl _,trivial⟩,trivial⟩,.slice ht (Nat.le_refl _) (by simp) (by simp) (fun i hi=>absurd hi (by omega))⟩
   ·have hwe:∀d∈elems.map (·.1),∀q∈DataW.weights P e d,q≤140737488351232:=fun d hd q hq=>hw q (by
     rw[hx]
     simp only[DataW.weights,ht,List.mem_cons,List.mem_append]
     exact .inr (.inl (im hd hq)))
    obtain⟨xs,h1,h2,h3⟩:=pieces (w:=w) (sz:=P.cellsOf e) (Q:=Ty P e) (R:=fun i vs=>∀j u,vs[j]? =some u→w.cell? (a.add (i*P.cellsOf e+j))=some u) len (fun i hi=>by
     have h1:=hel i hi
     rw[List.getElem?_eq_getElem (by omega)]at h1
     obtain⟨c,hc1,hc2⟩:=Option.bind_eq_some_iff.1 h1
     obtain⟨hcl,hcc⟩:=xW hc1
     obtain⟨ys,h4,h5,h6⟩:=j0 k _ e c _ hp.1 hc2 (fun q hq=>hwe _ (List.mem_map.2 ⟨_,List.getElem_mem _,rfl⟩) q hq)
     refine⟨ys,by rw[←hcl,←h4,List.length_map],h6,fun j u hu=> ?_,h5⟩
     rw[h4]at hu
     have:=hcc j u hu
     rwa [add_add]at this)
    have hR:Rd w (P.cellsOf e) (some a) len (xs.map Cell.val):=⟨by rw[List.length_map,h1],fun _ e=>(by cases e),fun q u hu=>by
     have hq:q<len*P.cellsOf e:=by
      have:=(List.getElem?_eq_some_iff.1 hu).1
      rwa [List.length_map,h1]at this
     have hd:q/P.cellsOf e<len:=(Nat.div_lt_iff_lt_mul hp.2).2 hq
     have hmod:=Nat.mod_lt q hp.2
     have hqe:q/P.cellsOf e*P.cellsOf e+q % P.cellsOf e=q:=by
      have:=Nat.div_add_mod q (P.cellsOf e)
      rw[Nat.mul_comm]at this
      exact this
     have:=(h2 _ hd).2 (q % P.cellsOf e) u (by rw[List.map_take,List.map_drop,nB hmod,hqe];exact hu)
     rw[hqe]at this
     simpa using this⟩
    have hn:len*P.bytesOf e≤140737488351232:=by
     have:=hw ((elems.length+rest.length)*P.bytesOf e) (by rw[hx];simp[DataW.weights,ht])
     rw[hlen,Nat.add_mul]at this
     omega
    exact⟨[.s (P.cellsOf e) (some a) len cap xs],rfl,⟨⟨hR,hl,h3⟩,trivial⟩,.slice ht hl hn h1 (fun i hi=>(h2 i hi).1)⟩
  ·rename_i m e ht
   simp only[Bool.and_eq_true,beq_iff_eq]at hp
   obtain⟨ys,n,_,hx,hlen,hyl,hel⟩:=DataW.trod_array ht h
   have hwe:∀d∈ys.map (·.1),∀q∈DataW.weights P e d,q≤140737488351232:=fun d hd q hq=>hw q (by
    rw[hx]
    simp only[DataW.weights,ht]
    exact im hd hq)
   obtain⟨xs,h1,h2,h3⟩:=pieces (w:=w) (sz:=P.cellsOf e) (Q:=Ty P e) (R:=fun i vs=>vs=(cs.drop (i*P.cellsOf e)).take (P.cellsOf e)) m (fun i hi=>by
    have h1:=hel i hi
    rw[List.getElem?_eq_getElem (by omega)]at h1
    obtain⟨zs,h4,h5,h6⟩:=j0 k _ e _ _ hp.1 h1 (fun q hq=>hwe _ (List.mem_map.2 ⟨_,List.getElem_mem _,rfl⟩) q hq)
    refine⟨zs, ?_,h6,h4,h5⟩
    have:=congrArg List.length h4
    rw[List.length_map,List.length_take,List.length_drop,hlen,hp.2]at this
    have hle:i*P.cellsOf e+P.cellsOf e≤m*P.cellsOf e:=by
     have:=Nat.mul_le_mul_right (P.cellsOf e) (show i+1≤m by omega)
     rwa [Nat.add_mul,Nat.one_mul]at this
    omega)
   refine⟨xs, ?_,h3,.arr ht (by rw[h1,hp.2]) (fun i hi=>(h2 i hi).1)⟩
   apply List.ext_getElem?
   intro q
   by_cases hq:q<m*P.cellsOf e
   ·have hpos:0<P.cellsOf e:=by
     rcases Nat.eq_zero_or_pos (P.cellsOf e)with h0|h0
     ·rw[h0,Nat.mul_zero]at hq;omega
     ·exact h0
    have hd:q/P.cellsOf e<m:=(Nat.div_lt_iff_lt_mul hpos).2 hq
    have hmod:=Nat.mod_lt q hpos
    have hqe:q/P.cellsOf e*P.cellsOf e+q % P.cellsOf e=q:=by
     have:=Nat.div_add_mod q (P.cellsOf e)
     rw[Nat.mul_comm]at this
     exact this
    have h4:=congrArg (fun l:List Value=>l[q % P.cellsOf e]?) (h2 _ hd).2
    simp only[List.map_take,List.map_drop]at h4
    rwa [nB hmod,nB hmod,hqe]at h4
   ·rw[List.getElem?_eq_none (by rw[List.length_map,h1];omega),List.getElem?_eq_none (by rw[hlen,hp.2];omega)]
  ·rename_i fs ht
   simp only[Bool.and_eq_true,List.all_eq_true]at hp
   obtain⟨ys,n,_,hx,hlen,hyl,hel⟩:=DataW.trod_struct ht h
   have hw2:∀(i:Nat) (f:Field) (d:DataW H),fs[i]? =some f→(ys.map (·.1))[i]? =some d→∀q∈DataW.weights P f.type d,q≤140737488351232:=fun i f d hf hd q hq=>hw q (by
    rw[hx]
    simp only[DataW.weights,ht]
    exact DataW.weights_mem_each (j:=i) (t:=f.type) (d:=d) (by simp[hf]) hd q hq)
   obtain⟨_,xs,h1,h2,h3,h4⟩:=mw (P:=P) (w:=w) (cs:=cs) fs.toList 0 (P.cellsOf t) hp.2 (fun f hf=>by
    obtain⟨i,hi⟩:=List.mem_iff_getElem?.1 hf
    have hi' :fs[i]? =some f:=by simpa using hi
    have h1:=hel i f hi'
    have hlt:i<ys.length:=by
     rw[hyl]
     exact(Array.getElem?_eq_some_iff.1 hi').1
    rw[List.getElem?_eq_getElem hlt]at h1
    obtain⟨zs,h5,h6,h7⟩:=j0 k _ f.type _ _ (hp.1 f hf) h1 (fun q hq=>hw2 i f _ hi' (by rw[List.getElem?_map,List.getElem?_eq_getElem hlt];rfl) q hq)
    have hz:zs.length=P.cellsOf f.type:=by
     have hz:=congrArg List.length h5
     rw[List.length_map,List.length_take,List.length_drop,hlen]at hz
     have hin:∀(l:List Field) (o e:Nat),jf P l o e=true→f∈l→f.offset+P.cellsOf f.type≤e∧o≤e:=by
      intro l
      induction l with
      |nil=>intro o e _ hm;cases hm
      |cons g r ih=>
       intro o e hc hm
       simp only[jf,Bool.and_eq_true,beq_iff_eq]at hc
       have hge:∀(l:List Field) (o e:Nat),jf P l o e=true→o≤e:=by
        intro l
        induction l with
        |nil=>intro o e hc;simp[jf]at hc;omega
        |cons g r ih=>intro o e hc;simp only[jf,Bool.and_eq_true,beq_iff_eq]at hc;have:=ih _ _ hc.2;omega
       rcases List.mem_cons.1 hm with rfl|hm
       ·have:=hge _ _ _ hc.2
        omega
       ·have:=ih _ _ hc.2 hm
        omega
     have:=hin _ _ _ hp.2 hf
     omega
    exact⟨zs,hz,h7,h5,h6⟩)
   refine⟨xs, ?_,h3,.struct ht (by rw[h1];omega) (fun i f hf=> ?_)⟩
   ·rw[h2,List.drop_zero,Nat.sub_zero,←hlen,List.take_length]
   ·have:=(h4 f (by rw[Array.mem_toList_iff];exact Array.mem_of_getElem? hf)).2
    rwa [Nat.sub_zero]at this
  ·cases hp
end
section
variable{P:Program}{t e:TypeId}{xs:List Cell}
theorem DJ{k:IntKind}(ht:P.underlying t=some (.int k))(h:Ty P t xs):∃z,xs=[.v (.int k z)]∧(Lit.int k z).wf=true:=by
 cases h with
 |int ht' hw=>rw[ht]at ht';cases ht';exact⟨_,rfl,hw⟩
 |bool ht' =>rw[ht]at ht';cases ht'
 |str ht' =>rw[ht]at ht';cases ht'
 |slice ht' =>rw[ht]at ht';cases ht'
 |arr ht' =>rw[ht]at ht';cases ht'
 |struct ht' =>rw[ht]at ht';cases ht'
theorem sk(ht:P.underlying t=some (.int .i64))(h:Ty P t xs):∃z,xs=[.v (.int .i64 z)]∧-9223372036854775808≤z∧z≤9223372036854775807:=by
 obtain⟨z,rfl,hw⟩:=DJ ht h
 refine⟨z,rfl, ?_⟩
 simp only[Lit.wf,IntKind.min,IntKind.max,IntKind.signed,IntKind.bits]at hw
 simp at hw
 omega
theorem tI(ht:P.underlying t=some (.slice e))(h:Ty P t xs):∃A n c ys,xs=[.s (P.cellsOf e) A n c ys]∧n≤c∧n*P.bytesOf e≤140737488351232∧ys.length=n*P.cellsOf e∧∀i,i<n→Ty P e ((ys.drop (i*P.cellsOf e)).take (P.cellsOf e)):=by
 cases h with
 |int ht' =>rw[ht]at ht';cases ht'
 |bool ht' =>rw[ht]at ht';cases ht'
 |str ht' =>rw[ht]at ht';cases ht'
 |slice ht' hc hn hl h=>rw[ht]at ht';cases ht';exact⟨_,_,_,_,rfl,hc,hn,hl,h⟩
 |arr ht' =>rw[ht]at ht';cases ht'
 |struct ht' =>rw[ht]at ht';cases ht'
theorem xJ{fs:Array Field}(ht:P.underlying t=some (.struct fs))(h:Ty P t xs):xs.length=P.cellsOf t∧∀(i:Nat) (f:Field),fs[i]? =some f→Ty P f.type ((xs.drop f.offset).take (P.cellsOf f.type)):=by
 cases h with
 |int ht' =>rw[ht]at ht';cases ht'
 |bool ht' =>rw[ht]at ht';cases ht'
 |str ht' =>rw[ht]at ht';cases ht'
 |slice ht' =>rw[ht]at ht';cases ht'
 |arr ht' =>rw[ht]at ht';cases ht'
 |struct ht' hl h=>rw[ht]at ht';cases ht';exact⟨hl,h⟩
end
theorem fF{w:World}{sz n i o:Nat}{A:Option Addr}{xs:List Value}{u:Value}(h:Rd w sz A n xs)(hu:xs[i*sz+o]? =some u):w.cell? (((A.getD d0).add (i*sz)).add o)=some u:=by
 rw[add_add]
 exact h.cell hu
theorem View.rowOf{sz n c:Nat}{A:Option Addr}{xs:List Cell}{vs:List Value}(h:xs.map Cell.val=vs):View (vz (.s sz A n c xs)) (cz sz A n vs):=h▸View.HF
section
variable{H:Type}{enc:TypeId×Value→H}{P:Program}{W:World}{spare:Nat→Bool}{held:Bool}{tss:List TypeId}{dss:List (DataW H)}
theorem qc{t:TypeId}{v:Value}{d:DataW H}{ps:List MemPlace}{j:Nat}(k:Nat)(hp:parts P k t=true)(h:DataW.Trod enc P W 0 spare held t v d ps)(hsz:(DataW.weightsEach P tss dss).all (· ≤reachBytes)=true)(hjt:tss[j]? =some t)(hjd:dss[j]? =some d):
  ∃xs:List Cell,xs.map Cell.val=v.cells.toList∧gN W xs∧Ty P t xs:=by
 obtain⟨fuel,hf⟩:=h
 refine j0 k fuel t _ _ hp hf (fun q hq=> ?_)
 have:=List.all_eq_true.1 hsz q (DataW.weights_mem_each hjt hjd q hq)
 have hr:reachBytes=140737488351232:=rfl
 simp at this
 omega
theorem Bg{t e:TypeId}{A:Option Addr}{n c:Nat}{d:DataW H}{ps:List MemPlace}{j:Nat}(k:Nat)(hp:parts P k t=true)(ht:P.underlying t=some (.slice e))(h:DataW.Trod enc P W 0 spare held t (.slice A n c) d ps)(hsz:(DataW.weightsEach P tss dss).all (· ≤reachBytes)=true)(hjt:tss[j]? =some t)(hjd:dss[j]? =some d):
  ∃ys:List Cell,(vz (.s (P.cellsOf e) A n c ys)).holds W∧Ty P t [.s (P.cellsOf e) A n c ys]:=by
 obtain⟨xs,h1,h2,h3⟩:=qc k hp h hsz hjt hjd
 obtain⟨A',n',c',ys,rfl,_⟩:=tI ht h3
 have e1:[Cell.val (.s (P.cellsOf e) A' n' c' ys)]=[Value.slice A n c]:=h1
 simp only[Cell.val,List.cons.injEq,Value.slice.injEq,and_true]at e1
 obtain⟨rfl,rfl,rfl⟩:=e1
 exact⟨ys,h2.1,h3⟩
end
end Go.Eng
end
section
namespace Go.Eng
open Go.RowKit Go.ChangeShapes Go.WideShapes
section
variable{H:Type}{enc:TypeId×Value→H}{P:Program}{W:World}{spare:Nat→Bool}{held:Bool}{tss:List TypeId}{dss:List (DataW H)}
theorem Ay{r:Reach}{b0:Nat}{t:TypeId}{fs:Array Field}{v:Value}{d:DataW H}{ps:List MemPlace}{j:Nat}(k:Nat)(hp:parts P k t=true)(ht:P.underlying t=some (.struct fs))(hval:Value.okWide P W r b0 t v)(h:DataW.Trod enc P W 0 spare held t v d ps)(hsz:(DataW.weightsEach P tss dss).all (· ≤reachBytes)=true)(hjt:tss[j]? =some t)(hjd:dss[j]? =some d):
  ∃xs:List Cell,v= .agg (xs.map Cell.val).toArray∧gN W xs∧Ty P t xs:=by
 obtain⟨xs,h1,h2,h3⟩:=qc k hp h hsz hjt hjd
 simp only[Value.okWide,ht]at hval
 obtain⟨cs,rfl,_,_⟩:=hval
 refine⟨xs, ?_,h2,h3⟩
 congr 1
 apply Array.toList_inj.1
 simpa[Value.cells]using h1.symm
end
end Go.Eng
end
section
set_option maxRecDepth 20000
namespace Go.Proofs.YtmibdabdlgmafaaGreatDoor
open Go.Eng Go.Hx
def j6(x:UInt32):UInt32:=x*2+x/2147483648
def lD(x:UInt32):Nat→UInt32
 |0=>x
 |k+1=>j6 (lD x k)
def C2(x:UInt32):UInt32:=
 let a:=x ^^^ (x*8192)
 let b:=a ^^^ (a/131072)
 b ^^^ (b*32)
def yH:Nat→UInt32
 |0=>2654435769
 |k+1=>C2 (yH k)
def l7(i:Nat):List UInt32:=(List.range i).map fun k=>yH (k+1)
theorem rp(i:Nat):(l7 i).length=i:=by simp[l7]
theorem qb(i:Nat):l7 (i+1)=l7 i++[yH (i+1)]:=by simp[l7,List.range_succ]
def bu:List UInt32:=l7 256
theorem bs:bu.length=256:=rp 256
def fN(w:List UInt32)(b:List UInt8):Nat→Nat→UInt32
 |_,0=>0
 |i,k+1=>fN w b i k ^^^ lD (w.getD (b.getD (i+k) 0).toNat 0) (b.length-1-(i+k))
def eh(w:List UInt32)(b:List UInt8):UInt32:=fN w b (b.length-16) (b.length-(b.length-16))
theorem Gd{x:UInt32}{n:Nat}(hn:n≤1000000):cf Tryz.prog 245 [Wd x,.int .i64 (n:Int)] [] [] (fun v_ X_ S_=>v_=(Wd (lD x n))∧X_=[]∧S_=[]):=by
 refine aK (N:=17) Tryz.func245 rfl rfl (by simp) fun b=> ?_
 refine ae<|ah<|aG rfl<|ag<|aa<|ae<|ae<|ah<|aG rfl<|ag<|aa<|aM<| ?_
 refine dD (fun i=>n-i) (fun i=>[(5,.int .i64 (i:Nat)),(0,Wd (lD x i))]) (fun i=>[]) (fun i=>[]) (fun i=>i≤n) 0 [(4,_),(1,_)] ⟨rfl,rfl,trivial⟩ [] rfl [] rfl (Nat.zero_le _) ⟨rfl,rfl,trivial⟩ (fun i hi=> ?_)
 refine ae<|ae<|ah<|au rfl<|au rfl<|hy (fun _=>bx rfl rfl)<|ag<|az [8,5,0,4,1] rfl<|aa<| ?_
 refine cu rfl (fun hlt=> ?_) (fun hlt=> ?_)
 ·refine aB<|aa<|ae<|aM<|ah<|au rfl<|hy (fun _=>lC (b:=2) rfl rfl)<|au rfl<|hy (fun _=>nb (b:=2147483648) (by decide) rfl rfl)<|hy (fun _=>c9 rfl rfl)<|aG rfl<|ag<|az [0,8,5,4,1] rfl<|aW<|aa<|ah<|au rfl<|hy (fun _=>aO rfl rfl (bE (by omega) (by omega)))<|aG rfl<|ag<|az [5,0,8,4,1] rfl<| ?_
  refine cH (i+1) ⟨rfl,rfl,rfl,rfl,trivial⟩ [] rfl [] rfl (by omega) (by omega)
 ·obtain rfl:i=n:=by omega
  refine bH<|al<|al<|aD<|aa<|ae<|ah<|au rfl<|aG rfl<|ag<|az [4,8,5,0,1] rfl<|aa<|aR<| ?_
  exact bc trivial rfl rfl [] rfl [] rfl ⟨rfl,rfl,rfl⟩
theorem B3:cf Tryz.prog 136 [] [] [] (fun v_ X_ S_=>∃A c,v_=(.slice A 256 c)∧X_=[aI 166 1 (.slice A 256 c) 256 (dL bu)]∧S_=[]):=by
 refine aK (N:=25) Tryz.func136 rfl rfl (by simp) fun b=> ?_
 refine ae<|ah<|aG rfl<|ag<|aa<|ae<|ah<|aG rfl<|ag<|aa<|ae<|ah<|aG rfl<|ag<|aa<|ae<|ae<|ah<|aG rfl<|ag<|aa<|aM<| ?_
 refine a8 (fun w m=>m.cL (r' :=aI 166 1 (.slice none 0 0) 0 []) (.refl _ _) (Own.nil _ _ _ _) (fun k hk=>hk.elim)) ?_
 refine gh (fun i A1 c1=>256-i) (fun i A1 c1=>[(1,.slice A1 i c1),(2,Wd (yH i)),(3,.int .i64 (i:Nat))]) (fun i A1 c1=>[aI 166 1 (.slice A1 i c1) i (dL (l7 i))]) (fun i A1 c1=>[]) (fun i A1 c1=>i≤256) 0 none 0 [(0,_)] ⟨rfl,trivial⟩ [0] rfl [] rfl (Nat.zero_le _) ⟨rfl,rfl,rfl,trivial⟩ (fun i A1 c1 hi=> ?_)
 refine ae<|ae<|ah<|au rfl<|hy (fun _=>bx rfl rfl)<|ag<|az [5,1,2,3,0] rfl<|aa<| ?_
 refine cu rfl (fun hlt=> ?_) (fun hlt=> ?_)
 ·refine aB<|aa<|ae<|aM<|ae<|ah<|au rfl<|au rfl<|hy (fun _=>lC (b:=8192) rfl rfl)<|hy (fun _=>cW rfl rfl)<|aG rfl<|ag<|az [2,5,1,3,0] rfl<|aa<|ae<|ah<|au rfl<|au rfl<|hy (fun _=>nb (b:=131072) (by decide) rfl rfl)<|hy (fun _=>cW rfl rfl)<|aG rfl<|ag<|az [2,5,1,3,0] rfl<|aa<|ae<|ah<|au rfl<|au rfl<|hy (fun _=>lC (b:=32) rfl rfl)<|hy (fun _=>cW rfl rfl)<|aG rfl<|ag<|az [2,5,1,3,0] rfl<|aa<|ah<|au rfl<|au rfl<| ?_
  refine hx (b5 Tryz.underlying215 k7 rfl rfl rfl (by simp[Value.cells,B8]) (by decide) (by decide) (fun g22=> ?_))
  have hA_b22:0<1→(some (⟨g22,0,none⟩:Addr))≠none:=fun _ h=>by cases h
  refine aH (fun w m=>m.bw 0 rfl (show _=aI 166 1 (.slice (some ⟨g22,0,none⟩) 1 1) 1 (dL [yH (i+1)])from(by rw[show yH (i+1)=C2 (yH i)from rfl];rfl))) ?_
  refine hx (bC 1 rfl rfl rfl Tryz.underlying215 Tryz.underlying215 (by exact .inl rfl) k7 rfl (fun m=>Src.b9 (m.ord 0 rfl)) gy (by unfold maxLen;omega) (by omega) (fun u=> ?_))
  refine aC (fun m=>(m.own 0 rfl).slice) ?_
  rintro⟨A_o,c_o,rfl,hc_o⟩
  refine aC (fun m=>(m.ord 0 rfl).2.1) fun hA_o=> ?_
  refine aH (fun w m=>m.bw 0 rfl (show _=aI 166 1 (.slice A_o (i+1) c_o) (i+1) (dL (l7 (i+1)))from congrArg (aI _ _ _ _) (by rw[qb,ly]))) ?_
  refine aG rfl<|ag<|az [1,2,5,3,0] rfl<|aY rfl rfl<|aW<|aa<|ah<|au rfl<|hy (fun _=>aO rfl rfl (bE (by omega) (by omega)))<|aG rfl<|ag<|az [3,1,2,5,0] rfl<| ?_
  refine gj (i+1) A_o c_o ⟨rfl,rfl,rfl,rfl,trivial⟩ [0] rfl [] rfl (by omega) (by omega)
 ·obtain rfl:i=256:=by omega
  refine bH<|al<|al<|aD<|aa<|ae<|ah<|au rfl<|aG rfl<|ag<|az [0,5,1,2,3] rfl<|aa<|aR<| ?_
  exact bc trivial rfl rfl [0] rfl [] rfl ⟨_,_,rfl,rfl,rfl⟩
theorem xa{A B:Option Addr}{c n k:Nat}{w:List UInt32}{l:List UInt8}(hw:w.length=256)(hl:l.length=n)(hn:n≤1000000):cf Tryz.prog 201 [.slice A 256 c,.slice B n k] [] [cz 1 A 256 (dL w),cz 1 B n (aT l)] (fun v_ X_ S_=>v_=(Wd (eh w l))∧X_=[]∧S_=[]):=by
 refine aK (N:=35) Tryz.func201 rfl rfl (by simp) fun b=> ?_
 refine aQ (fun m=>eU (m.rd 0 rfl)) ?_
 rintro⟨hl_rw,hA_rw⟩
 refine aQ (fun m=>ek (m.rd 1 rfl)) ?_
 rintro⟨hl_rb,hA_rb⟩
 refine ae<|ah<|aG rfl<|ag<|aa<|ae<|ah<|aG rfl<|ag<|aa<|ae<|ah<|au rfl<|hy (fun _=>a6 rfl Tryz.underlying27)<|hy (fun _=>ct rfl rfl (bE (by omega) (by omega)))<|hy (fun _=>yV (Gj rfl rfl) ((show Value.int .i64 (max ((n:Int)-16) 0)= .int .i64 ((n-16:Nat):Int)from by congr 1;omega)))<|aG rfl<|ag<|az [6,5,4,0,1] rfl<|aa<|ae<|ae<|ah<|au rfl<|aG rfl<|ag<|az [7,6,5,4,0,1] rfl<|aa<|aM<| ?_
 refine dD (fun k2=>n-(n-16)-k2) (fun k2=>[(7,.int .i64 ((n-16+k2:Nat):Int)),(5,Wd (fN w l (n-16) k2))]) (fun k2=>[]) (fun k2=>[]) (fun k2=>n-16+k2≤n) 0 [(6,_),(4,_),(0,_),(1,_)] ⟨rfl,rfl,rfl,rfl,trivial⟩ [] rfl [] rfl (by omega) ⟨rfl,rfl,trivial⟩ (fun k2 hk=> ?_)
 refine ae<|ae<|ah<|au rfl<|au rfl<|hy (fun _=>a6 rfl Tryz.underlying27)<|hy (fun _=>bx rfl rfl)<|ag<|az [16,7,5,6,4,0,1] rfl<|aa<| ?_
 refine cu rfl (fun hlt=> ?_) (fun hlt=> ?_)
 ·have h8:=UInt8.toNat_lt (l.getD (n-16+k2) 0)
  refine aB<|aa<|ae<|aM<|ah<|au rfl<|au rfl<|au rfl<|au rfl<|hy (fun _=>aS rfl rfl Tryz.underlying27 dJ hA_rb rfl (by omega))<|hy (fun m=>ak rfl iV ((m.rd 1 rfl).cell (bO (by omega))))<|hy (fun _=>aS rfl rfl Tryz.underlying215 bB hA_rw rfl (by omega))<|hy (fun m=>ak rfl bM ((m.rd 0 rfl).cell (bo (by omega))))<|au rfl<|hy (fun _=>a6 rfl Tryz.underlying27)<|hy (fun _=>ct rfl rfl (bE (by omega) (by omega)))<|au rfl<|hy (fun _=>yV (ct rfl rfl (bE (by omega) (by omega))) ((show Value.int .i64 ((n:Int)-1-((n-16+k2:Nat):Int))= .int .i64 ((l.length-1-(n-16+k2):Nat):Int)from by congr 1;omega)))<| ?_
  refine hx (an rfl Tryz.call245 (Gd (by omega)) [] rfl [] rfl ?_)
  rintro _ _ _ ⟨rfl,rfl,rfl⟩
  refine hy (fun _=>cW rfl rfl)<|aG rfl<|ag<|az [5,16,7,6,4,0,1] rfl<|aY rfl rfl<|aW<|aa<|ah<|au rfl<|hy (fun _=>aO rfl rfl (bE (by omega) (by omega)))<|aG rfl<|ag<|az [7,5,16,6,4,0,1] rfl<| ?_
  refine cH (k2+1) ⟨rfl,rfl,rfl,rfl,rfl,rfl,trivial⟩ [] rfl [0,1] rfl (by omega) (by omega)
 ·have hk2:k2=l.length-(l.length-16):=by omega
  subst hk2
  subst hl
  refine bH<|al<|al<|aD<|aa<|ae<|ah<|au rfl<|aG rfl<|ag<|az [4,16,7,5,6,0,1] rfl<|aa<|aR<| ?_
  exact bc trivial rfl rfl [] rfl [] rfl ⟨rfl,rfl,rfl⟩
end Go.Proofs.YtmibdabdlgmafaaGreatDoor
end
section
set_option maxRecDepth 20000
namespace Go.Proofs.YtmibdabdlgmafaaGreatDoor
open Go.Eng Go.Hx
theorem DY{n:Nat}(hn:n<32):IntKind.u64.wrap (n:Int)=(n:Int):=by
 simp[IntKind.wrap,IntKind.signed,IntKind.bits]
 omega
theorem xd{n:Nat}(hn:n<32):bits .and .u64 (n:Int) 31=(n:Int):=by
 have h:=u64_and_nat n 31 (by omega) (by decide)
 rw[show((31:Nat):Int)=31 from rfl]at h
 rw[h,show(31:Nat)=2 ^ 5-1 from rfl,Nat.and_two_pow_sub_one_eq_mod]
 congr 1
 show n % 32=n
 omega
theorem Dh{x:UInt32}{n:Nat}(h0:0<n)(hn:n<32):cf Tryz.prog 296 [Wd x,.int .i64 (n:Int)] [] [] (fun v_ X_ S_=>v_=(Wd (ix (32-n) x))∧X_=[]∧S_=[]):=by
 refine aK (N:=17) Tryz.func296 rfl rfl (by simp) fun b=> ?_
 have hs:IntKind.u64.wrap (32-(n:Int))=((32-n:Nat):Int):=by
  rw[show(32:Int)-(n:Int)=((32-n:Nat):Int) by omega]
  simp[IntKind.wrap,IntKind.signed,IntKind.bits]
  omega
 have hr:=rX (x:=x) (n:=32-n) (by omega) (by omega)
 rw[show 32-(32-n)=n by omega]at hr
 refine ae<|ah<|aG rfl<|ag<|aa<|ae<|ah<|au rfl<|hy (fun _=>b8 rfl Tryz.underlying3 Tryz.underlying263 (DY hn))<|hy (fun _=>gJ (by simp) rfl rfl (xd hn))<|aG rfl<|ag<|az [5,4,0,1] rfl<|aa<|ae<|ah<|au rfl<|au rfl<|hy (fun _=>(su (k:=n) (by omega) rfl rfl))<|au rfl<|au rfl<|hy (fun _=>ct rfl rfl hs)<|hy (fun _=>(uK (k:=32-n) (by omega) rfl rfl))<|hy (fun _=>yV (AB rfl rfl) ((show Wd (UInt32.ofNat (x.toNat*2 ^ n) ||| UInt32.ofNat (x.toNat/2 ^ (32-n)))=Wd (ix (32-n) x) by rw[hr])))<|aG rfl<|ag<|az [4,5,0,1] rfl<|aa<|aR<| ?_
 exact bc trivial rfl rfl [] rfl [] rfl ⟨rfl,rfl,rfl⟩
theorem A6{X a b c r p q:Nat}(hX:X=2*p*a+b)(hb:b=p*c+r)(hr:r<p)(ha:a<q)(hpq:p*q=2147483648)(hc:c<2)(hp:0<p):
  (a+b*q) % 2147483648*2+(a+b*q)/2147483648=X/p+X % p*(2*q):=by
 have h1:a+b*q=2147483648*c+(r*q+a):=by
  rw[hb,Nat.add_mul,Nat.mul_right_comm,hpq]
  omega
 have h2:r*q+a<2147483648:=by
  have:(r+1)*q≤p*q:=Nat.mul_le_mul_right q hr
  rw[Nat.add_mul,hpq]at this
  omega
 have h3:X=p*(2*a+c)+r:=by
  rw[hX,hb,Nat.mul_add,Nat.mul_assoc 2 p a,Nat.mul_left_comm 2 p a]
  omega
 have h4:X/p=2*a+c:=by
  rw[h3,Nat.mul_add_div hp,Nat.div_eq_of_lt hr]
  omega
 have h5:X % p=r:=by
  rw[h3,Nat.mul_add_mod,Nat.mod_eq_of_lt hr]
 have h6:(a+b*q) % 2147483648=r*q+a:=by rw[h1,Nat.mul_add_mod,Nat.mod_eq_of_lt h2]
 have h7:(a+b*q)/2147483648=c:=by rw[h1,Nat.mul_add_div (by decide),Nat.div_eq_of_lt h2];omega
 rw[h4,h5,h6,h7,Nat.mul_left_comm r 2 q]
 omega
theorem zu(y:UInt32):(j6 y).toNat=y.toNat % 2147483648*2+y.toNat/2147483648:=by
 have h:=y.toNat_lt
 unfold j6
 rw[UInt32.toNat_add,UInt32.toNat_mul,UInt32.toNat_div]
 show(y.toNat*2 % 4294967296+y.toNat/2147483648) % 4294967296=_
 omega
theorem tL(x:UInt32):∀(n:Nat),n≤32→(lD x n).toNat=x.toNat/2 ^ (32-n)+x.toNat % 2 ^ (32-n)*2 ^ n
 |0,_=>by
  have h:=x.toNat_lt
  show x.toNat=x.toNat/4294967296+x.toNat % 4294967296*1
  omega
 |n+1,hn=>by
  have h:=x.toNat_lt
  show(j6 (lD x n)).toNat=_
  rw[zu,tL x n (by omega)]
  have e1:2 ^ (32-n)=2*2 ^ (32-(n+1)):=by rw[←Nat.pow_succ'];congr 1;omega
  have e2:2 ^ (n+1)=2*2 ^ n:=Nat.pow_succ'
  have hpq:2 ^ (32-(n+1))*2 ^ n=2147483648:=by
   rw[←Nat.pow_add,show 32-(n+1)+n=31 by omega]
  rw[e1,e2]
  have hp:0<2 ^ (32-(n+1)):=Nat.two_pow_pos _
  generalize 2 ^ (32-(n+1))=p at hpq hp ⊢
  generalize 2 ^ n=q at hpq ⊢
  refine A6 (c:=x.toNat % (2*p)/p) (r:=x.toNat % (2*p) % p) (Nat.div_add_mod x.toNat (2*p)).symm (Nat.div_add_mod _ p).symm (Nat.mod_lt _ hp) ?_ hpq ?_ hp
  ·rw[Nat.div_lt_iff_lt_mul (by omega),show q*(2*p)=2*(p*q) by rw[Nat.mul_comm q,Nat.mul_assoc],hpq]
   omega
  ·rw[Nat.div_lt_iff_lt_mul hp]
   exact Nat.mod_lt _ (by omega)
theorem r6{x:UInt32}{n:Nat}(hn:n≤32):ix (32-n) x=lD x n:=by
 apply UInt32.toNat_inj.1
 have h:=(lD x n).toNat_lt
 unfold ix
 rw[tL x n hn]at h ⊢
 rw[UInt32.toNat_ofNat',show 32-(32-n)=n by omega,Nat.mod_eq_of_lt h]
theorem nj(x:UInt32):j6 x=(x <<< 1) ||| (x >>> 31):=by
 have h:=r6 (x:=x) (n:=1) (by decide)
 rw[show lD x 1=j6 x from rfl]at h
 rw[←h,←rX (n:=32-1) (by decide) (by decide)]
 congr 1
 ·apply UInt32.toNat_inj.1
  rw[UInt32.toNat_shiftLeft,UInt32.toNat_ofNat']
  show x.toNat*2 % 4294967296=x.toNat <<< 1 % 4294967296
  rw[Nat.shiftLeft_eq]
 ·apply UInt32.toNat_inj.1
  rw[UInt32.toNat_shiftRight,UInt32.toNat_ofNat']
  show x.toNat/2147483648 % 4294967296=x.toNat >>> 31
  have:=x.toNat_lt
  rw[Nat.shiftRight_eq_div_pow]
  show x.toNat/2147483648 % 4294967296=x.toNat/2147483648
  omega
theorem uk(x y:UInt32):j6 (x ^^^ y)=j6 x ^^^ j6 y:=by
 rw[nj,nj,nj]
 apply UInt32.toBitVec_inj.1
 simp only[UInt32.toBitVec_or,UInt32.toBitVec_xor,UInt32.toBitVec_shiftLeft,UInt32.toBitVec_shiftRight]
 ext i hi
 simp
 by_cases h1:i=0
 ·simp[h1]
 ·have e:∀z:BitVec 32,z.getLsbD (31+i)=false:=fun z=>BitVec.getLsbD_of_ge z (31+i) (by omega)
  simp[h1,e]
theorem xP:j6 0=0:=by decide
theorem rf{w:List UInt32}{b:List UInt8}{c:UInt8}{i:Nat}:∀(k:Nat),i+k≤b.length→fN w (b++[c]) i k=j6 (fN w b i k)
 |0,_=>xP.symm
 |k+1,h=>by
  have e:(b++[c]).getD (i+k) 0=b.getD (i+k) 0:=by rw[List.getD,List.getD,List.getElem?_append_left (by omega)]
  have e2:(b++[c]).length-1-(i+k)=(b.length-1-(i+k))+1:=by rw[List.length_append,List.length_singleton];omega
  rw[fN,fN,rf k (by omega),e,e2,uk]
  rfl
theorem nP{w:List UInt32}{b:List UInt8}{i:Nat}:∀(k:Nat),fN w b i (k+1)=lD (w.getD (b.getD i 0).toNat 0) (b.length-1-i) ^^^ fN w b (i+1) k
 |0=>by rw[fN,fN,fN,Nat.add_zero];exact UInt32.xor_comm ..
 |k+1=>by
  rw[fN,nP k,fN,UInt32.xor_assoc,show i+1+k=i+(k+1) by omega]
theorem vg(w:List UInt32)(b:List UInt8)(c:UInt8):eh w (b++[c])=if 16≤b.length then j6 (eh w b) ^^^ w.getD c.toNat 0 ^^^ lD (w.getD (b.getD (b.length-16) 0).toNat 0) 16 else j6 (eh w b) ^^^ w.getD c.toNat 0:=by
 have hl:(b++[c]).length=b.length+1:=by simp
 have mz:∀i k,i+k=b.length→fN w (b++[c]) i (k+1)=j6 (fN w b i k) ^^^ w.getD c.toNat 0:=fun i k h=>by
  rw[fN,rf k (by omega),h]
  have e:(b++[c]).getD b.length 0=c:=by rw[List.getD,List.getElem?_append_right (Nat.le_refl _),Nat.sub_self];rfl
  rw[e,hl,Nat.add_sub_cancel,Nat.sub_self]
  rfl
 unfold eh
 rw[hl]
 by_cases h:16≤b.length
 ·rw[if_pos h,show b.length+1-16=b.length-16+1 by omega,show b.length+1-(b.length-16+1)=15+1 by omega,mz _ _ (by omega),show b.length-(b.length-16)=15+1 by omega,nP (w:=w) (b:=b) (i:=b.length-16) 15,uk]
  have e:j6 (lD (w.getD (b.getD (b.length-16) 0).toNat 0) (b.length-1-(b.length-16)))=lD (w.getD (b.getD (b.length-16) 0).toNat 0) 16:=by
   rw[show b.length-1-(b.length-16)=15 by omega]
   rfl
  rw[e]
  generalize lD (w.getD (b.getD (b.length-16) 0).toNat 0) 16=z
  generalize j6 (fN w b (b.length-16+1) 15)=y
  rw[UInt32.xor_comm z y,UInt32.xor_assoc y z,UInt32.xor_comm z,UInt32.xor_assoc,UInt32.xor_assoc,UInt32.xor_self,UInt32.xor_zero]
 ·rw[if_neg h,show b.length+1-16=0 by omega,show b.length-16=0 by omega,Nat.sub_zero,Nat.sub_zero,mz 0 b.length (by omega)]
end Go.Proofs.YtmibdabdlgmafaaGreatDoor
end
section
namespace Go.Proofs.YtmibdabdlgmafaaGreatDoor
abbrev DC:Go.Conc.Locks.MuLink:={lock:=119,unlock:=120,ilock:=185,iunlock:=186,lockSlow:=238,unlockSlow:=241,disable:=234,enable:=236,acquire:=237,relMerge:=239,cas32:=235,add32:=240,tMutex:=170,tIMutex:=168,tPMutex:=259,tPIMutex:=327,tPI32:=329,tUP:=331,tNoCopy:=165,tU32:=166}
theorem CS:Go.Conc.Locks.MuLib Tryz.prog DC:=by
 constructor <;> first|kernel_rfl|(intro _;kernel_rfl)
end Go.Proofs.YtmibdabdlgmafaaGreatDoor
end
section
set_option maxRecDepth 20000
namespace Go.Proofs.YtmibdabdlgmafaaGreatDoor
open Go.Eng Go.Hx
def fJ(d mu:Int)(ws:List UInt32)(ring:List UInt8)(n:Nat)(s:UInt32):List Value:=[.int .u32 d,.int .i32 mu,.int .u32 0]++(dL ws++(aT ring++[.int .i64 (n:Int),Wd s]))
section
variable{d mu:Int}{ws:List UInt32}{ring:List UInt8}{n:Nat}{s:UInt32}
theorem iO(hw:ws.length=256)(hr:ring.length=16):(fJ d mu ws ring n s).length=277:=by simp[fJ,aX,aA,hw,hr]
theorem Df{j:Nat}(hw:ws.length=256)(hj:j<256):(fJ d mu ws ring n s)[3+j]? =some (Wd (ws.getD j 0)):=by
 rw[fJ,List.getElem?_append_right (by simp),List.getElem?_append_left (by rw[aX];simp;omega)]
 rw[show 3+j- [Value.int .u32 d,.int .i32 mu,.int .u32 0].length=j by simp]
 exact bo (by omega)
theorem FK{j:Nat}(hw:ws.length=256)(hr:ring.length=16)(hj:j<16):(fJ d mu ws ring n s)[259+j]? =some (B8 (ring.getD j 0)):=by
 rw[fJ,List.getElem?_append_right (by simp;omega),List.getElem?_append_right (by rw[aX];simp;omega),List.getElem?_append_left (by rw[aX,aA];simp;omega)]
 rw[aX,hw,show 259+j- [Value.int .u32 d,.int .i32 mu,.int .u32 0].length-256=j by simp;omega]
 exact bO (by omega)
theorem vN(hw:ws.length=256)(hr:ring.length=16):(fJ d mu ws ring n s)[275]? =some (.int .i64 (n:Int)):=by
 rw[fJ,List.getElem?_append_right (by simp),List.getElem?_append_right (by rw[aX];simp;omega),List.getElem?_append_right (by rw[aX,aA];simp;omega)]
 rw[aX,aA,hw,hr]
 rfl
theorem wz(hw:ws.length=256)(hr:ring.length=16):(fJ d mu ws ring n s)[276]? =some (Wd s):=by
 rw[fJ,List.getElem?_append_right (by simp),List.getElem?_append_right (by rw[aX];simp;omega),List.getElem?_append_right (by rw[aX,aA];simp;omega)]
 rw[aX,aA,hw,hr]
 rfl
theorem Ae{j:Nat}{x:UInt32}(hw:ws.length=256)(hj:j<256):(fJ d mu ws ring n s).set (3+j) (Wd x)=fJ d mu (ws.set j x) ring n s:=by
 rw[fJ,List.set_append_right _ _ (by simp),List.set_append_left _ _ (by rw[aX];simp;omega)]
 rw[show 3+j- [Value.int .u32 d,.int .i32 mu,.int .u32 0].length=j by simp,rS]
 rfl
theorem tl{j:Nat}{x:UInt8}(hw:ws.length=256)(hr:ring.length=16)(hj:j<16):(fJ d mu ws ring n s).set (259+j) (B8 x)=fJ d mu ws (ring.set j x) n s:=by
 rw[fJ,List.set_append_right _ _ (by simp;omega),List.set_append_right _ _ (by rw[aX];simp;omega),List.set_append_left _ _ (by rw[aX,aA];simp;omega)]
 rw[aX,hw,show 259+j- [Value.int .u32 d,.int .i32 mu,.int .u32 0].length-256=j by simp;omega,show(aT ring).set j (B8 x)=aT (ring.set j x) by simp[aT,List.map_set]]
 rfl
theorem pO{m:Nat}(hw:ws.length=256)(hr:ring.length=16):(fJ d mu ws ring n s).set 275 (.int .i64 (m:Int))=fJ d mu ws ring m s:=by
 rw[fJ,List.set_append_right _ _ (by simp),List.set_append_right _ _ (by rw[aX];simp;omega),List.set_append_right _ _ (by rw[aX,aA];simp;omega)]
 rw[aX,aA,hw,hr]
 rfl
theorem o8{x:UInt32}(hw:ws.length=256)(hr:ring.length=16):(fJ d mu ws ring n s).set 276 (Wd x)=fJ d mu ws ring n x:=by
 rw[fJ,List.set_append_right _ _ (by simp),List.set_append_right _ _ (by rw[aX];simp;omega),List.set_append_right _ _ (by rw[aX,aA];simp;omega)]
 rw[aX,aA,hw,hr]
 rfl
end
theorem xY{α:Type}(v:List α)(i:Nat)(x:α)(h:i<v.length):(v.set i x).take (i+1)=v.take i++[x]:=by
 apply List.ext_getElem?
 intro j
 rw[List.getElem?_take,List.getElem?_append,List.getElem?_set,List.getElem?_take,List.length_take]
 by_cases h1:j<i
 ·rw[if_pos (by omega),if_neg (by omega),if_pos (by omega),if_pos h1]
 ·by_cases h2:j=i
  ·subst h2
   rw[if_pos (by omega),if_pos rfl,if_pos h,if_neg (by omega),Nat.min_eq_left (by omega),Nat.sub_self]
   rfl
  ·rw[if_neg (by omega),if_neg (by omega)]
   rw[List.getElem?_eq_none (by simp;omega)]
theorem nv{w:World}{g a c:Nat}{t:TypeId}{cs:List Value}{v:Value}(h:e8 w g t cs)(hv:cs[a+c]? =some v):w.cell? (((⟨g,0,none⟩:Addr).add a).add c)=some v:=by
 rw[ez,ez,Nat.zero_add]
 exact h.cell hv
theorem CP:eV Tryz.prog 396 1=some (0,1,166):=by kernel_rfl
theorem oL:eV Tryz.prog 398 1=some (0,1,396):=by kernel_rfl
theorem wT:eV Tryz.prog 398 2=some (1,2,170):=by kernel_rfl
theorem vF:eV Tryz.prog 401 0=some (0,3,398):=by kernel_rfl
theorem rj:eV Tryz.prog 401 1=some (3,256,399):=by kernel_rfl
theorem Br:eV Tryz.prog 404 0=some (0,259,401):=by kernel_rfl
theorem rL:eV Tryz.prog 404 1=some (259,16,402):=by kernel_rfl
theorem jF:eV Tryz.prog 404 2=some (275,1,3):=by kernel_rfl
theorem jN:eV Tryz.prog 404 3=some (276,1,166):=by kernel_rfl
theorem Fz:TI Tryz.prog 404 (.agg (fJ 0 0 (List.replicate 256 0) (List.replicate 16 0) 0 0).toArray) 277 1072:=by unfold TI;kernel_rfl
section
variable{P:Program}{Q:Exit→Act→World→Prop}{N:Nat}{D:List Deferred}{ρ:Env}{b:cg}{X S:List bg}{ty:TypeId}{K:Value→List bg→List bg→Prop}{fn:Func}{R:Value→List bg→List bg→Prop}
theorem zN{f g o:Nat}{t:TypeId}{cs:List Value}{x:Int}{l:List Operand}{tys:Array TypeId}(i:Nat)(hi:X[i]? =some (aE g t cs))(hc:cs[o]? =some (.int .u32 x))(hx:mP ρ l=some [.pointer (some ⟨g,o,none⟩)])
  (hrun:∀(w:World) (a:Addr) (x:Int),w.cell? a=some (.int .u32 x)→(callFunc f #[.pointer (some a)]).run P w= .ok (.value (.int .u32 x)) w) (k:K (.int .u32 x) X S):XH P Q N D ρ b X S (.call ⟨.value (.func f),l.toArray,tys⟩) ty K:=fun w m=>by
 refine cZ (v' :=.int .u32 x) (w' :=w) (fun a _ _ _ _ ha=> ?_) ⟨X,S,m,k⟩
 have h:=hrun w ⟨g,o,none⟩ x ((m.aN i hi).cell hc)
 simp[execOp,resolve,Deferred.ofValue,Act.eval,invoke,ha.gM hx,h]
theorem Ci{f g o:Nat}{t:TypeId}{cs:List Value}{x:Value}(i:Nat)(hi:X[i]? =some (aE g t cs))(hc:cs[o]? =some x)(hcall:∀args w,(callFunc f args).run P w= .ok (.enter f args) w)
  (hst:∀(a:Addr) (x:Value) (u:FrameMode) (w:World),w.cell? a=some x→w.frozen? a=false→CallsD P f #[.pointer (some a),.bool true] u w fun e u' w' =>u' =u∧(e= .returned (.tuple #[])∧w' =w.drew.setCell a (.int .u32 1)))
  (k:HE P fn b R N D ρ (aE g t (cs.set o (.int .u32 1))::X.eraseIdx i) S):HE P fn b R N (⟨.fn (.func f) #[], #[.pointer (some ⟨g,o,none⟩),.bool true]⟩::D) ρ X S:=fun w m tmps ht=>by
 have hb:=m.aN i hi
 have hlt:=(List.getElem?_eq_some_iff.1 hc).1
 refine⟨by simp,.func f, #[],f, #[.pointer (some ⟨g,o,none⟩),.bool true],rfl, ?_, ?_⟩
 ·simp[invoke,hcall]
 ·refine CallsD.mono (hst ⟨g,o,none⟩ x .returning w (hb.cell hc) (hb.frozen hlt)) ?_
  rintro e u' w' ⟨rfl,rfl,rfl⟩
  have m1:=m.lift (Fr.drew w)
  have hb1:=m1.aN i hi
  have m' :=m1.perm (ao [i] X [aE g t cs] (X.eraseIdx i) (by simp[bN,hi]))
  exact k _ (m'.change (r' :=aE g t (cs.set o (.int .u32 1))) (Fr.setCell w.drew ⟨g,o,none⟩ _) (hb1.set o _) (fun k hk=>.inl hk)) tmps ht
end
theorem Cg(a:Addr)(x:Value)(u:FrameMode)(w:World)(hc:w.cell? a=some x)(hz:w.frozen? a=false):
  CallsD Tryz.prog 315 #[.pointer (some a),.bool true] u w fun e u' w' =>u' =u∧(e= .returned (.tuple #[])∧w' =w.drew.setCell a (.int .u32 1)):=by
 have hc' :w.drew.cell? a=some x:=by go_simp
 have hz' :w.drew.frozen? a=false:=by go_simp
 have hst:=run_call_store (P:=Tryz.prog) Tryz.func316 (by kernel_rfl) (by kernel_rfl) (by kernel_rfl) (by kernel_rfl) (k:=.u32) (y:=1) hc' hz'
 go_enter_d Tryz.func315,Tryz.ntmps315
 go_wp2
 go_region_calls
 all_goals (go_end0;exact⟨rfl,rfl⟩)
theorem uC{g n:Nat}{d mu:Int}{ws:List UInt32}{ring:List UInt8}{s:UInt32}:cf Tryz.prog 312 [.pointer (some ⟨g,0,none⟩)] [aE g 404 (fJ d mu ws ring n s)] [] (fun v_ X_ S_=>v_=(.bool (decide (¬d=0)))∧X_=[aE g 404 (fJ d mu ws ring n s)]∧S_=[]):=by
 refine aK (N:=8) Tryz.func312 rfl rfl (by simp) fun b=> ?_
 refine ae<|ah<|aG rfl<|ag<|aa<|ae<|ah<|au rfl<|hy (fun _=>aL rfl)<|hy (fun _=>ax rfl CP (by decide))<| ?_
 refine hx (zN 0 rfl rfl rfl (fun w a x hc=>run_call_load (P:=Tryz.prog) Tryz.func314 (by kernel_rfl) (by kernel_rfl) (by kernel_rfl) .u32 (by kernel_rfl) hc) ?_)
 refine hy (fun _=>de rfl rfl)<|aG rfl<|ag<|az [2,0] rfl<|aY rfl rfl<|aa<|aR<| ?_
 exact bc trivial rfl rfl [0] rfl [] rfl ⟨rfl,rfl,rfl⟩
theorem D8{g n:Nat}{d mu:Int}{ws:List UInt32}{ring:List UInt8}{s:UInt32}(hw:ws.length=256):cf Tryz.prog 311 [.pointer (some ⟨g,0,none⟩)] [aE g 404 (fJ d mu ws ring n s)] [] (fun v_ X_ S_=>v_=(.tuple #[])∧X_=[aE g 404 (fJ d mu bu ring n s)]∧S_=[]):=by
 refine aK (N:=26) Tryz.func311 rfl rfl (by simp) fun b=> ?_
 refine ae<|ah<|aG rfl<|ag<|aa<|ae<|ah<|au rfl<|ag<|aa<|aM<| ?_
 refine kv (fun i v=>256-i) (fun i v=>[(4,.int .i64 (i:Nat)),(2,Wd (yH i))]) (fun i v=>[aE g 404 (fJ d mu v ring n s)]) (fun i v=>[]) (fun i v=>i≤256∧v.length=256∧v.take i=l7 i) 0 ws [(0,_)] ⟨rfl,trivial⟩ [0] rfl [] rfl (⟨by omega,hw,rfl⟩) ⟨rfl,rfl,trivial⟩ (fun i v ⟨hi,hv,ht⟩=> ?_)
 refine ae<|ah<|hy (fun _=>bx rfl rfl)<|ag<|aa<|ae<| ?_
 refine cu rfl (fun hlt=> ?_) (fun hlt=> ?_)
 ·have hi2:i<256:=by omega
  refine aB<|aa<|ae<|aM<|ae<|ah<|au rfl<|aG rfl<|ag<|az [3,5,4,2,0] rfl<|aa<|ae<|ah<|au rfl<|au rfl<|hy (fun _=>rJ (k:=13) (b:=8192) (by decide) rfl rfl rfl)<|hy (fun _=>cW rfl rfl)<|aG rfl<|ag<|az [2,3,5,4,0] rfl<|aa<|ae<|ah<|au rfl<|au rfl<|hy (fun _=>kG (k:=17) (b:=131072) (by decide) rfl rfl rfl)<|hy (fun _=>cW rfl rfl)<|aG rfl<|ag<|az [2,3,5,4,0] rfl<|aa<|ae<|ah<|au rfl<|au rfl<|hy (fun _=>rJ (k:=5) (b:=32) (by decide) rfl rfl rfl)<|hy (fun _=>cW rfl rfl)<|aG rfl<|ag<|az [2,3,5,4,0] rfl<|aa<|ah<|au rfl<|au rfl<|au rfl<|hy (fun _=>aL rfl)<|hy (fun _=>ax rfl rj (by decide))<|hy (fun _=>bS rfl rfl Tryz.underlying399 bB rfl (by omega))<| ?_
  refine cF (bZ 0 rfl rfl rfl bB rfl (by simp[fJ,aX,aA,hv];omega) ?_)
  refine ag<|az [2,3,5,4,0] rfl<|aY rfl rfl<|aW<|aa<|ah<|hy (fun _=>aO rfl rfl (bE (by omega) (by omega)))<|au rfl<|ag<|az [4,2,3,5,0] rfl<| ?_
  refine bd (fun w m=>m.bw 0 rfl (show _=aE g 404 (fJ d mu (v.set i (yH (i+1))) ring n s)from congrArg (aE _ _) (show(fJ d mu v ring n s).set (3+i) (Wd (yH (i+1)))=_ from Ae hv hi2))) ?_
  refine hC (i+1) (v.set i (yH (i+1))) ⟨rfl,rfl,rfl,trivial⟩ [0] rfl [] rfl (⟨by omega,by rw[List.length_set];exact hv,by rw[xY _ _ _ (by omega),ht,qb]⟩) (by omega)
 ·obtain rfl:i=256:=by omega
  have hv2:v=bu:=by rw[←List.take_of_length_le (l:=v) (i:=256) (by omega),ht];rfl
  subst hv2
  refine bH<|al<|al<|aD<| ?_
  exact fA trivial rfl [0] rfl [] rfl ⟨rfl,rfl,rfl⟩
theorem EJ{g n:Nat}{d:Int}{ws:List UInt32}{ring:List UInt8}{s:UInt32}:cf Tryz.prog 119 [.pointer (some ⟨g,1,none⟩)] [aE g 404 (fJ d 0 ws ring n s)] [] (fun v_ X_ S_=>v_=(.tuple #[])∧X_=[aE g 404 (fJ d 1 ws ring n s)]∧S_=[]):=by
 exact GK CS rfl
theorem GU{g n:Nat}{ws:List UInt32}{ring:List UInt8}{s:UInt32}(hw:ws.length=256):cf Tryz.prog 313 [.pointer (some ⟨g,0,none⟩),.func (.func 311) #[.pointer (some ⟨g,0,none⟩)] #[]] [aE g 404 (fJ 0 0 ws ring n s)] [] (fun v_ X_ S_=>v_=(.tuple #[])∧X_=[aE g 404 (fJ 1 0 bu ring n s)]∧S_=[]):=by
 refine wb (N:=21) Tryz.func313 rfl rfl (by simp) fun b=> ?_
 refine ae<|ah<|au rfl<|hy (fun _=>aL rfl)<|hy (fun _=>ax rfl wT (by decide))<| ?_
 refine hx (an rfl Tryz.call119 (EJ) [0] rfl [] rfl ?_)
 rintro _ _ _ ⟨rfl,rfl,rfl⟩
 refine ag<|az [0,1] rfl<|aY rfl rfl<|aa<|ae<|ah<|au rfl<|hy (fun _=>aL rfl)<|hy (fun _=>ax rfl wT (by decide))<|Ad rfl<|ag<|az [0,1] rfl<|aa<|ae<|ah<|au rfl<|hy (fun _=>aL rfl)<|hy (fun _=>ax rfl oL (by decide))<| ?_
 refine hx (an rfl Tryz.call312 (uC) [0] rfl [] rfl ?_)
 rintro _ _ _ ⟨rfl,rfl,rfl⟩
 refine hy (fun _=>eu rfl)<|ag<|az [15,0,1] rfl<|aY rfl rfl<|aa<| ?_
 refine fx rfl (rfl) ?_
 refine ae<|ah<|au rfl<|hy (fun _=>aL rfl)<|hy (fun _=>ax rfl oL (by decide))<|Ad rfl<|ag<|az [15,0,1] rfl<|aa<|ah<|au rfl<| ?_
 refine hx (eG rfl rfl Tryz.call311 (D8 hw) [0] rfl [] rfl ?_)
 rintro _ _ _ ⟨rfl,rfl,rfl⟩
 refine ag<|az [15,0,1] rfl<|aY rfl rfl<| ?_
 refine ya trivial ?_
 refine Ci 0 rfl rfl Tryz.call315 Cg ?_
 refine BE CS 0 rfl rfl Tryz.call120 ?_
 exact mz (v:=.tuple #[]) (fun _ _ _=>by simp[results,Tryz.results313]) [0] rfl [] rfl ⟨rfl,rfl,rfl⟩
theorem F5{g n:Nat}{ws:List UInt32}{ring:List UInt8}{s:UInt32}(hw:ws.length=256):cf Tryz.prog 310 [.pointer (some ⟨g,0,none⟩),.func (.func 311) #[.pointer (some ⟨g,0,none⟩)] #[]] [aE g 404 (fJ 0 0 ws ring n s)] [] (fun v_ X_ S_=>v_=(.tuple #[])∧X_=[aE g 404 (fJ 1 0 bu ring n s)]∧S_=[]):=by
 refine aK (N:=12) Tryz.func310 rfl rfl (by simp) fun b=> ?_
 refine ae<|ah<|au rfl<|hy (fun _=>aL rfl)<|hy (fun _=>ax rfl oL (by decide))<| ?_
 refine hx (an rfl Tryz.call312 (uC) [0] rfl [] rfl ?_)
 rintro _ _ _ ⟨rfl,rfl,rfl⟩
 refine hy (fun _=>eu rfl)<|ag<|az [8,0,1] rfl<|aY rfl rfl<|aa<| ?_
 refine fx rfl (rfl) ?_
 refine ah<|au rfl<|au rfl<| ?_
 refine hx (an rfl Tryz.call313 (GU hw) [0] rfl [] rfl ?_)
 rintro _ _ _ ⟨rfl,rfl,rfl⟩
 refine ag<|az [8,0,1] rfl<|aY rfl rfl<| ?_
 exact fA trivial rfl [0] rfl [] rfl ⟨rfl,rfl,rfl⟩
theorem E7{g n:Nat}{v:Value}{ws:List UInt32}{ring:List UInt8}{s:UInt32}:cf Tryz.prog 310 [.pointer (some ⟨g,0,none⟩),v] [aE g 404 (fJ 1 0 ws ring n s)] [] (fun v_ X_ S_=>v_=(.tuple #[])∧X_=[aE g 404 (fJ 1 0 ws ring n s)]∧S_=[]):=by
 refine aK (N:=12) Tryz.func310 rfl rfl (by simp) fun b=> ?_
 refine ae<|ah<|au rfl<|hy (fun _=>aL rfl)<|hy (fun _=>ax rfl oL (by decide))<| ?_
 refine hx (an rfl Tryz.call312 (uC) [0] rfl [] rfl ?_)
 rintro _ _ _ ⟨rfl,rfl,rfl⟩
 refine hy (fun _=>eu rfl)<|ag<|az [8,0,1] rfl<|aY rfl rfl<|aa<| ?_
 refine dm rfl (rfl) ?_
 refine aB<| ?_
 exact fA trivial rfl [0] rfl [] rfl ⟨rfl,rfl,rfl⟩
theorem He{g n:Nat}{ws:List UInt32}{ring:List UInt8}{s:UInt32}{c:UInt8}(hw:ws.length=256):cf Tryz.prog 309 [.pointer (some ⟨g,0,none⟩),B8 c] [aE g 404 (fJ 0 0 ws ring n s)] [] (fun v_ X_ S_=>v_=(Wd (bu.getD c.toNat 0))∧X_=[aE g 404 (fJ 1 0 bu ring n s)]∧S_=[]):=by
 have hc:=UInt8.toNat_lt c
 refine aK (N:=17) Tryz.func309 rfl rfl (by simp) fun b=> ?_
 refine ae<|ah<|aG rfl<|ag<|aa<|ae<|ah<|au rfl<|hy (fun _=>aL rfl)<|hy (fun _=>ax rfl vF (by decide))<|au rfl<|hy (fun _=>fD rfl rfl)<| ?_
 refine hx (an rfl Tryz.call310 (F5 hw) [0] rfl [] rfl ?_)
 rintro _ _ _ ⟨rfl,rfl,rfl⟩
 refine ag<|az [4,0,1] rfl<|aY rfl rfl<|aa<|ae<|ah<|au rfl<|au rfl<|hy (fun _=>aL rfl)<|hy (fun _=>ax rfl rj (by decide))<|hy (fun _=>bS rfl rfl Tryz.underlying399 bB rfl (by omega))<|hy (fun m=>ak rfl bM (nv (m.aN 0 rfl) (Df bs (by omega))))<|aG rfl<|ag<|az [4,0,1] rfl<|aa<|aR<| ?_
 exact bc trivial rfl rfl [0] rfl [] rfl ⟨rfl,rfl,rfl⟩
theorem CR{g n:Nat}{ring:List UInt8}{s:UInt32}{c:UInt8}:cf Tryz.prog 309 [.pointer (some ⟨g,0,none⟩),B8 c] [aE g 404 (fJ 1 0 bu ring n s)] [] (fun v_ X_ S_=>v_=(Wd (bu.getD c.toNat 0))∧X_=[aE g 404 (fJ 1 0 bu ring n s)]∧S_=[]):=by
 have hc:=UInt8.toNat_lt c
 refine aK (N:=17) Tryz.func309 rfl rfl (by simp) fun b=> ?_
 refine ae<|ah<|aG rfl<|ag<|aa<|ae<|ah<|au rfl<|hy (fun _=>aL rfl)<|hy (fun _=>ax rfl vF (by decide))<|au rfl<|hy (fun _=>fD rfl rfl)<| ?_
 refine hx (an rfl Tryz.call310 (E7) [0] rfl [] rfl ?_)
 rintro _ _ _ ⟨rfl,rfl,rfl⟩
 refine ag<|az [4,0,1] rfl<|aY rfl rfl<|aa<|ae<|ah<|au rfl<|au rfl<|hy (fun _=>aL rfl)<|hy (fun _=>ax rfl rj (by decide))<|hy (fun _=>bS rfl rfl Tryz.underlying399 bB rfl (by omega))<|hy (fun m=>ak rfl bM (nv (m.aN 0 rfl) (Df bs (by omega))))<|aG rfl<|ag<|az [4,0,1] rfl<|aa<|aR<| ?_
 exact bc trivial rfl rfl [0] rfl [] rfl ⟨rfl,rfl,rfl⟩
end Go.Proofs.YtmibdabdlgmafaaGreatDoor
end
section
set_option maxRecDepth 20000
namespace Go.Proofs.YtmibdabdlgmafaaGreatDoor
open Go.Eng Go.Hx
def kb(ring l:List UInt8):Prop:=ring.length=16∧∀i,i<l.length→l.length≤i+16→ring.getD (i % 16) 0=l.getD i 0
theorem kb.snoc{ring l:List UInt8}(h:kb ring l)(c:UInt8):kb (ring.set (l.length % 16) c) (l++[c]):=by
 refine⟨by rw[List.length_set];exact h.1,fun i hi hi2=> ?_⟩
 rw[List.length_append,List.length_singleton]at hi hi2
 have h1:=h.1
 by_cases e:i=l.length
 ·subst e
  rw[List.getD,List.getElem?_set_self (by omega),List.getD,List.getElem?_append_right (Nat.le_refl _),Nat.sub_self]
  rfl
 ·have hne:l.length % 16≠i % 16:=by omega
  have h2:=h.2 i (by omega) (by omega)
  rw[List.getD]at h2
  rw[List.getD,List.getElem?_set_ne hne,h2,List.getD,List.getD,List.getElem?_append_left (by omega)]
theorem kb.nil{ring:List UInt8}(h:ring.length=16):kb ring []:=⟨h,fun i hi=>absurd hi (by simp)⟩
theorem kb.last{ring l:List UInt8}(h:kb ring l)(hl:16≤l.length):ring.getD (l.length % 16) 0=l.getD (l.length-16) 0:=by
 have:=h.2 (l.length-16) (by omega) (by omega)
 rwa [show(l.length-16) % 16=l.length % 16 by omega]at this
structure fG where
 d:Int
 ws:List UInt32
 ring:List UInt8
structure fG.ok(s:fG)(l:List UInt8):Prop where
 ws:(s.d=0∧s.ws.length=256)∨(s.d=1∧s.ws=bu)
 ring:kb s.ring l
theorem fG.ok.wl{s:fG}{l:List UInt8}(h:s.ok l):s.ws.length=256:=by
 rcases h.ws with h|h
 ·exact h.2
 ·rw[h.2];exact bs
theorem fG.ok.clear{s:fG}{l:List UInt8}(h:s.ok l):s.ok []:=⟨h.ws,.nil h.ring.1⟩
abbrev km(g:Nat)(s:fG)(l:List UInt8):bg:=aE g 404 (fJ s.d 0 s.ws s.ring l.length (eh bu l))
def kE:fG:=⟨0,List.replicate 256 0,List.replicate 16 0⟩
theorem uZ:kE.ok []:=⟨.inl ⟨rfl,List.length_replicate ..⟩,.nil (List.length_replicate ..)⟩
theorem FA{g n:Nat}{d:Int}{ws:List UInt32}{ring:List UInt8}{s:UInt32}{c:UInt8}(hd:(d=0∧ws.length=256)∨(d=1∧ws=bu)):cf Tryz.prog 309 [.pointer (some ⟨g,0,none⟩),B8 c] [aE g 404 (fJ d 0 ws ring n s)] [] (fun v_ X_ S_=>v_=(Wd (bu.getD c.toNat 0))∧X_=[aE g 404 (fJ 1 0 bu ring n s)]∧S_=[]):=by
 rcases hd with⟨rfl,h⟩|⟨rfl,rfl⟩
 ·exact He h
 ·exact CR
theorem xy:cf Tryz.prog 303 [] [] [] (fun v_ X_ S_=>∃g,v_=(.pointer (some ⟨g,0,none⟩))∧X_=[km g kE []]∧S_=[]):=by
 refine aK (N:=3) Tryz.func303 rfl rfl (by simp) fun b=> ?_
 refine ae<|ah<|aG rfl<|ag<|aa<|ae<|ah<|hy (fun _=>ej Fz rfl (by kernel_rfl))<| ?_
 refine hx (br rfl (fun g2=> ?_))
 refine aG rfl<|ag<|az [0] rfl<|aY rfl rfl<|aa<|aR<| ?_
 refine bd (fun w m=>m.bw 0 rfl (show _=aE g2 404 (fJ kE.d 0 kE.ws kE.ring ([]:List UInt8).length (eh bu []))from congrArg (aE _ _) (aV _))) ?_
 exact bc trivial rfl rfl [0] rfl [] rfl ⟨_,rfl,rfl,rfl⟩
theorem FU{g:Nat}{s:fG}{l:List UInt8}{c:UInt8}(hs:s.ok l)(hn:l.length≤1000000):cf Tryz.prog 304 [.pointer (some ⟨g,0,none⟩),B8 c] [km g s l] [] (fun v_ X_ S_=>∃s1,v_=(Wd (eh bu (l++[c])))∧X_=[km g s1 (l++[c])]∧S_=[]∧(s1.ok (l++[c]))):=by
 have hw:=hs.wl
 have hr:=hs.ring.1
 have hsn:=vg bu l c
 refine aK (N:=66) Tryz.func304 rfl rfl (by simp) fun b=> ?_
 refine ae<|ah<|aG rfl<|ag<|aa<|ae<|ah<|au rfl<|hy (fun _=>aL rfl)<|hy (fun _=>ax rfl Br (by decide))<|hy (fun _=>fD rfl rfl)<|aG rfl<|ag<|az [5,4,0,1] rfl<|aa<|ae<|ah<|au rfl<|hy (fun _=>aL rfl)<|hy (fun _=>ax rfl jF (by decide))<|hy (fun m=>ak rfl cY ((m.aN 0 rfl).cell (vN hw hr)))<|hy (fun _=>yV (hZ rfl rfl (by omega) (by omega)) ((show Value.int .i64 ((l.length:Int) % 16)= .int .i64 ((l.length % 16:Nat):Int) by rw[Int.natCast_emod];rfl)))<|aG rfl<|ag<|az [6,5,4,0,1] rfl<|aa<|ae<|ah<|au rfl<|au rfl<|hy (fun _=>aL rfl)<|hy (fun _=>ax rfl jN (by decide))<|hy (fun m=>ak rfl bM ((m.aN 0 rfl).cell (wz hw hr)))<| ?_
 refine hx (an rfl Tryz.call296 (Dh (by decide) (by decide) (n:=1) (x:=(eh bu l))) [] rfl [] rfl ?_)
 rintro _ _ _ ⟨rfl,rfl,rfl⟩
 refine au rfl<|au rfl<| ?_
 have e1:ix (32-1) (eh bu l)=j6 (eh bu l):=r6 (n:=1) (by decide)
 rw[e1]
 refine hx (eG rfl rfl Tryz.call309 (FA hs.ws (c:=c)) [0] rfl [] rfl ?_)
 rintro _ _ _ ⟨rfl,rfl,rfl⟩
 refine hy (fun _=>cW rfl rfl)<|hy (fun _=>aL rfl)<|hy (fun _=>ax rfl jN (by decide))<| ?_
 refine cF (bZ 0 rfl rfl rfl bB rfl (by(rw[iO bs hr];try dsimp only);omega) ?_)
 refine aH (fun w m=>m.bw 0 rfl (show _=aE g 404 (fJ 1 0 bu s.ring l.length (j6 (eh bu l) ^^^ bu.getD c.toNat 0))from congrArg (aE _ _) (o8 bs hr))) ?_
 refine ag<|az [6,5,4,0,1] rfl<|aY rfl rfl<|aa<|ae<|ae<|ah<|au rfl<|hy (fun _=>aL rfl)<|hy (fun _=>ax rfl jF (by decide))<|hy (fun m=>ak rfl cY ((m.aN 0 rfl).cell (vN bs hr)))<|hy (fun _=>eO rfl rfl)<|ag<|az [32,6,5,4,0,1] rfl<|aa<| ?_
 refine cu rfl (fun hge=> ?_) (fun hge=> ?_)
 ·have hl16:16≤l.length:=by omega
  rw[if_pos hl16]at hsn
  refine kD [0] [] rfl rfl [11,12,16] [(0,some 2),(1,some 2),(2,some 2),(3,some 2),(4,some 0),(5,some 2),(6,some 0),(7,some 2),(8,some 0),(9,some 0),(10,some 0),(11,none),(12,none),(13,some 2),(14,some 2),(15,some 2),(16,none)] (by kernel_rfl) (by kernel_rfl) rfl 2<|aj (ai rfl)<|aj (aL rfl)<|aj (ax rfl jN (by decide))<|bV (fun m=>ak rfl bM ((m.aN 0 rfl).cell (wz bs hr)))<|aj (ai rfl)<|aj (ai rfl)<|aj (ai rfl)<|aj (aL rfl)<|aj (ax rfl rL (by decide))<|aj (bS rfl rfl Tryz.underlying402 dJ rfl (by omega))<|bV (fun m=>ak rfl iV (nv (m.aN 0 rfl) (FK bs hr (by omega))))<| ?_
  refine dk (eG rfl rfl Tryz.call309 (CR (c:=(s.ring.getD (l.length % 16) 0))) [0] rfl [] rfl ?_)
  rintro _ _ _ ⟨rfl,rfl,rfl⟩
  refine⟨(fun _=>wk [0] [] rfl rfl), ?_⟩
  refine dk (an rfl Tryz.call296 (Dh (by decide) (by decide) (n:=16) (x:=(bu.getD (s.ring.getD (l.length % 16) 0).toNat 0))) [] rfl [] rfl ?_)
  rintro _ _ _ ⟨rfl,rfl,rfl⟩
  refine⟨(fun _=>wk [0] [] rfl rfl), ?_⟩
  have e2:ix (32-16) (bu.getD (s.ring.getD (l.length % 16) 0).toNat 0)=lD (bu.getD (l.getD (l.length-16) 0).toNat 0) 16:=by rw[r6 (n:=16) (by decide),hs.ring.last hl16]
  rw[e2]
  refine aj (cW rfl rfl)<|aj (aL rfl)<|aj (ax rfl jN (by decide))<| ?_
  refine gi (bZ 0 rfl rfl rfl bB rfl (by(rw[iO bs hr];try dsimp only);omega) ⟨(fun h=>absurd h (by decide)), ?_⟩)
  refine dU (fun w m=>m.bw 0 rfl (show _=aE g 404 (fJ 1 0 bu s.ring l.length (eh bu (l++[c])))from congrArg (aE _ _) (by rw[hsn];exact o8 bs hr))) ?_
  refine bp<|az [32,6,5,4,0,1] rfl<|aY rfl rfl<|aa<|ae<|ah<|au rfl<|au rfl<|au rfl<|hy (fun _=>aL rfl)<|hy (fun _=>ax rfl rL (by decide))<|hy (fun _=>bS rfl rfl Tryz.underlying402 dJ rfl (by omega))<| ?_
  refine cF (bZ 0 rfl rfl rfl dJ rfl (by(rw[iO bs hr];try dsimp only);omega) ?_)
  refine aH (fun w m=>m.bw 0 rfl (show _=aE g 404 (fJ 1 0 bu (s.ring.set (l.length % 16) c) l.length (eh bu (l++[c])))from congrArg (aE _ _) (show(fJ 1 0 bu s.ring l.length (eh bu (l++[c]))).set (259+l.length % 16) (B8 c)=_ from tl bs hr (by omega)))) ?_
  have hr2:(s.ring.set (l.length % 16) c).length=16:=by rw[List.length_set];exact hr
  refine ag<|az [32,6,5,4,0,1] rfl<|aY rfl rfl<|aa<|ae<|ah<|au rfl<|hy (fun _=>aL rfl)<|hy (fun _=>ax rfl jF (by decide))<|hy (fun m=>ak rfl cY ((m.aN 0 rfl).cell (vN bs hr2)))<|hy (fun _=>aO rfl rfl (bE (by omega) (by omega)))<|hy (fun _=>aL rfl)<|hy (fun _=>ax rfl jF (by decide))<| ?_
  refine cF (bZ 0 rfl rfl rfl tA rfl (by(rw[iO bs hr2];try dsimp only);omega) ?_)
  refine aH (fun w m=>m.bw 0 rfl (show _=aE g 404 (fJ 1 0 bu (s.ring.set (l.length % 16) c) (l++[c]).length (eh bu (l++[c])))from congrArg (aE _ _) (by rw[List.length_append];exact pO (m:=l.length+1) bs hr2))) ?_
  refine ag<|az [32,6,5,4,0,1] rfl<|aY rfl rfl<|aa<|ae<|ah<|au rfl<|hy (fun _=>aL rfl)<|hy (fun _=>ax rfl jN (by decide))<|hy (fun m=>ak rfl bM ((m.aN 0 rfl).cell (wz bs hr2)))<|aG rfl<|ag<|az [4,32,6,5,0,1] rfl<|aa<|aR<| ?_
  exact bc trivial rfl rfl [0] rfl [] rfl ⟨(⟨1,bu,s.ring.set (l.length % 16) c⟩:fG),rfl,rfl,rfl,⟨.inr ⟨rfl,rfl⟩,hs.ring.snoc c⟩⟩
 ·have hl16:¬16≤l.length:=by omega
  rw[if_neg hl16]at hsn
  rw[←hsn]
  refine aB<|aa<|ae<|ah<|au rfl<|au rfl<|au rfl<|hy (fun _=>aL rfl)<|hy (fun _=>ax rfl rL (by decide))<|hy (fun _=>bS rfl rfl Tryz.underlying402 dJ rfl (by omega))<| ?_
  refine cF (bZ 0 rfl rfl rfl dJ rfl (by(rw[iO bs hr];try dsimp only);omega) ?_)
  refine aH (fun w m=>m.bw 0 rfl (show _=aE g 404 (fJ 1 0 bu (s.ring.set (l.length % 16) c) l.length (eh bu (l++[c])))from congrArg (aE _ _) (show(fJ 1 0 bu s.ring l.length (eh bu (l++[c]))).set (259+l.length % 16) (B8 c)=_ from tl bs hr (by omega)))) ?_
  have hr2:(s.ring.set (l.length % 16) c).length=16:=by rw[List.length_set];exact hr
  refine ag<|az [32,6,5,4,0,1] rfl<|aY rfl rfl<|aa<|ae<|ah<|au rfl<|hy (fun _=>aL rfl)<|hy (fun _=>ax rfl jF (by decide))<|hy (fun m=>ak rfl cY ((m.aN 0 rfl).cell (vN bs hr2)))<|hy (fun _=>aO rfl rfl (bE (by omega) (by omega)))<|hy (fun _=>aL rfl)<|hy (fun _=>ax rfl jF (by decide))<| ?_
  refine cF (bZ 0 rfl rfl rfl tA rfl (by(rw[iO bs hr2];try dsimp only);omega) ?_)
  refine aH (fun w m=>m.bw 0 rfl (show _=aE g 404 (fJ 1 0 bu (s.ring.set (l.length % 16) c) (l++[c]).length (eh bu (l++[c])))from congrArg (aE _ _) (by rw[List.length_append];exact pO (m:=l.length+1) bs hr2))) ?_
  refine ag<|az [32,6,5,4,0,1] rfl<|aY rfl rfl<|aa<|ae<|ah<|au rfl<|hy (fun _=>aL rfl)<|hy (fun _=>ax rfl jN (by decide))<|hy (fun m=>ak rfl bM ((m.aN 0 rfl).cell (wz bs hr2)))<|aG rfl<|ag<|az [4,32,6,5,0,1] rfl<|aa<|aR<| ?_
  exact bc trivial rfl rfl [0] rfl [] rfl ⟨(⟨1,bu,s.ring.set (l.length % 16) c⟩:fG),rfl,rfl,rfl,⟨.inr ⟨rfl,rfl⟩,hs.ring.snoc c⟩⟩
theorem Cm{g:Nat}{s:fG}{l:List UInt8}(hs:s.ok l):cf Tryz.prog 305 [.pointer (some ⟨g,0,none⟩)] [km g s l] [] (fun v_ X_ S_=>v_=(.tuple #[])∧X_=[km g s []]∧S_=[]):=by
 have hw:=hs.wl
 have hr:=hs.ring.1
 refine aK (N:=8) Tryz.func305 rfl rfl (by simp) fun b=> ?_
 refine a8 (fun w m=>m.bw 0 rfl (show _=aE g 404 (fJ s.d 0 s.ws s.ring l.length (eh bu l))from rfl)) ?_
 refine ah<|au rfl<|au rfl<|hy (fun _=>aL rfl)<|hy (fun _=>ax rfl jF (by decide))<| ?_
 refine cF (bZ 0 rfl rfl rfl tA rfl (by(rw[iO hw hr];try dsimp only);omega) ?_)
 refine aH (fun w m=>m.bw 0 rfl (show _=aE g 404 (fJ s.d 0 s.ws s.ring 0 (eh bu l))from congrArg (aE _ _) (pO (m:=0) hw hr))) ?_
 refine hy (fun _=>aL rfl)<|hy (fun _=>ax rfl jN (by decide))<| ?_
 refine cF (bZ 0 rfl rfl rfl bB rfl (by(rw[iO hw hr];try dsimp only);omega) ?_)
 refine aH (fun w m=>m.bw 0 rfl (show _=aE g 404 (fJ s.d 0 s.ws s.ring ([]:List UInt8).length (eh bu []))from congrArg (aE _ _) (o8 (x:=0) hw hr))) ?_
 refine ag<|az [0] rfl<|aY rfl rfl<| ?_
 exact fA trivial rfl [0] rfl [] rfl ⟨rfl,rfl,rfl⟩
end Go.Proofs.YtmibdabdlgmafaaGreatDoor
end
section
set_option maxRecDepth 20000
namespace Go.Proofs.YtmibdabdlgmafaaGreatDoor
open Go.Eng Go.Hx Go.Extern
theorem text(A:Option Addr)(n c:Nat)(l:List UInt8)(w:World)(hr:Rd w 1 A n (aT l))(hn:n≤70368744177664):
  Calls Tryz.prog 177 #[.slice A n c] w fun e w' =>e= .returned (.string (strOf (cG l)))∧Fr No w w' :=by
 have hl:l.length=n:=by have:=hr.1;rw[aA]at this;omega
 refine enter (N:=28) Tryz.func177 rfl rfl (by simp) ?_
 refine bJ<|bY<|nq (ay rfl)<|bX<|bk<|bJ<|bY<|nq (ay rfl)<|bX<|bk<|bJ<|bJ<|bY<|nq (ai rfl)<|nq (a6 rfl Tryz.underlying27)<|nq (ai rfl)<|bX<|cE (ab (t:=7) rfl<|ab (t:=6) rfl<|ab (t:=3) rfl<|ab (t:=2) rfl<|ab (t:=0) rfl<|aZ)<|bk<|dR<| ?_
 refine vf (fun k _=>n-k) (fun k v=>[(0,.slice A n c),(3,v),(6,.int .i64 n),(7,.int .i64 (k:Nat))]) (fun k v w' =>k≤n∧Go.Eng.Own w' w.heap.size 5 1 v (2*k) (aT (cG (l.take k)))∧Fr No w w') 0 (.slice none 0 0) (⟨Nat.zero_le _,Own.nil w w.heap.size _ 1,Fr.refl _ _⟩) (ab (t:=0) rfl<|ab (t:=3) rfl<|ab (t:=6) rfl<|ab (t:=7) rfl<|aZ) (fun k v w1 ⟨hk,ho,hf⟩=> ?_)
 refine bJ<|bY<|nq (bx rfl rfl)<|bX<|bk<|bJ<| ?_
 refine x7 rfl (fun h=> ?_) (fun h=> ?_)
 ·have hkn:k<n:=by omega
  have hb:=(l.getD k 0).toNat_lt
  refine iH<|bk<|bJ<|dR<|bJ<|bY<|nq (ai rfl)<|nq (ay rfl)<|bX<|cE (ab (t:=4) rfl<|ab (t:=8) rfl<|ab (t:=0) rfl<|ab (t:=3) rfl<|ab (t:=6) rfl<|ab (t:=7) rfl<|aZ)<|bk<| ?_
  refine GJ [(0,false),(1,false),(2,false),(3,false),(4,false),(5,false),(6,false),(7,false),(8,false),(9,false),(10,false),(11,false),(12,false),(13,true),(14,true),(15,false)] (by kernel_rfl) (by kernel_rfl) rfl (fun w' =>Fr No w w') (hf.eX (Fr.drew _)) (fun w2 hf2 hS2=> ?_)
  refine sq (fun w_ hS_=>ai rfl)<|sq (fun w_ hS_=>ai rfl)<|sq (fun w_ hS_=>ai rfl)<|sq (fun w_ hS_=>aS rfl rfl Tryz.underlying27 dJ hr.2.1 rfl (by omega))<|sq (fun w_ hS_=>ak rfl iV (((hr.x5 hS_).cell (bO (by omega)))))<|sq (fun w_ hS_=>mE (p:=16) rfl rfl (by decide) (by decide) (by decide))<|sq (fun w_ hS_=>jl rfl rfl Tryz.underlying9 rfl ((Bl _)))<|sq (fun w_ hS_=>ai rfl)<|sq (fun w_ hS_=>ai rfl)<|sq (fun w_ hS_=>aS rfl rfl Tryz.underlying27 dJ hr.2.1 rfl (by omega))<|sq (fun w_ hS_=>ak rfl iV (((hr.x5 hS_).cell (bO (by omega)))))<|sq (fun w_ hS_=>gJ (by simp) rfl rfl ((FJ _)))<|sq (fun w_ hS_=>jl rfl rfl Tryz.underlying9 rfl ((Bk _)))<| ?_
  refine sx (tP Tryz.underlying27 fh rfl rfl rfl (by simp[Value.cells,B8]) (by decide) (by decide) fun g w3 hg hf3 hb3=> ?_)
  have hS3:Fr No w w3:=hS2.eX hf3
  refine⟨hS3, ?_⟩
  refine sx (pb rfl rfl Tryz.underlying27 Tryz.underlying27 (by exact .inl rfl) fh rfl (ho.x5 (hf2.eX hf3)) (Src.b9 (Own.rd (Own.made hb3 (Nat.le_refl _) (Nat.le_refl _) (by decide) (by rfl))).2.2) (by simp[Value.cells];exact⟨rfl,rfl⟩) (by unfold maxLen;omega) (by omega) hS3.size fun v4 w4 ho4 hf4 hv4=> ?_)
  have hS4:Fr No w w4:=hS3.new hf4 (fun i hi=>(ho.from hi).1)
  refine⟨hS4, ?_⟩
  refine sq (fun w_ hS_=>ay rfl)<|send<|cE (ab (t:=3) rfl<|ab (t:=4) rfl<|ab (t:=8) rfl<|ab (t:=0) rfl<|ab (t:=6) rfl<|ab (t:=7) rfl<|aZ)<|jS<|bk<|bY<|nq (aO rfl rfl (bE (by omega) (by omega)))<|nq (ai rfl)<|bX<|cE (ab (t:=7) rfl<|ab (t:=3) rfl<|ab (t:=4) rfl<|ab (t:=8) rfl<|ab (t:=0) rfl<|ab (t:=6) rfl<|aZ)<| ?_
  refine uA (k+1) v4 (ab (t:=0) rfl<|ab (t:=3) rfl<|ab (t:=6) rfl<|ab (t:=7) rfl<|aZ) (⟨by omega, ?_,hS4⟩) (by omega)
  have e1:2*k+2=2*(k+1):=by omega
  have e2:cG (l.take (k+1))=cG (l.take k)++va (l.getD k 0):=qJ (by omega)
  rw[e1]at ho4
  rw[e2,bR]
  exact ho4
 ·obtain rfl:k=n:=by omega
  obtain⟨A',c',rfl,hc'⟩:=ho.slice
  have hro:=(Own.rd ho).2.2
  rw[List.take_of_length_le (by omega)]at hro
  refine lP<|cI<|cI<|dM<|bk<|bJ<|bY<|nq (ai rfl)<|nq (kj rfl Tryz.underlying27 Tryz.underlying5 Tryz.underlying9 hro)<|nq (ay rfl)<|bX<|cE (ab (t:=2) rfl<|ab (t:=8) rfl<|ab (t:=0) rfl<|ab (t:=3) rfl<|ab (t:=6) rfl<|ab (t:=7) rfl<|aZ)<|bk<|iW<| ?_
  exact iY trivial rfl rfl ⟨rfl,hf⟩
theorem Fy(A:Option Addr)(n c:Nat)(l:List UInt8)(w:World)(hr:Rd w 1 A n (aT l))(hn:n≤70368744177664):
  Calls Tryz.prog 182 #[.slice A n c] w fun e w' =>e= .returned (.string (strOf (cG l)))∧Fr No w w' :=by
 have hl:l.length=n:=by have:=hr.1;rw[aA]at this;omega
 refine enter (N:=40) Tryz.func182 rfl rfl (by simp) ?_
 refine bJ<|bY<|nq (ay rfl)<|bX<|bk<|bJ<|bY<|nq (ay rfl)<|bX<|bk<|bJ<|bY<|nq (ay rfl)<|bX<|bk<|bJ<|bJ<|bY<|nq (ay rfl)<|bX<|bk<|dR<| ?_
 refine mX (fun k=>n-k) (fun k=>[(0,.slice A n c),(3,.string ⟨#[48,49,50,51,52,53,54,55,56,57,97,98,99,100,101,102]⟩),(4,.string (strOf (cG (l.take k)))),(5,.int .i64 (k:Nat))]) (fun k w' =>k≤n∧Fr No w w') 0 (⟨Nat.zero_le _,Fr.refl _ _⟩) (ab (t:=0) rfl<|ab (t:=3) rfl<|ab (t:=4) rfl<|ab (t:=5) rfl<|aZ) (fun k w1 ⟨hk,hf⟩=> ?_)
 refine bJ<|bJ<|bY<|nq (ai rfl)<|nq (ai rfl)<|nq (a6 rfl Tryz.underlying27)<|nq (bx rfl rfl)<|bX<|cE (ab (t:=11) rfl<|ab (t:=0) rfl<|ab (t:=3) rfl<|ab (t:=4) rfl<|ab (t:=5) rfl<|aZ)<|bk<| ?_
 refine x7 rfl (fun h=> ?_) (fun h=> ?_)
 ·have hkn:k<n:=by omega
  have hb:=(l.getD k 0).toNat_lt
  have hr1:=hr.x5 hf
  refine iH<|bk<|bJ<|dR<|bJ<|bY<|nq (ai rfl)<|nq (ai rfl)<|nq (aS rfl rfl Tryz.underlying27 dJ hr.2.1 rfl (by omega))<|nq (ak rfl iV (hr1.cell (bO (by omega))))<|nq (b8 rfl Tryz.underlying5 Tryz.underlying3 ((AX _)))<|nq (kd rfl rfl (by omega) (by omega) (bE (by omega) (by omega)))<|nq (ay rfl)<|bX<|cE (ab (t:=6) rfl<|ab (t:=11) rfl<|ab (t:=0) rfl<|ab (t:=3) rfl<|ab (t:=4) rfl<|ab (t:=5) rfl<|aZ)<|bk<|bJ<|bY<|nq (ai rfl)<|nq (ai rfl)<|nq (aS rfl rfl Tryz.underlying27 dJ hr.2.1 rfl (by omega))<|nq (ak rfl iV (hr1.cell (bO (by omega))))<|nq (b8 rfl Tryz.underlying5 Tryz.underlying3 ((AX _)))<|nq (hZ rfl rfl (by omega) (by omega))<|nq (ay rfl)<|bX<|cE (ab (t:=7) rfl<|ab (t:=6) rfl<|ab (t:=11) rfl<|ab (t:=0) rfl<|ab (t:=3) rfl<|ab (t:=4) rfl<|ab (t:=5) rfl<|aZ)<|bk<| ?_
  have hll:=dW (l.take k)
  have htl:(l.take k).length≤k:=List.length_take_le _ _
  refine GJ [(0,false),(1,false),(2,false),(3,false),(4,false),(5,false),(6,false),(7,false),(8,false),(9,false),(10,false),(11,false),(12,false),(13,false)] (by kernel_rfl) (by kernel_rfl) rfl (fun w' =>Fr No w w') (hf.eX (Fr.drew _)) (fun w2 hf2 hS2=> ?_)
  refine sq (fun w_ hS_=>ai rfl)<|sq (fun w_ hS_=>ai rfl)<|sq (fun w_ hS_=>ai rfl)<|sq (fun w_ hS_=>ai rfl)<|sq (fun w_ hS_=>aO rfl rfl (bE (by omega) (by omega)))<|sq (fun w_ hS_=>q9 rfl rfl rfl Tryz.underlying9 (show(((l.getD k 0).toNat/16:Nat):Int)=_ by omega) (show(((l.getD k 0).toNat/16+1:Nat):Int)=_ by omega) ((by omega)) ((by show _≤16;omega)))<|sq (fun w_ hS_=>iB rfl rfl ((by simp[da];omega)))<|sq (fun w_ hS_=>ai rfl)<|sq (fun w_ hS_=>ai rfl)<|sq (fun w_ hS_=>ai rfl)<|sq (fun w_ hS_=>aO rfl rfl (bE (by omega) (by omega)))<|sq (fun w_ hS_=>q9 rfl rfl rfl Tryz.underlying9 (show(((l.getD k 0).toNat % 16:Nat):Int)=_ by omega) (show(((l.getD k 0).toNat % 16+1:Nat):Int)=_ by omega) ((by omega)) ((by show _≤16;omega)))<|sq (fun w_ hS_=>yV (iB rfl rfl ((by simp[da,ByteArray.size_append];omega))) (congrArg Value.string (xu (by omega))))<|sq (fun w_ hS_=>ay rfl)<|send<|cE (ab (t:=4) rfl<|ab (t:=7) rfl<|ab (t:=6) rfl<|ab (t:=11) rfl<|ab (t:=0) rfl<|ab (t:=3) rfl<|ab (t:=5) rfl<|aZ)<|jS<|bk<|bY<|nq (ai rfl)<|nq (aO rfl rfl (bE (by omega) (by omega)))<|nq (ay rfl)<|bX<|cE (ab (t:=5) rfl<|ab (t:=4) rfl<|ab (t:=7) rfl<|ab (t:=6) rfl<|ab (t:=11) rfl<|ab (t:=0) rfl<|ab (t:=3) rfl<|aZ)<| ?_
  refine nK (k+1) (ab (t:=0) rfl<|ab (t:=3) rfl<|ab (t:=4) rfl<|ab (t:=5) rfl<|aZ) (⟨by omega,hS2⟩) (by omega)
 ·obtain rfl:k=n:=by omega
  refine lP<|cI<|cI<|dM<|bk<|bJ<|bY<|nq (ai rfl)<|nq (ay rfl)<|bX<|cE (ab (t:=2) rfl<|ab (t:=11) rfl<|ab (t:=0) rfl<|ab (t:=3) rfl<|ab (t:=4) rfl<|ab (t:=5) rfl<|aZ)<|bk<|iW<| ?_
  refine iY trivial rfl rfl ⟨?_,hf⟩
  rw[List.take_of_length_le (by omega)]
theorem name(a:List UInt8)(w:World)(ha:a.length=32):
  Calls Tryz.prog 104 #[.agg (aT a).toArray] w fun e w' =>e= .returned (.string (strOf (cG a)))∧Fr No w w' :=by
 refine enter (N:=5) Tryz.func104 rfl rfl (by simp) ?_
 refine bJ<|bY<| ?_
 refine nx (uj rfl fun g1 w1 hg1 hf1 hb1=> ?_)
 rw[aV]at hb1
 refine nq (ay rfl)<|bX<|bk<|bJ<|bY<|nq (A7 rfl Tryz.underlying53 dJ)<| ?_
 refine nx (jZ rfl Tryz.call177 (text _ _ _ a _ (Rd.lG hb1 (by rw[aA];omega)) (by omega)) ?_)
 rintro e_ w2 ⟨rfl,hf2⟩
 refine⟨_,rfl, ?_⟩
 refine nq (ay rfl)<|bX<|cE (ab (t:=2) rfl<|ab (t:=1) rfl<|ab (t:=0) rfl<|aZ)<|bk<|iW<| ?_
 exact iY trivial rfl rfl ⟨rfl,hf1.eX hf2⟩
theorem zg(v:Value)(w:World):(Extern.ReflectliteType.typeOf #[.iface 47 v]).run Tryz.prog w= .ok (.iface 312 (.agg #[.pointer (some ⟨2,47,none⟩)])) w:=by kernel_rfl
theorem rU (w : World) : ((Extern.ReflectliteType.method fun t => do Rtype.noPackHeld "Comparable" t; pure (.bool (← typeInfo t).comparable)) #[.agg #[.pointer (some ⟨2, 47, none⟩)]]).run Tryz.prog w = .ok (.bool true) w := by kernel_rfl
theorem lE (v : Value) (w : World) : (Go.method (Tryz.prog.types.size + Made.depth) 312 v "Comparable").run Tryz.prog w = .ok (341, v) w := by kernel_rfl
theorem Hm(v:Value)(xT:TypeId)(w:World):(Instr.typeAssert (.iface 47 v) xT 314 true).run Tryz.prog w= .ok (.tuple #[.nilIface,.bool false]) w:=run_typeAssert_lacksB Tryz.underlying314 (by kernel_rfl) (by kernel_rfl) v xT w
theorem z1(v:Value)(xT:TypeId)(w:World):(Instr.typeAssert (.iface 47 v) xT 317 true).run Tryz.prog w= .ok (.tuple #[.nilIface,.bool false]) w:=run_typeAssert_lacksB Tryz.underlying317 (by kernel_rfl) (by kernel_rfl) v xT w
theorem xQ(v:Value)(xT:TypeId)(w:World):(Instr.typeAssert (.iface 47 v) xT 319 true).run Tryz.prog w= .ok (.tuple #[.nilIface,.bool false]) w:=run_typeAssert_lacksB Tryz.underlying319 (by kernel_rfl) (by kernel_rfl) v xT w
theorem Fm(k m:Int)(w:World):
  Calls Tryz.prog 176 #[.iface 47 (.int .i64 k),.iface 47 (.int .i64 m),.bool true] w fun e w' =>e= .returned (.bool (decide (k=m)))∧w=w' :=by
 refine enter (N:=54) Tryz.func176 rfl rfl (by simp) ?_
 refine bJ<|bY<|nq (ay rfl)<|bX<|bk<|dR<| ?_
 refine mX (fun _=>0) (fun _=>[(0,.iface 47 (.int .i64 k)),(1,.iface 47 (.int .i64 m)),(2,.bool true)]) (fun _ w' =>w=w') 0 (rfl) (ab (t:=0) rfl<|ab (t:=1) rfl<|ab (t:=2) rfl<|aZ) (fun i w1 hw=> ?_)
 obtain rfl:=hw
 refine dR<|bJ<|bJ<|bY<|nq (ai rfl)<|nq (ai rfl)<|ng rfl rfl rfl (ai rfl)<|ng rfl rfl rfl (ai rfl)<|ng rfl rfl rfl (((E4 rfl rfl Tryz.underlying247 (by kernel_rfl) Tryz.underlying47)))<|nq (bz rfl rfl)<|bX<|cE (ab (t:=19) rfl<|ab (t:=0) rfl<|ab (t:=1) rfl<|ab (t:=2) rfl<|aZ)<|bk<| ?_
 refine x7 rfl (fun h=> ?_) (fun h=> ?_)
 ·refine bJ<|bY<|nq (ay rfl)<|bX<|bk<|iW<|kW<|iC<|kW<|iC<| ?_
  refine iY trivial rfl rfl ⟨?_,rfl⟩
  rw[decide_eq_true h]
 ·refine iH<|bk<|bJ<|bJ<|bY<|nq (ai rfl)<|nq (qu rfl ((Hm _ _ _)))<|nq (ai rfl)<|nq (aF rfl rfl)<|nq (aF rfl rfl)<|nq (ay rfl)<|nq (ay rfl)<|bX<|cE (ab (t:=8) rfl<|ab (t:=7) rfl<|ab (t:=19) rfl<|ab (t:=0) rfl<|ab (t:=1) rfl<|ab (t:=2) rfl<|aZ)<|bk<|bJ<|bY<|nq (ai rfl)<|nq (ai rfl)<|vO rfl rfl rfl (by decide)<|vO rfl rfl rfl (by decide)<|vO rfl rfl rfl (by decide)<|nq (bn rfl rfl)<|bX<|cE (ab (t:=30) rfl<|ab (t:=8) rfl<|ab (t:=7) rfl<|ab (t:=19) rfl<|ab (t:=0) rfl<|ab (t:=1) rfl<|ab (t:=2) rfl<|aZ)<|bk<| ?_
  refine xK rfl (rfl) ?_
  refine iH<|bk<|bJ<|bY<|nq (ai rfl)<|bX<|bk<|dR<|bJ<|bY<|nq (qu rfl ((z1 _ _ _)))<|nq (aF rfl rfl)<|nq (aF rfl rfl)<|bX<|cE (ab (t:=34) rfl<|ab (t:=33) rfl<|ab (t:=31) rfl<|ab (t:=30) rfl<|ab (t:=8) rfl<|ab (t:=7) rfl<|ab (t:=19) rfl<|ab (t:=0) rfl<|ab (t:=1) rfl<|ab (t:=2) rfl<|aZ)<|bk<| ?_
  refine xK rfl (rfl) ?_
  refine bJ<|bY<|nq (qu rfl ((xQ _ _ _)))<|nq (aF rfl rfl)<|nq (aF rfl rfl)<|bX<|cE (ab (t:=41) rfl<|ab (t:=40) rfl<|ab (t:=34) rfl<|ab (t:=33) rfl<|ab (t:=31) rfl<|ab (t:=30) rfl<|ab (t:=8) rfl<|ab (t:=7) rfl<|ab (t:=19) rfl<|ab (t:=0) rfl<|ab (t:=1) rfl<|ab (t:=2) rfl<|aZ)<|bk<| ?_
  refine xK rfl (rfl) ?_
  refine bJ<|bY<|nq (ay rfl)<|bX<|cE (ab (t:=41) rfl<|ab (t:=40) rfl<|ab (t:=34) rfl<|ab (t:=33) rfl<|ab (t:=31) rfl<|ab (t:=30) rfl<|ab (t:=8) rfl<|ab (t:=7) rfl<|ab (t:=19) rfl<|ab (t:=0) rfl<|ab (t:=1) rfl<|ab (t:=2) rfl<|aZ)<|bk<|bJ<|bY<|nq (ay rfl)<|bX<|bk<|iW<|iC<|iC<|kW<|iC<| ?_
  refine iY trivial rfl rfl ⟨?_,rfl⟩
  rw[decide_eq_false h]
theorem zk(k m:Int)(w:World):
    Calls Tryz.prog 103 #[.iface 47 (.int .i64 k),.iface 47 (.int .i64 m)] w fun e w' =>e= .returned (.bool (decide (k=m)))∧w=w' :=by
  refine enter (N:=22) Tryz.func103 rfl rfl (by simp) ?_
  refine bJ<|bY<|nq (ay rfl)<|bX<|bk<|bJ<|bJ<|bY<|nq (ai rfl)<|nq (((AR rfl rfl (by kernel_rfl))))<|nq (ai rfl)<|ng rfl rfl rfl (ai rfl)<|ng rfl rfl rfl (((AR rfl rfl (by kernel_rfl))))<|nq (bn rfl rfl)<|bX<|cE (ab (t:=11) rfl<|ab (t:=4) rfl<|ab (t:=0) rfl<|ab (t:=1) rfl<|aZ)<|bk<| ?_
  refine xK rfl (rfl) ?_
  refine iH<|bk<|bJ<|bY<|nq (ai rfl)<| ?_
  refine nq (C9 rfl Tryz.func175 (by kernel_rfl) (by kernel_rfl) (by kernel_rfl) (show _=some Extern.ReflectliteType.typeOf by kernel_rfl) (zg _ _)) ?_
  refine nq (DB rfl rfl (lE _ _) Tryz.func341 (by kernel_rfl) (by kernel_rfl) (by kernel_rfl) (g := Extern.ReflectliteType.method fun t => do Rtype.noPackHeld "Comparable" t; pure (.bool (← typeInfo t).comparable)) (by kernel_rfl) (rU _)) ?_
  refine nq (ay rfl)<|bX<|cE (ab (t:=5) rfl<|ab (t:=11) rfl<|ab (t:=4) rfl<|ab (t:=0) rfl<|ab (t:=1) rfl<|aZ)<|bk<|bJ<|bY<|nq (ai rfl)<|nq (ai rfl)<|nq (ai rfl)<| ?_
  refine nx (jZ rfl Tryz.call176 (Fm k m w) ?_)
  rintro e_ w1 ⟨rfl,rfl⟩
  refine⟨_,rfl, ?_⟩
  refine nq (ay rfl)<|bX<|cE (ab (t:=4) rfl<|ab (t:=5) rfl<|ab (t:=11) rfl<|ab (t:=0) rfl<|ab (t:=1) rfl<|aZ)<|bk<|iW<| ?_
  exact iY trivial rfl rfl ⟨rfl,rfl⟩
theorem Gz(a:List UInt8)(w:World)(ha:a.length=32):
  Calls Tryz.prog 111 #[.agg (aT a).toArray] w fun e w' =>e= .returned (.string (strOf (cG a)))∧Fr No w w' :=by
 refine enter (N:=6) Tryz.func111 rfl rfl (by simp) ?_
 refine bJ<|bY<| ?_
 refine nx (uj rfl fun g1 w1 hg1 hf1 hb1=> ?_)
 rw[aV]at hb1
 refine nq (ay rfl)<|bX<|bk<|bJ<|bY<|nq (aP rfl cB b7 ((by rw[aA];exact ha)) hb1.aw)<| ?_
 refine nx (jZ rfl Tryz.call183 (bytes a _ ha) ?_)
 rintro e_ w2 ⟨v,rfl,hv,hf2⟩
 refine⟨_,rfl, ?_⟩
 obtain⟨Av,cv,rfl,hcv⟩:=hv.slice
 refine nx (jZ rfl Tryz.call182 (Fy Av _ cv a _ ((Own.rd hv).2.2) (by omega)) ?_)
 rintro e_ w3 ⟨rfl,hf3⟩
 refine⟨_,rfl, ?_⟩
 refine nq (ay rfl)<|bX<|cE (ab (t:=2) rfl<|ab (t:=1) rfl<|ab (t:=0) rfl<|aZ)<|bk<|iW<| ?_
 exact iY trivial rfl rfl ⟨rfl,(hf1.eX hf2).eX hf3⟩
end Go.Proofs.YtmibdabdlgmafaaGreatDoor
end
section
set_option maxRecDepth 20000
namespace Go.Proofs.YtmibdabdlgmafaaGreatDoor
open Go.Eng Go.Hx
theorem yx{a:List UInt8}(ha:a.length=32):cf Tryz.prog 104 [.agg (aT a).toArray] [] [] (fun v_ X_ S_=>v_=(.string (strOf (cG a)))∧X_=[]∧S_=[]):=by
 exact jn fun m=>Calls.mono (name a _ ha) (fun e w' ⟨h,hf⟩=>⟨_,h,⟨rfl,rfl,rfl⟩,hf⟩)
theorem wY{a:List UInt8}(ha:a.length=32):cf Tryz.prog 111 [.agg (aT a).toArray] [] [] (fun v_ X_ S_=>v_=(.string (strOf (cG a)))∧X_=[]∧S_=[]):=by
 exact jn fun m=>Calls.mono (Gz a _ ha) (fun e w' ⟨h,hf⟩=>⟨_,h,⟨rfl,rfl,rfl⟩,hf⟩)
theorem DL{k q:Int}:cf Tryz.prog 103 [.iface 47 (.int .i64 k),.iface 47 (.int .i64 q)] [] [] (fun v_ X_ S_=>v_=(.bool (decide (k=q)))∧X_=[]∧S_=[]):=by
 exact jn fun m=>Calls.mono (zk k q _) (fun e w' ⟨h,hw⟩=>⟨_,h,⟨rfl,rfl,rfl⟩,hw▸Fr.refl _ _⟩)
end Go.Proofs.YtmibdabdlgmafaaGreatDoor
end
