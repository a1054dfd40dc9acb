/- Part. -/
import Derived.WalkKit
import Derived.OrdersHeld
import Derived.Laws.IdiomStrings
import Derived.WalkLawsBesides
import Derived.DeepKeys
import Derived.ChangeSlices
import Derived.Laws.Tables
import Derived.Stop.Asserts
import Derived.Stop.IfaceNil
import Derived.LaidEql
import Derived.Lib.IfaceEq
import Derived.Lib.SliceRun
import Derived.Laws.BitsAllLaws
import Derived.Lib.AppendZerosOnto
import Derived.Lib.Overlaps
import Derived.Laws.Pointers
import Derived.Maps.RangeRun
import Derived.Conc.MuLone
import Derived.Defers
import Derived.WalkSpells
import Derived.Laws.MakeOwn
set_option linter.all false
section
namespace Go.Eng
open Go.RowKit
abbrev Env:=List (Nat×Value)
def get:Env→Nat→Option Value
 | [],_=>none
 |(k,v)::r,t=>bif Nat.beq k t then some v else get r t
structure Ag(N:Nat)(D:List Deferred)(ρ:Env)(a:Act):Prop where
 sz:a.tmps.size=N
 df:a.defers=D
 gt:∀t v,get ρ t=some v→a.tmps[t]? =some v
def ev(ρ:Env):Operand→Option Value
 | .tmp t=>get ρ t
 | .const v=>some v
 | .global g=>some (.pointer (some ⟨g,0,none⟩))
 | .func f=>some (.func (.func f) #[] #[])
def mP(ρ:Env):List Operand→Option (List Value)
 | []=>some []
 |x::r=>match ev ρ x,mP ρ r with
  |some v,some vs=>some (v::vs)
  |_,_=>none
section
variable{P:Program}{N:Nat}{D:List Deferred}{ρ ρ' :Env}{a:Act}{w:World}
theorem Ag.eval{x:Operand}{v:Value}(h:Ag N D ρ a)(hx:ev ρ x=some v):a.eval x=v:=by
 cases x with
 |tmp t=>
  have:=h.gt t v hx
  simp[Act.eval,this]
 |const c=>simpa[ev,Act.eval]using hx
 |global g=>simpa[ev,Act.eval]using hx
 |func f=>simpa[ev,Act.eval]using hx
theorem Ag.gM(h:Ag N D ρ a):∀{l:List Operand} {vs:List Value},mP ρ l=some vs→l.map a.eval=vs
 | [],vs,hl=>by simpa[mP]using hl
 |x::r,vs,hl=>by
  unfold mP at hl
  split at hl
  ·rename_i v us hv hus
   cases hl
   simp[h.eval hv,h.gM hus]
  ·cases hl
theorem Ag.put{d:Nat}{v:Value}(h:Ag N D ρ a)(hd:d<N):Ag N D ((d,v)::ρ) (a.put (some d) v):=by
 refine⟨by simp[Act.put,h.sz],by simp[Act.put,h.df],fun t u ht=> ?_⟩
 simp only[get]at ht
 cases hb:Nat.beq d t with
 |true=>
  have:d=t:=Nat.eq_of_beq_eq_true hb
  subst this
  rw[hb]at ht
  simp only[cond_true,Option.some.injEq]at ht
  subst ht
  simp[Act.put,h.sz,hd]
 |false=>
  have hne:d≠t:=Nat.ne_of_beq_eq_false hb
  rw[hb]at ht
  simp only[cond_false]at ht
  simp only[Act.put]
  rw[Array.getElem?_setIfInBounds_ne hne]
  exact h.gt t u ht
def Sub(ρ' ρ:Env):Prop:=∀t v,get ρ' t=some v→get ρ t=some v
theorem aZ:Sub [] ρ:=fun t v h=>by simp[get]at h
theorem ab{t:Nat}{v:Value}(h:get ρ t=some v)(hs:Sub ρ' ρ):Sub ((t,v)::ρ') ρ:=fun u x hu=>by
 simp only[get]at hu
 cases hb:Nat.beq t u with
 |true=>
  have:t=u:=Nat.eq_of_beq_eq_true hb
  subst this
  rw[hb]at hu
  simp only[cond_true,Option.some.injEq]at hu
  exact hu▸h
 |false=>
  rw[hb]at hu
  exact hs u x hu
theorem Ag.sub(h:Ag N D ρ a)(hs:Sub ρ' ρ):Ag N D ρ' a:=⟨h.sz,h.df,fun t v ht=>h.gt t v (hs t v ht)⟩
end
def WL(P:Program)(ops:Array Oper)(Q:Exit→Act→World→Prop)(N:Nat)(D:List Deferred)(l:List Oper)(ρ:Env)(w:World):Prop:=
 ∀a,Ag N D ρ a→wpList P ops Q l a w
def WC(P:Program)(Q:Exit→Act→World→Prop)(N:Nat)(D:List Deferred)(c:Code)(ρ:Env)(w:World):Prop:=
 ∀a,Ag N D ρ a→c.wp P Q a w
def WQ(Q:Exit→Act→World→Prop)(N:Nat)(D:List Deferred)(e:Exit)(ρ:Env)(w:World):Prop:=
 ∀a,Ag N D ρ a→Q e a w
def Yl(P:Program)(N:Nat)(D:List Deferred)(ρ:Env)(w:World)(op:Op)(ty:TypeId)(v:Value):Prop:=
 ∀a dst pos af g,Ag N D ρ a→(execOp a.eval ⟨dst,op,ty,pos,af,g⟩).run P w= .ok (.value v) w
def XW(P:Program)(Q:Exit→Act→World→Prop)(N:Nat)(D:List Deferred)(ρ:Env)(w:World)(op:Op)(ty:TypeId)(K:Value→World→Prop):Prop:=
 ∀a dst pos af g,Ag N D ρ a→(⟨dst,op,ty,pos,af,g⟩:Oper).wp P a w (fun a' w' =>∃v,a' =a.put dst v∧K v w') Q
section
variable{P:Program}{ops:Array Oper}{Q:Exit→Act→World→Prop}{N:Nat}{D:List Deferred}{ρ ρ' :Env}{w:World}{rest:List Oper}
 {op:Op} {ty:TypeId} {pos:String} {af:Array Edge} {d:Nat} {v:Value}
theorem nq(h:Yl P N D ρ w op ty v)(k:WL P ops Q N D rest ((d,v)::ρ) w)(hd:d<N:=by decide):WL P ops Q N D (⟨some d,op,ty,pos,af,none⟩::rest) ρ w:=by
 intro a ha
 unfold wpList
 rw[if_pos (by simp[Region.wanted])]
 refine .inl ?_
 unfold Oper.wp
 rw[h a _ pos af none ha]
 exact k _ (ha.put hd)
theorem nx(h:XW P Q N D ρ w op ty (fun v w' =>WL P ops Q N D rest ((d,v)::ρ) w'))(hd:d<N:=by decide):WL P ops Q N D (⟨some d,op,ty,pos,af,none⟩::rest) ρ w:=by
 intro a ha
 unfold wpList
 rw[if_pos (by simp[Region.wanted])]
 refine .inl (Oper.wp_mono ?_ (h a (some d) pos af none ha))
 rintro a' w' ⟨v,rfl,hk⟩
 exact hk _ (ha.put hd)
theorem Ia(h:XW P Q N D ρ w op ty (fun _ w' =>WL P ops Q N D rest ρ w')):WL P ops Q N D (⟨none,op,ty,pos,af,none⟩::rest) ρ w:=by
 intro a ha
 unfold wpList
 rw[if_pos (by simp[Region.wanted])]
 refine .inl (Oper.wp_mono ?_ (h a none pos af none ha))
 rintro a' w' ⟨v,rfl,hk⟩
 exact hk _ ha
theorem bX(h:WQ Q N D .normal ρ w):WL P ops Q N D [] ρ w:=fun a ha=>h a ha
theorem cE{e:Exit}(hs:Sub ρ' ρ)(h:WQ Q N D e ρ' w):WQ Q N D e ρ w:=fun a ha=>h a (ha.sub hs)
theorem ng{g:Nat}{want:Bool}{gd:Nat}{o:Oper}(ho:ops[g]? =some o)(hod:o.dst=some gd)(hb:get ρ gd=some (.bool want))(h:Yl P N D ρ w op ty v)
  (k:WL P ops Q N D rest ((d,v)::ρ) w) (hd:d<N:=by decide):WL P ops Q N D (⟨some d,op,ty,pos,af,some (g,want)⟩::rest) ρ w:=by
 intro a ha
 unfold wpList
 rw[if_pos (by simp[Region.wanted,yielded,ho,hod,ha.gt _ _ hb])]
 refine .inl ?_
 unfold Oper.wp
 rw[h a _ pos af (some (g,want)) ha]
 exact k _ (ha.put hd)
end
section
variable{P:Program}{Q:Exit→Act→World→Prop}{N:Nat}{D:List Deferred}{ρ ρ' :Env}{w:World}{c c' :Code}
theorem bJ(h:WC P (Exit.then (c'.wp P Q) Q) N D c ρ w):WC P Q N D (.seq c c') ρ w:=fun a ha=>wp_seq (h a ha)
theorem bY{id:Nat}{l:List Oper}(h:WL P l.toArray Q N D l ρ w):WC P Q N D (.region id l.toArray false) ρ w:=fun a ha=>wp_region_lit (h a ha)
theorem iH(h:WQ Q N D .normal ρ w):WC P Q N D .skip ρ w:=fun a ha=>wp_skip (h a ha)
theorem lP{id:Nat}(h:WQ Q N D (.exit id) ρ w):WC P Q N D (.exit id) ρ w:=fun a ha=>wp_exit (h a ha)
theorem iW(h:WQ Q N D .ret ρ w):WC P Q N D .ret ρ w:=fun a ha=>wp_ret (h a ha)
theorem dR{id:Nat}(h:WC P (Exit.inBlock id Q) N D c ρ w):WC P Q N D (.block id c) ρ w:=fun a ha=>wp_block (h a ha)
theorem x7{p:Prop}[Decidable p]{x:Operand}{t e:Code}(hc:ev ρ x=some (.bool (decide p)))(ht:p→WC P Q N D t ρ w)(he:¬p→WC P Q N D e ρ w):WC P Q N D (.cond x t e) ρ w:=
 fun a ha=>wp_cond_split (ha.eval hc) (fun h=>ht (of_decide_eq_true h) a ha) (fun h=>he (of_decide_eq_false h) a ha)
theorem H6{b:Bool}{x:Operand}{t e:Code}(hc:ev ρ x=some (.bool b))(ht:b=true→WC P Q N D t ρ w)(he:b=false→WC P Q N D e ρ w):WC P Q N D (.cond x t e) ρ w:=
 fun a ha=>wp_cond_split (ha.eval hc) (fun h=>ht h a ha) (fun h=>he h a ha)
theorem Gy{x:Operand}{t e:Code}{b:Bool}(hc:ev ρ x=some (.bool b))(hb:b=true)(ht:WC P Q N D t ρ w):WC P Q N D (.cond x t e) ρ w:=
 fun a ha=>wp_cond_true (hb▸ha.eval hc) (ht a ha)
theorem xK{x:Operand}{t e:Code}{b:Bool}(hc:ev ρ x=some (.bool b))(hb:b=false)(ht:WC P Q N D e ρ w):WC P Q N D (.cond x t e) ρ w:=
 fun a ha=>wp_cond_false (hb▸ha.eval hc) (ht a ha)
theorem y6{ι:Type}(μ:ι→Nat)(R:ι→Env)(I:ι→World→Prop)(i:ι)(hi:I i w)(hs:Sub (R i) ρ)
  (round:∀i w,I i w→WC P (Exit.then (fun a' w' =>∃j,Ag N D (R j) a' ∧I j w' ∧μ j<μ i) Q) N D c (R i) w):WC P Q N D (.loop c) ρ w:=by
 intro a ha b k cs
 have key:∀n i a w,μ i=n→Ag N D (R i) a→I i w→
   ∃e a' w',Q e a' w' ∧Arrives P (lone (b.at a (.code c:: .inLoop c::k)) cs w) b k cs e a' w' :=by
  intro n
  induction n using Nat.strongRecOn with
  |_ n ih=>
   intro i a w hn hag hI
   obtain⟨e,a₁,w₁,hq,harr⟩:=round i w hI a hag b (.inLoop c::k) cs
   cases e with
   |normal=>
    obtain⟨j,haj,hIj,hlt⟩:=hq
    obtain⟨e₂,a₂,w₂,hq₂,harr₂⟩:=ih (μ j) (hn▸hlt) j a₁ w₁ rfl haj hIj
    exact⟨e₂,a₂,w₂,hq₂,.of_steps (Steps.trans harr (.one step_inLoop)) harr₂⟩
   |exit id=>exact⟨_,a₁,w₁,hq,.pass (x:=.inLoop c) rfl (fun _ _=>.inl (by simp)) harr⟩
   |goto l=>exact⟨_,a₁,w₁,hq,.pass (x:=.inLoop c) rfl (fun _ _=>.inl (by simp)) harr⟩
   |ret=>exact⟨_,a₁,w₁,hq,.pass (x:=.inLoop c) rfl (fun _ _=>.inl (by simp)) harr⟩
   |panic ch=>exact⟨_,a₁,w₁,hq,.pass (x:=.inLoop c) rfl (fun _ _=>.inl (by simp)) harr⟩
   |outgrown=>exact⟨_,a₁,w₁,hq,.pass (x:=.inLoop c) rfl (fun _ _=>.inl (by simp)) harr⟩
 obtain⟨e,a',w',hq,harr⟩:=key _ i a w rfl (ha.sub hs) hi
 exact⟨e,a',w',hq,.of_steps (.one step_loop) harr⟩
end
section
variable{P:Program}{N:Nat}{D:List Deferred}{ρ:Env}{w:World}{ty t t' :TypeId}{x y z:Operand}{v v' :Value}{k:IntKind}{m n r:Int}
theorem bE{r:Int}(h1:-9223372036854775808≤r)(h2:r≤9223372036854775807):IntKind.i64.wrap r=r:=IntWalk.i64_in _ (by omega)
theorem ai(h:ev ρ x=some v):Yl P N D ρ w (.move x) ty v:=fun a _ _ _ _ ha=>by simp[execOp,ha.eval h]
theorem ay(h:ev ρ x=some v):Yl P N D ρ w (.assign x) ty v:=fun a _ _ _ _ ha=>by simp[execOp,ha.eval h]
theorem bz(hc:ev ρ z=some (.bool true))(hx:ev ρ x=some v):Yl P N D ρ w (.pick z x y) ty v:=
 fun a _ _ _ _ ha=>by simp[execOp,ha.eval hc,ha.eval hx,asBool]
theorem bn(hc:ev ρ z=some (.bool false))(hx:ev ρ y=some v):Yl P N D ρ w (.pick z x y) ty v:=
 fun a _ _ _ _ ha=>by simp[execOp,ha.eval hc,ha.eval hx,asBool]
theorem aO(hx:ev ρ x=some (.int k m))(hy:ev ρ y=some (.int k n))(hb:k.wrap (m+n)=r):Yl P N D ρ w (.binOp .add t x y t') ty (.int k r):=
 fun a _ _ _ _ ha=>by simp[execOp,ha.eval hx,ha.eval hy,eqGuard,binOp,Op.intArith,hb]
theorem ct(hx:ev ρ x=some (.int k m))(hy:ev ρ y=some (.int k n))(hb:k.wrap (m-n)=r):Yl P N D ρ w (.binOp .sub t x y t') ty (.int k r):=
 fun a _ _ _ _ ha=>by simp[execOp,ha.eval hx,ha.eval hy,eqGuard,binOp,Op.intArith,hb]
theorem gz(hx:ev ρ x=some (.int k m))(hy:ev ρ y=some (.int k n))(hb:k.wrap (m*n)=r):Yl P N D ρ w (.binOp .mul t x y t') ty (.int k r):=
 fun a _ _ _ _ ha=>by simp[execOp,ha.eval hx,ha.eval hy,eqGuard,binOp,Op.intArith,hb]
theorem kd(hx:ev ρ x=some (.int k m))(hy:ev ρ y=some (.int k n))(h0:0≤m)(h1:0<n)(hb:k.wrap (m/n)=r):Yl P N D ρ w (.binOp .quo t x y t') ty (.int k r):=
 fun a _ _ _ _ ha=>by simp[execOp,ha.eval hx,ha.eval hy,eqGuard,binOp,Op.intDiv,Int.ne_of_gt h1,Int.tdiv_eq_ediv_of_nonneg h0,hb]
theorem hZ(hx:ev ρ x=some (.int k m))(hy:ev ρ y=some (.int k n))(h0:0≤m)(h1:0<n):Yl P N D ρ w (.binOp .rem t x y t') ty (.int k (m % n)):=
 fun a _ _ _ _ ha=>by simp[execOp,ha.eval hx,ha.eval hy,eqGuard,binOp,Op.intDiv,Int.ne_of_gt h1,Int.tmod_eq_emod_of_nonneg h0]
theorem ET(hx:ev ρ x=some (.int k m))(hy:ev ρ y=some (.int k n))(h1:n≠0):Yl P N D ρ w (.binOp .rem t x y t') ty (.int k (m.tmod n)):=
 fun a _ _ _ _ ha=>by simp[execOp,ha.eval hx,ha.eval hy,eqGuard,binOp,Op.intDiv,h1]
theorem bx(hx:ev ρ x=some (.int k m))(hy:ev ρ y=some (.int k n)):Yl P N D ρ w (.binOp .lss t x y t') ty (.bool (decide (m<n))):=
 fun a _ _ _ _ ha=>by simp[execOp,ha.eval hx,ha.eval hy,eqGuard,binOp,Op.intCmp]
theorem jo(hx:ev ρ x=some (.int k m))(hy:ev ρ y=some (.int k n)):Yl P N D ρ w (.binOp .leq t x y t') ty (.bool (decide (m≤n))):=
 fun a _ _ _ _ ha=>by simp[execOp,ha.eval hx,ha.eval hy,eqGuard,binOp,Op.intCmp]
theorem cw(hx:ev ρ x=some (.int k m))(hy:ev ρ y=some (.int k n)):Yl P N D ρ w (.binOp .gtr t x y t') ty (.bool (decide (n<m))):=
 fun a _ _ _ _ ha=>by simp[execOp,ha.eval hx,ha.eval hy,eqGuard,binOp,Op.intCmp]
theorem eO(hx:ev ρ x=some (.int k m))(hy:ev ρ y=some (.int k n)):Yl P N D ρ w (.binOp .geq t x y t') ty (.bool (decide (n≤m))):=
 fun a _ _ _ _ ha=>by simp[execOp,ha.eval hx,ha.eval hy,eqGuard,binOp,Op.intCmp]
theorem cD(hx:ev ρ x=some (.int k m))(hy:ev ρ y=some (.int k n)):Yl P N D ρ w (.binOp .eql t x y t') ty (.bool (decide (m=n))):=
 fun a _ _ _ _ ha=>by
  have:(m == n)=decide (m=n):=by by_cases h:m=n <;> simp[h]
  simp[execOp,ha.eval hx,ha.eval hy,eqGuard,binOp,Op.intCmp,this]
theorem de(hx:ev ρ x=some (.int k m))(hy:ev ρ y=some (.int k n)):Yl P N D ρ w (.binOp .neq t x y t') ty (.bool (decide (m≠n))):=
 fun a _ _ _ _ ha=>by
  have:(m != n)=decide (m≠n):=by by_cases h:m=n <;> simp[h]
  simp[execOp,ha.eval hx,ha.eval hy,eqGuard,binOp,Op.intCmp,this]
theorem w8{k' :IntKind}{p:Int}(hx:ev ρ x=some (.int k m))(hy:ev ρ y=some (.int k' n))(h0:0≤n)(h1:n<k.bits)(hp:2 ^ n.toNat=p)(hb:k.wrap (m*p)=r):Yl P N D ρ w (.binOp .shl t x y t') ty (.int k r):=
 fun a _ _ _ _ ha=>by
  subst hp
  have h2:¬n<0:=by omega
  have h3:min n.toNat k.bits=n.toNat:=by omega
  simp[execOp,ha.eval hx,ha.eval hy,eqGuard,binOp,Op.shift,h2,h3,hb]
theorem mE{k' :IntKind}{p:Int}(hx:ev ρ x=some (.int k m))(hy:ev ρ y=some (.int k' n))(h0:0≤n)(h1:n<k.bits)(hp:2 ^ n.toNat=p):Yl P N D ρ w (.binOp .shr t x y t') ty (.int k (m/p)):=
 fun a _ _ _ _ ha=>by
  subst hp
  have h2:¬n<0:=by omega
  have h3:min n.toNat k.bits=n.toNat:=by omega
  have h4:m.fdiv (2 ^ n.toNat)=m/2 ^ n.toNat:=Int.fdiv_eq_ediv_of_nonneg _ (Int.le_of_lt (Int.pow_pos (by decide)))
  simp[execOp,ha.eval hx,ha.eval hy,eqGuard,binOp,Op.shift,h2,h3,h4]
theorem gJ{op:BinOp}(hop:op= .and∨op= .or∨op= .xor∨op= .andNot)(hx:ev ρ x=some (.int k m))(hy:ev ρ y=some (.int k n))(hr:bits op k m n=r):Yl P N D ρ w (.binOp op t x y t') ty (.int k r):=
 fun a _ _ _ _ ha=>by
  subst hr
  rcases hop with rfl|rfl|rfl|rfl <;> simp[execOp,ha.eval hx,ha.eval hy,eqGuard,binOp,Op.intBits,bits]
theorem wX(hx:ev ρ x=some (.int k m))(hb:k.wrap (-m)=r):Yl P N D ρ w (.unOp .neg t x) ty (.int k r):=
 fun a _ _ _ _ ha=>by simp[execOp,ha.eval hx,Op.unary,Op.intArith,hb]
theorem j5{b:Bool}(hx:ev ρ x=some (.bool b)):Yl P N D ρ w (.unOp .not t x) ty (.bool (!b)):=
 fun a _ _ _ _ ha=>by simp[execOp,ha.eval hx,Op.unary]
theorem eu{p:Prop}[Decidable p](hx:ev ρ x=some (.bool (decide p))):Yl P N D ρ w (.unOp .not t x) ty (.bool (decide (¬p))):=
 fun a _ _ _ _ ha=>by simp[execOp,ha.eval hx,Op.unary]
theorem b8{k' :IntKind}{td:TypeDesc}(hx:ev ρ x=some (.int k' m))(ht:P.underlying t=some td)(ht' :P.underlying t' =some (.int k))(hb:k.wrap m=r):Yl P N D ρ w (.convert t t' x) ty (.int k r):=
 fun a _ _ _ _ ha=>by
  cases td <;> simp[execOp,ha.eval hx,convert,run_underlying ht,run_underlying ht',Conv.intToInt,hb]
theorem aF{vs:Array Value}{i:Nat}(hx:ev ρ x=some (.tuple vs))(hv:vs[i]? =some v):Yl P N D ρ w (.extract x i) ty v:=
 fun a _ _ _ _ ha=>by simp[execOp,ha.eval hx,Instr.extract,hv]
theorem aL{a:Addr}(hx:ev ρ x=some (.pointer (some a))):Yl P N D ρ w (.nilCheck x) ty (.pointer (some a)):=
 fun a _ _ _ _ ha=>by simp[execOp,ha.eval hx]
theorem a6{e:TypeId}{A:Option Addr}{n c:Nat}(hx:ev ρ x=some (.slice A n c))(ht:P.underlying t=some (.slice e)):Yl P N D ρ w (.call ⟨.builtin .len, #[x], #[t]⟩) ty (.int .i64 n):=
 fun a _ _ _ _ ha=>by simp[execOp,resolve,invoke,builtin,Builtin.len_,ha.eval hx,run_underlying ht,goInt]
end
structure Fr(S:Nat→Prop)(w w' :World):Prop where
 os:w'.os=w.os
 tape:w'.tape=w.tape
 output:w'.output=w.output
 size:w.heap.size≤w'.heap.size
 block:∀k,k<w.heap.size→¬S k→w'.heap[k]? =w.heap[k]?
def No:Nat→Prop:=fun _=>False
theorem Fr.refl(S:Nat→Prop)(w:World):Fr S w w:=⟨rfl,rfl,rfl,Nat.le_refl _,fun _ _ _=>rfl⟩
theorem Fr.trans{S T U:Nat→Prop}{a b c:World}(h:Fr S a b)(k:Fr T b c)(hs:∀i,S i→U i)(ht:∀i,i<a.heap.size→T i→U i):Fr U a c:=
 ⟨k.os.trans h.os,k.tape.trans h.tape,k.output.trans h.output,Nat.le_trans h.size k.size,fun i hi hu=>
  (k.block i (Nat.lt_of_lt_of_le hi h.size) (fun e=>hu (ht i hi e))).trans (h.block i hi (fun e=>hu (hs i e)))⟩
theorem Fr.eX{S:Nat→Prop}{a b c:World}(h:Fr S a b)(k:Fr No b c):Fr S a c:=h.trans k (fun _ e=>e) (fun _ _ e=>e.elim)
theorem Fr.mono{S T:Nat→Prop}{a b:World}(h:Fr S a b)(hs:∀i,i<a.heap.size→S i→T i):Fr T a b:=
 ⟨h.os,h.tape,h.output,h.size,fun i hi hu=>h.block i hi (fun e=>hu (hs i hi e))⟩
theorem Fr.new{S:Nat→Prop}{a b c:World}(h:Fr S a b){T:Nat→Prop}(k:Fr T b c)(hs:∀i,T i→a.heap.size≤i):Fr S a c:=
 h.trans k (fun _ e=>e) (fun i hi e=>absurd (hs i e) (by omega))
theorem Fr.below{w w' :World}(h:Fr No w w'):Below w.heap.size w w' :=⟨h.os,h.tape,h.output,h.size,fun k hk=>h.block k hk (fun e=>e)⟩
theorem Fr.xO{w w' :World}(h:w.grownBy w' none):Fr No w w' :=⟨h.os,h.tape,h.output,h.size,fun k hk _=>h.block k hk (fun e=>by cases e)⟩
theorem Fr.cell{S:Nat→Prop}{w w' :World}(h:Fr S w w'){p:Addr}(hp:p.block<w.heap.size)(hn:¬S p.block):w'.cell? p=w.cell? p:=
 World.cell?_of_block (h.block _ hp hn)
theorem Fr.alloc(w:World)(o:Obj):Fr No w (w.alloc o):=.xO (World.grownBy_alloc w o none)
theorem Fr.drew(w:World):Fr No w w.drew:=⟨rfl,rfl,rfl,Nat.le_refl _,fun _ _ _=>rfl⟩
theorem lu{w:World}{a:Addr}{v:Value}(h:w.cell? a=some v):a.block<w.heap.size:=World.block_lt_of_cell? w a h
theorem jt(a:Addr)(n:Nat):(a.add n).block=a.block:=by unfold Addr.add;split <;> rfl
theorem add_add(a:Addr)(i j:Nat):(a.add i).add j=a.add (i+j):=by
 unfold Addr.add
 by_cases hi:i=0 <;> by_cases hj:j=0 <;> simp[hi,hj,Nat.add_assoc]
theorem v8{S:Nat→Prop}{w w' :World}{p:Addr}{v:Value}(h:w.cell? p=some v)(f:Fr S w w')(hn:¬S p.block):w'.cell? p=some v:=
 (f.cell (lu h) hn).trans h
def e8(w:World)(g:Nat)(t:TypeId)(cs:List Value):Prop:=
 ∃f:Nat×Nat,w.heap[g]? =some (.cells cs.toArray t f)∧(∀i,i<cs.length→(decide (f.1≤i) && decide (i<f.2))=false)∧f.1≤f.2
section
variable{w w' :World}{g:Nat}{t:TypeId}{cs:List Value}{S:Nat→Prop}
theorem cV{w:World}{g:Nat}{o:Obj}(h:w.heap[g]? =some o):g<w.heap.size:=by
 rcases Nat.lt_or_ge g w.heap.size with hlt|hge
 ·exact hlt
 ·rw[Array.getElem?_eq_none hge]at h;cases h
theorem e8.lt(h:e8 w g t cs):g<w.heap.size:=by obtain⟨f,h,_⟩:=h;exact cV h
theorem ez(g o i:Nat):(⟨g,o,none⟩:Addr).add i=⟨g,o+i,none⟩:=by unfold Addr.add;split <;> simp_all
theorem e8.cell(h:e8 w g t cs){i:Nat}{v:Value}(hv:cs[i]? =some v):w.cell? ⟨g,i,none⟩=some v:=by
 obtain⟨f,h,_⟩:=h
 simp[World.cell?,h,hv]
theorem e8.tT(h:e8 w g t cs){o i:Nat}{v:Value}(hv:cs[o+i]? =some v):w.cell? ((⟨g,o,none⟩:Addr).add i)=some v:=by
 rw[ez];exact h.cell hv
theorem e8.frozen(h:e8 w g t cs){i:Nat}(hi:i<cs.length):w.frozen? ⟨g,i,none⟩=false:=by
 obtain⟨f,h,hf⟩:=h
 simpa[World.frozen?,h]using hf.1 i hi
theorem e8.fr(h:e8 w g t cs)(f:Fr S w w')(hn:¬S g):e8 w' g t cs:=by
 have hl:=h.lt
 obtain⟨x,h,hf⟩:=h
 exact⟨x,(f.block g hl hn).trans h,hf⟩
theorem e8.x5(h:e8 w g t cs)(f:Fr No w w'):e8 w' g t cs:=h.fr f (fun e=>e)
theorem e8.new(w:World)(t:TypeId)(cs:List Value):e8 (w.alloc (.cells cs.toArray t)) w.heap.size t cs:=⟨(0,0),heap_alloc_new w _,fun i _=>by simp,Nat.le_refl _⟩
theorem e8.set(h:e8 w g t cs)(i:Nat)(u:Value):e8 (w.setCell ⟨g,i,none⟩ u) g t (cs.set i u):=by
 obtain⟨f,h,hf⟩:=h
 refine⟨f, ?_,fun j hj=>hf.1 j (by simpa using hj),hf.2⟩
 simp[World.setCell,Array.getElem?_modify,h]
theorem Fr.setCell(w:World)(p:Addr)(u:Value):Fr (fun k=>k=p.block) w (w.setCell p u):=
 ⟨rfl,rfl,rfl,by simp[World.setCell],fun k _ hn=>by simp[World.setCell,Array.getElem?_modify];intro e;exact absurd e.symm hn⟩
theorem size_setCell(w:World)(p:Addr)(u:Value):(w.setCell p u).heap.size=w.heap.size:=by simp[World.setCell]
end
def bD(cs:List Value)(o:Nat)(vs:List Value):List Value:=cs.take o++vs++cs.drop (o+vs.length)
theorem en{cs vs:List Value}{o:Nat}(h:o+vs.length≤cs.length):(bD cs o vs).length=cs.length:=by
 simp[bD];omega
theorem oa{cs rest:List Value}{o:Nat}{v:Value}(h:o<cs.length):bD (cs.set o v) (o+1) rest=bD cs o (v::rest):=by
 unfold bD
 have h1:(cs.set o v).take (o+1)=cs.take o++[v]:=by
  rw[List.set_eq_take_append_cons_drop,if_pos h,List.take_append]
  simp[List.length_take,Nat.min_eq_left (Nat.le_of_lt h),List.take_take]
 rw[h1,List.drop_set_of_lt (by omega)]
 simp[Nat.add_assoc,Nat.add_comm 1]
theorem pF{cs:List Value}{o:Nat}:bD cs o []=cs:=by simp[bD]
theorem pE{cs vs:List Value}{o i:Nat}(h:o+vs.length≤cs.length):(bD cs o vs)[i]? =if i<o then cs[i]? else if i<o+vs.length then vs[i-o]? else cs[i]? :=by
 unfold bD
 have hl:(cs.take o).length=o:=by simp;omega
 by_cases h1:i<o
 ·rw[if_pos h1,List.append_assoc,List.getElem?_append_left (by omega),List.getElem?_take,if_pos h1]
 ·rw[if_neg h1,List.append_assoc,List.getElem?_append_right (by omega),hl]
  by_cases h2:i<o+vs.length
  ·rw[if_pos h2,List.getElem?_append_left (by omega)]
  ·rw[if_neg h2,List.getElem?_append_right (by omega),List.getElem?_drop]
   congr 1
   omega
section
variable{P:Program}{w:World}{g:Nat}{t:TypeId}{cs:List Value}
theorem qa{i:Nat}{u:Value}(h:e8 w g t cs)(hi:i<cs.length)(h1:u.oneCell' =true):(store ⟨g,i,none⟩ u).run P w= .ok () (w.setCell ⟨g,i,none⟩ u):=by
 have hc:w.cell? ⟨g,i,none⟩=some cs[i]:=h.cell (List.getElem?_eq_getElem hi)
 have hf:=h.frozen hi
 cases u <;> simp[store,Sem.run,hc,hf,Value.oneCell']at h1 ⊢
theorem lx:∀(vs:List Value) (o i:Nat) (cs:List Value) (w:World),e8 w g t cs→o+i+vs.length≤cs.length→(∀v∈vs,v.oneCell' =true)→
  ∃w',(storeCells ⟨g,o,none⟩ vs i).run P w= .ok () w' ∧e8 w' g t (bD cs (o+i) vs)∧Fr (fun k=>k=g) w w' ∧w'.heap.size=w.heap.size
 | [],o,i,cs,w,h,_,_=>⟨w,rfl,by rw[pF];exact h,.refl _ _,rfl⟩
 |v::rest,o,i,cs,w,h,hl,h1=>by
  have hi:o+i<cs.length:=by simp at hl;omega
  obtain⟨w',hr,hb,hf,hs⟩:=lx rest o (i+1) (cs.set (o+i) v) (w.setCell ⟨g,o+i,none⟩ v) (h.set _ _) (by simp at hl ⊢;omega) (fun u hu=>h1 u (by simp[hu]))
  refine⟨w', ?_, ?_, ?_, ?_⟩
  ·simp only[storeCells,ez]
   simp[qa (P:=P) h hi (h1 v (by simp)),hr]
  ·rw[←oa hi];exact hb
  ·exact(Fr.setCell w ⟨g,o+i,none⟩ v).trans hf (fun _ e=>e) (fun _ _ e=>e)
  ·rw[hs,size_setCell]
end
def d0:Addr:=⟨0,0,none⟩
def Rd(w:World)(sz:Nat)(A:Option Addr)(n:Nat)(xs:List Value):Prop:=
 xs.length=n*sz∧(0<n→A≠none)∧∀j u,xs[j]? =some u→w.cell? ((A.getD d0).add j)=some u
def Il(S:Nat→Prop)(A:Option Addr):Prop:=∀a,A=some a→¬S a.block
section
variable{w w' :World}{sz:Nat}{A:Option Addr}{n:Nat}{xs:List Value}{S:Nat→Prop}
theorem Rd.cell(h:Rd w sz A n xs){j:Nat}{u:Value}(hj:xs[j]? =some u):w.cell? ((A.getD d0).add j)=some u:=h.2.2 j u hj
theorem Rd.some(h:Rd w sz A n xs)(hn:0<n):A=some (A.getD d0):=by
 cases A with
 |none=>exact absurd rfl (h.2.1 hn)
 |some a=>rfl
theorem Rd.fr(h:Rd w sz A n xs)(f:Fr S w w')(ho:Il S A):Rd w' sz A n xs:=by
 refine⟨h.1,h.2.1,fun j u hu=>v8 (h.2.2 j u hu) f ?_⟩
 have hl:=(List.getElem?_eq_some_iff.1 hu).1
 have hn:0<n:=by
  rcases Nat.eq_zero_or_pos n with e|e
  ·rw[h.1,e]at hl;omega
  ·exact e
 rw[jt]
 exact ho _ (h.some hn)
theorem Rd.x5(h:Rd w sz A n xs)(f:Fr No w w'):Rd w' sz A n xs:=h.fr f (fun _ _ e=>e)
theorem Rd.nil(w:World)(sz:Nat)(A:Option Addr):Rd w sz A 0 []:=⟨by simp,fun h=>absurd h (by omega),fun j u h=>by simp at h⟩
theorem Rd.take(h:Rd w sz A n xs){k:Nat}(hk:k≤n):Rd w sz A k (xs.take (k*sz)):=by
 refine⟨by rw[List.length_take,h.1];exact Nat.min_eq_left (Nat.mul_le_mul_right _ hk),fun h0=>h.2.1 (by omega),fun j u hu=> ?_⟩
 rw[List.getElem?_take]at hu
 split at hu
 ·exact h.2.2 j u hu
 ·cases hu
theorem Rd.cut(h:Rd w sz A n xs){k cap:Nat}(hk:k≤n)(hc:n≤cap):
  Rd w sz (if cap=k then A else A.map (·.add (k*sz))) (n-k) (xs.drop (k*sz)):=by
 refine⟨by rw[List.length_drop,h.1,Nat.sub_mul],fun hn=> ?_,fun j u hu=> ?_⟩
 ·rw[if_neg (by omega)]
  have:=h.2.1 (by omega)
  cases A with
  |none=>exact absurd rfl this
  |some a=>simp
 ·have hl:=(List.getElem?_eq_some_iff.1 hu).1
  rw[List.length_drop,h.1]at hl
  have hn:k<n:=by
   rcases Nat.lt_or_ge k n with e|e
   ·exact e
   ·have:=Nat.mul_le_mul_right sz e;omega
  rw[if_neg (by omega)]
  obtain⟨a,rfl⟩:∃a,A=Option.some a:=⟨_,h.some (by omega)⟩
  rw[List.getElem?_drop]at hu
  have:=h.2.2 _ u hu
  simpa[add_add]using this
end
def Own(w:World)(base:Nat)(e:TypeId)(sz:Nat)(v:Value)(n:Nat)(xs:List Value):Prop:=
 xs.length=n*sz∧((v= .slice none 0 0∧n=0)∨
  ∃g o cap cur,v= .slice (some ⟨g,o,none⟩) n cap∧base≤g∧e8 w g e cur∧n≤cap∧cap≤maxLen∧o+cap*sz≤cur.length∧(cur.drop o).take (n*sz)=xs)
def j8:Value→Nat→Prop
 | .slice (some a) _ _,k=>k=a.block
 |_,_=>False
section
variable{w w' :World}{base:Nat}{e:TypeId}{sz n:Nat}{v:Value}{xs:List Value}{S:Nat→Prop}
theorem Own.nil(w:World)(base:Nat)(e:TypeId)(sz:Nat):Own w base e sz (.slice none 0 0) 0 []:=⟨by simp,.inl ⟨rfl,rfl⟩⟩
theorem Own.slice(h:Own w base e sz v n xs):∃A c,v= .slice A n c∧n≤c:=by
 rcases h.2 with⟨rfl,rfl⟩|⟨g,o,cap,cur,rfl,_,_,h,_⟩
 ·exact⟨_,_,rfl,Nat.le_refl _⟩
 ·exact⟨_,_,rfl,h⟩
theorem Own.from(h:Own w base e sz v n xs){k:Nat}(hk:j8 v k):base≤k∧k<w.heap.size:=by
 rcases h.2 with⟨rfl,rfl⟩|⟨g,o,cap,cur,rfl,hb,hg,_⟩
 ·exact hk.elim
 ·have:k=g:=hk
  exact this▸⟨hb,hg.lt⟩
theorem Own.fr(h:Own w base e sz v n xs)(f:Fr S w w')(ho:∀k,j8 v k→¬S k):Own w' base e sz v n xs:=by
 rcases h with⟨hl,h|⟨g,o,cap,cur,rfl,hb,hg,h⟩⟩
 ·exact⟨hl,.inl h⟩
 ·exact⟨hl,.inr ⟨g,o,cap,cur,rfl,hb,hg.fr f (ho g rfl),h⟩⟩
theorem Own.x5(h:Own w base e sz v n xs)(f:Fr No w w'):Own w' base e sz v n xs:=h.fr f (fun _ _ e=>e)
theorem Own.wide(h:Own w base e sz v n xs){b:Nat}(hb:b≤base):Own w b e sz v n xs:=by
 rcases h with⟨hl,h|⟨g,o,cap,cur,rfl,hbb,h⟩⟩
 ·exact⟨hl,.inl h⟩
 ·exact⟨hl,.inr ⟨g,o,cap,cur,rfl,Nat.le_trans hb hbb,h⟩⟩
theorem Own.rd{A:Option Addr}{m c:Nat}(h:Own w base e sz (.slice A m c) n xs):m=n∧n≤c∧Rd w sz A n xs:=by
 rcases h with⟨hl,⟨h1,rfl⟩|⟨g,o,cap,cur,h1,hb,hg,hn,hm,hc,hx⟩⟩
 ·injection h1 with h1 h2 h3
  subst h1;subst h2;subst h3
  obtain rfl:xs=[]:=List.eq_nil_of_length_eq_zero (by simpa using hl)
  exact⟨rfl,Nat.le_refl _,Rd.nil w sz none⟩
 ·injection h1 with h1 h2 h3
  subst h1;subst h2;subst h3
  refine⟨rfl,hn,hl,fun _ e=>by simp at e,fun j u hu=> ?_⟩
  rw[←hx,List.getElem?_take]at hu
  split at hu
  ·rw[List.getElem?_drop]at hu
   exact hg.tT hu
  ·cases hu
theorem Own.made{g:Nat}{cs:List Value}{n cap:Nat}(h:e8 w g e cs)(hb:base≤g)(hn:n≤cap)(hm:cap≤maxLen)(hc:cs.length=cap*sz):
  Own w base e sz (.slice (some ⟨g,0,none⟩) n cap) n (cs.take (n*sz)):=by
 refine⟨?_,.inr ⟨g,0,cap,cs,rfl,hb,h,hn,hm,by omega,by simp⟩⟩
 rw[List.length_take,hc]
 exact Nat.min_eq_left (Nat.mul_le_mul_right _ hn)
end
def TI(P:Program)(e:TypeId)(z:Value)(sz bytes:Nat):Prop:=(P.info? e).map (fun i=>(i.zero,i.size,i.bytes))=some (some z,sz,bytes)
theorem TI.get{P:Program}{e:TypeId}{z:Value}{sz bytes:Nat}(h:TI P e z sz bytes):∃i,P.info? e=some i∧i.zero=some z∧i.size=sz∧i.bytes=bytes:=by
 unfold TI at h
 cases hi:P.info? e with
 |none=>rw[hi]at h;cases h
 |some i=>
  rw[hi]at h
  simp only[Option.map_some,Option.some.injEq,Prod.mk.injEq]at h
  exact⟨i,rfl,h.1,h.2.1,h.2.2⟩
def Src(P:Program)(w:World)(sz m:Nat)(x:Value)(news:List Value):Prop:=
 news.length=m*sz∧∀w',Fr No w w' →(Builtin.lenOf x).run P w' = .ok m w' ∧(Builtin.firstCells sz m x).run P w' = .ok news.toArray w'
theorem Src.b9{P:Program}{w:World}{sz m c:Nat}{A:Option Addr}{news:List Value}(h:Rd w sz A m news):Src P w sz m (.slice A m c) news:=by
 refine⟨h.1,fun w' f=>⟨by simp[Builtin.lenOf], ?_⟩⟩
 have h' :=h.x5 f
 cases A with
 |none=>
  have:m=0:=by
   rcases Nat.eq_zero_or_pos m with e|e
   ·exact e
   ·exact absurd rfl (h.2.1 e)
  subst this
  obtain rfl:news=[]:=List.eq_nil_of_length_eq_zero (by simpa using h.1)
  simp[Builtin.firstCells]
 |some a=>
  exact run_firstCells_some (P:=P) w' sz m a m c news h.1 (fun j v hv=>h'.2.2 j v hv)
theorem oC(z:Array Value)(n:Nat):(Builtin.zeroCells z n).size=n*z.size:=by simp[Builtin.zeroCells]
set_option maxHeartbeats 1000000 in
theorem u4{P:Program}{w:World}{base t u e:Nat}{ty:TypeId}{du:TypeDesc}{sz bytes n m:Nat}{v x z:Value}{xs news:List Value}
  (ht:P.underlying t=some (.slice e)) (hu:P.underlying u=some du) (hnu:du= .slice e∨du= .string) (hT:TI P e z sz bytes) (hz:z.cells.size=sz)
  (h:Own w base e sz v n xs) (hx:Src P w sz m x news) (h1:∀u∈news,u.oneCell' =true) (hm:n+m≤maxLen) (hb:(n+m)*bytes≤140737488355328) (hbase:base≤w.heap.size):
  ∃v' w',(Builtin.append_ #[t,u] ty #[v,x]).run P w= .ok v' w' ∧Own w' base e sz v' (n+m) (xs++news)∧Fr (j8 v) w w' ∧(∀k,j8 v' k→j8 v k∨w.heap.size≤k):=by
 obtain⟨i,hi,hzero,hsize,hby⟩:=hT.get
 have hlen:(xs++news).length=(n+m)*sz:=by rw[List.length_append,h.1,hx.1,Nat.add_mul]
 obtain⟨hl0,hf0⟩:=hx.2 w (.refl _ _)
 have grow:∀(A:Option Addr) (cap:Nat),v= .slice A n cap→cap<n+m→(Builtin.firstCells sz n v).run P w.drew= .ok xs.toArray w.drew→
   ∃v' w',(Builtin.append_ #[t,u] ty #[v,x]).run P w= .ok v' w' ∧Own w' base e sz v' (n+m) (xs++news)∧Fr (j8 v) w w' ∧(∀k,j8 v' k→j8 v k∨w.heap.size≤k):=by
  intro A cap hv hcap hold
  subst hv
  obtain⟨hl1,hf1⟩:=hx.2 w.drew (Fr.drew w)
  have hge:=grownCap_ge w (n+m) cap e
  have hcm:grownCap w (n+m) cap e≤maxLen:=grownCap_le_maxLen w (n+m) cap e hm
  have hfit:=growslice_fits (bytes:=bytes) hcap hb
  have e1:¬(n+m≤cap):=by omega
  have e2:¬(9223372036854775807<((n+m:Nat):Int)):=by simp only[maxLen]at hm;omega
  have e2' :¬(9223372036854775807<((n:Int)+(m:Int))):=by omega
  have e3:¬(281474976710656<Builtin.nextslicecap (n+m) cap*bytes):=by omega
  refine⟨.slice (some ⟨w.heap.size,0,none⟩) (n+m) (grownCap w (n+m) cap e),
   w.drew.alloc (.cells (xs.toArray++news.toArray++Builtin.zeroCells z.cells (grownCap w (n+m) cap e-(n+m))) e), ?_, ?_, ?_, ?_⟩
  ·rcases hnu with rfl|rfl <;> (simp[Builtin.append_,run_underlying ht,run_underlying hu,sizeOf,typeInfo,zeroValue,hi,hzero,hsize,hby,hl0,e1,e2',e3,Question.forced,hold,hf1,newRow,grownCap];congr 2;apply Array.ext';simp)
  ·refine⟨hlen,.inr ⟨w.heap.size,0,_,(xs++news)++(Builtin.zeroCells z.cells (grownCap w (n+m) cap e-(n+m))).toList,rfl,hbase, ?_,hge,hcm, ?_, ?_⟩⟩
   ·have:=e8.new w.drew e ((xs++news)++(Builtin.zeroCells z.cells (grownCap w (n+m) cap e-(n+m))).toList)
    have e4:((xs++news)++(Builtin.zeroCells z.cells (grownCap w (n+m) cap e-(n+m))).toList).toArray=xs.toArray++news.toArray++Builtin.zeroCells z.cells (grownCap w (n+m) cap e-(n+m)):=by
     apply Array.ext'
     simp
    rw[e4]at this
    exact this
   ·rw[List.length_append,hlen,Array.length_toList,oC,hz,←Nat.add_mul]
    have:n+m+(grownCap w (n+m) cap e-(n+m))=grownCap w (n+m) cap e:=by omega
    rw[this];omega
   ·rw[List.drop_zero,←hlen]
    exact List.take_left
  ·exact((Fr.drew w).eX (Fr.alloc w.drew _)).mono (fun _ _ e=>e.elim)
  ·intro k hk
   exact .inr (Nat.le_of_eq (Eq.symm hk))
 rcases h.2 with⟨rfl,rfl⟩|⟨g,o,cap,cur,rfl,hbg,hg,hnc,hcm,hcs,htake⟩
 ·obtain rfl:xs=[]:=List.eq_nil_of_length_eq_zero (by simpa using h.1)
  by_cases hm0:m=0
  ·subst hm0
   obtain rfl:news=[]:=List.eq_nil_of_length_eq_zero (by simpa using hx.1)
   refine⟨.slice none 0 0,w, ?_,Own.nil w base e sz,.refl _ _,fun k hk=>hk.elim⟩
   rcases hnu with rfl|rfl <;> (simp[Builtin.append_,run_underlying ht,run_underlying hu,sizeOf,typeInfo,hi,hsize,hl0,hf0])
  ·exact grow none 0 rfl (by omega) (by simp[Builtin.firstCells])
 ·have hrd:Rd w sz (some ⟨g,o,none⟩) n xs:=(Own.rd h).2.2
  by_cases hroom:n+m≤cap
  ·have hfit:o+n*sz+news.length≤cur.length:=by
    have:=Nat.mul_le_mul_right sz hroom
    rw[Nat.add_mul]at this
    have:=hx.1
    omega
   obtain⟨w',hr,hb',hfr,hsz'⟩:=lx (P:=P) news (o+n*sz) 0 cur w hg (by omega) h1
   refine⟨.slice (some ⟨g,o,none⟩) (n+m) cap,w', ?_,⟨hlen,.inr ⟨g,o,cap,_,rfl,hbg,hb',hroom,hcm, ?_, ?_⟩⟩,hfr,fun k hk=>.inl hk⟩
   ·rcases hnu with rfl|rfl <;> (simp[Builtin.append_,run_underlying ht,run_underlying hu,sizeOf,typeInfo,hi,hsize,hl0,hroom,hf0,ez,hr])
   ·rw[en (by omega)];exact hcs
   ·have hcl:(cur.take (o+n*sz)).length=o+n*sz:=by simp;omega
    have e5:bD cur (o+n*sz+0) news=cur.take (o+n*sz)++(news++cur.drop (o+n*sz+news.length)):=by simp[bD]
    rw[e5,List.drop_append_of_le_length (by omega)]
    have e6:(cur.take (o+n*sz)).drop o=xs:=by
     rw[List.drop_take,←htake]
     congr 1
     omega
    rw[e6,←List.append_assoc,←hlen]
    exact List.take_left
  ·refine grow (some ⟨g,o,none⟩) cap rfl (by omega) ?_
   have:=run_firstCells_some (P:=P) w.drew sz n ⟨g,o,none⟩ n cap xs h.1 (fun j v hv=>hrd.2.2 j v hv)
   exact this
end Go.Eng
end
section
namespace Go.Eng
open Go.RowKit
def c5(P:Program)(t:TypeId):Option Bool:=
 match P.underlying t with
 |some (.struct _)|some (.array _ _)=>some true
 |some _=>some false
 |none=>none
def fl(P:Program)(t:TypeId):Option Nat:=(P.info? t).map (·.size)
def eV(P:Program)(s:TypeId)(i:Nat):Option (Nat×Nat×TypeId):=
 match P.underlying s with
 |some (.struct fs)=>match fs[i]? with
  |some f=>(fl P f.type).map fun n=>(f.offset,n,f.type)
  |none=>none
 |_=>none
section
variable{P:Program}{w:World}{t:TypeId}
theorem jy{b:Bool}(h:c5 P t=some b):(isAgg t).run P w= .ok b w:=by
 unfold c5 at h
 unfold isAgg
 cases hu:P.underlying t with
 |none=>rw[hu]at h;cases h
 |some d=>
  rw[hu]at h
  cases d <;> simp at h <;> subst h <;> simp[run_underlying hu]
theorem run_sizeOf{n:Nat}(h:fl P t=some n):(sizeOf t).run P w= .ok n w:=by
 unfold fl at h
 cases hi:P.info? t with
 |none=>rw[hi]at h;cases h
 |some i=>
  rw[hi]at h
  simp at h
  simp[sizeOf,typeInfo,hi,h]
end
section
variable{P:Program}{N:Nat}{D:List Deferred}{ρ:Env}{w:World}{ty t t' e:TypeId}{x y z:Operand}{v:Value}{k:IntKind}{m n r i:Int}
theorem yT{op:Op}{b:Bool}(h:Yl P N D ρ w op ty (.bool b))(hb:b=true):Yl P N D ρ w op ty (.bool true):=hb▸h
theorem yF{op:Op}{b:Bool}(h:Yl P N D ρ w op ty (.bool b))(hb:b=false):Yl P N D ρ w op ty (.bool false):=hb▸h
theorem yV{op:Op}{v' :Value}(h:Yl P N D ρ w op ty v)(hb:v=v'):Yl P N D ρ w op ty v' :=hb▸h
theorem ck{A:Option Addr}{n c sz j:Nat}(hx:ev ρ x=some (.slice A n c))(hy:ev ρ y=some (.int k i))(ht:P.underlying t=some (.slice e))(hs:fl P e=some sz)(hA:0<n→A≠none)(hj:((j:Nat):Int)=i)(h1:j<n):
  Yl P N D ρ w (.indexAddr t x y) ty (.pointer (some ((A.getD d0).add (j*sz)))):=fun a _ _ _ _ ha=>by
 subst hj
 have hn:0<n:=by omega
 have h0:(0:Int)≤(j:Int):=by omega
 have h1' :(j:Int)<(n:Int):=by omega
 cases A with
 |none=>exact absurd rfl (hA hn)
 |some ad=>simp[execOp,ha.eval hx,ha.eval hy,Instr.indexAt,asIntOf,run_underlying ht,h0,h1,run_sizeOf hs]
theorem E5{ad:Addr}{n sz j:Nat}(hx:ev ρ x=some (.pointer (some ad)))(hy:ev ρ y=some (.int k i))(ht:P.underlying t=some (.array n e))(hs:fl P e=some sz)(hj:((j:Nat):Int)=i)(h1:j<n):
  Yl P N D ρ w (.indexAddr t x y) ty (.pointer (some (ad.add (j*sz)))):=fun a _ _ _ _ ha=>by
 subst hj
 have h0:(0:Int)≤(j:Int):=by omega
 simp[execOp,ha.eval hx,ha.eval hy,Instr.indexAt,Instr.sureAddr,asIntOf,run_underlying ht,h0,h1,run_sizeOf hs]
theorem aS{A:Option Addr}{n c j:Nat}(hx:ev ρ x=some (.slice A n c))(hy:ev ρ y=some (.int k i))(ht:P.underlying t=some (.slice e))(hs:fl P e=some 1)(hA:0<n→A≠none)(hj:((j:Nat):Int)=i)(h1:j<n):
  Yl P N D ρ w (.indexAddr t x y) ty (.pointer (some ((A.getD d0).add j))):=by
 have:=ck (N:=N) (D:=D) (w:=w) (ty:=ty) hx hy ht hs hA hj h1
 rwa [Nat.mul_one]at this
theorem bS{ad:Addr}{n j:Nat}(hx:ev ρ x=some (.pointer (some ad)))(hy:ev ρ y=some (.int k i))(ht:P.underlying t=some (.array n e))(hs:fl P e=some 1)(hj:((j:Nat):Int)=i)(h1:j<n):
  Yl P N D ρ w (.indexAddr t x y) ty (.pointer (some (ad.add j))):=by
 have:=E5 (N:=N) (D:=D) (w:=w) (ty:=ty) hx hy ht hs hj h1
 rwa [Nat.mul_one]at this
theorem ax{ad:Addr}{i o sz:Nat}{ft:TypeId}(hx:ev ρ x=some (.pointer (some ad)))(hf:eV P t i=some (o,sz,ft))(hs:sz≠0):Yl P N D ρ w (.fieldAddr t x i) ty (.pointer (some (ad.add o))):=fun a _ _ _ _ ha=>by
 unfold eV at hf
 cases hu:P.underlying t with
 |none=>rw[hu]at hf;cases hf
 |some d=>
  rw[hu]at hf
  cases d <;> try (cases hf;done)
  rename_i fs
  cases hfi:fs[i]? with
  |none=>simp[hfi]at hf
  |some f=>
   cases hz:fl P f.type with
   |none=>simp[hfi,hz]at hf
   |some n=>
    simp[hfi,hz]at hf
    obtain⟨rfl,rfl,rfl⟩:=hf
    simp[execOp,ha.eval hx,Instr.fieldAt,run_underlying hu,hfi,Instr.sureAddr,fieldPlace,run_sizeOf hz,hs]
theorem ak{p:Addr}(hx:ev ρ x=some (.pointer (some p)))(ha:c5 P t=some false)(hc:w.cell? p=some v):Yl P N D ρ w (.load t x) ty v:=fun a _ _ _ _ hA=>by
 simp[execOp,hA.eval hx,Instr.loadAt,Instr.sureAddr,loadVar,jy ha,hc]
theorem aP{p:Addr}{sz:Nat}{cs:List Value}(hx:ev ρ x=some (.pointer (some p)))(ha:c5 P t=some true)(hs:fl P t=some sz)(hl:cs.length=sz)(hc:∀j u,cs[j]? =some u→w.cell? (p.add j)=some u):
  Yl P N D ρ w (.load t x) ty (.agg cs.toArray):=fun a _ _ _ _ hA=>by
 have:=run_loadCells_list (P:=P) w p cs hc
 rw[hl]at this
 simp[execOp,hA.eval hx,Instr.loadAt,Instr.sureAddr,loadVar,jy ha,run_sizeOf hs,this]
theorem DO{cs:List Value}{n j:Nat}(hx:ev ρ x=some (.agg cs.toArray))(hy:ev ρ y=some (.int k i))(ht:P.underlying t=some (.array n e))(hs:fl P e=some 1)(ha:c5 P e=some false)(hj:((j:Nat):Int)=i)(h1:j<n)(hv:cs[j]? =some v):
  Yl P N D ρ w (.index t x y) ty v:=fun a _ _ _ _ hA=>by
 subst hj
 have h0:(0:Int)≤(j:Int):=by omega
 simp[execOp,hA.eval hx,hA.eval hy,Instr.index,asIntOf,run_underlying ht,h0,h1,part,jy ha,run_sizeOf hs,hv]
theorem jl{s:ByteArray}{b:UInt8}{j:Nat}(hx:ev ρ x=some (.string s))(hy:ev ρ y=some (.int k i))(ht:P.underlying t=some .string)(hj:((j:Nat):Int)=i)(hv:s.data[j]? =some b):
  Yl P N D ρ w (.index t x y) ty (.int .u8 (b.toNat:Int)):=fun a _ _ _ _ hA=>by
 subst hj
 have h0:(0:Int)≤(j:Int):=by omega
 have h2:s[j]? =some b:=by
  have hl:=(Array.getElem?_eq_some_iff.1 hv).1
  have:j<s.size:=hl
  rw[getElem?_pos s j this]
  have h3:=(Array.getElem?_eq_some_iff.1 hv).2
  exact congrArg some h3
 simp[execOp,hA.eval hx,hA.eval hy,Instr.index,asIntOf,run_underlying ht,h0,h2]
theorem fa{s:ByteArray}(hx:ev ρ x=some (.string s))(ht:P.underlying t=some .string):Yl P N D ρ w (.call ⟨.builtin .len, #[x], #[t]⟩) ty (.int .i64 s.size):=
 fun a _ _ _ _ ha=>by simp[execOp,resolve,invoke,builtin,Builtin.len_,ha.eval hx,run_underlying ht,goInt]
theorem wm{cs:Array TypeId}(hx:ev ρ x=some (.int k m))(hy:ev ρ y=some (.int k n)):Yl P N D ρ w (.call ⟨.builtin .min, #[x,y],cs⟩) ty (.int k (min m n)):=
 fun a _ _ _ _ ha=>by
  have:(if n<m then n else m)=min m n:=by omega
  simp[execOp,resolve,invoke,builtin,Builtin.min_,Builtin.min2,ha.eval hx,ha.eval hy,this]
theorem Gj{cs:Array TypeId}(hx:ev ρ x=some (.int k m))(hy:ev ρ y=some (.int k n)):Yl P N D ρ w (.call ⟨.builtin .max, #[x,y],cs⟩) ty (.int k (max m n)):=
 fun a _ _ _ _ ha=>by
  have:(if m<n then n else m)=max m n:=by omega
  simp[execOp,resolve,invoke,builtin,Builtin.max_,Builtin.max2,ha.eval hx,ha.eval hy,this]
theorem iB{a b:ByteArray}(hx:ev ρ x=some (.string a))(hy:ev ρ y=some (.string b))(hb:a.size+b.size≤9223372036854775807):Yl P N D ρ w (.binOp .add t x y t') ty (.string (a++b)):=
 fun _ _ _ _ _ ha=>by simp only[execOp,ha.eval hx,ha.eval hy];simp[eqGuard,binOp,run_string_add_sum w a b hb]
theorem AX(x:UInt8):IntKind.i64.wrap (x.toNat:Int)=(x.toNat:Int):=by have:=x.toNat_lt;exact bE (by omega) (by omega)
theorem toList_inj{a b:ByteArray}:(a.toList == b.toList)=decide (a=b):=by
 by_cases h:a=b
 ·simp[h]
 ·have:a.toList≠b.toList:=fun e=>h (by
   have:=congrArg List.toArray e
   rw[ByteArray.toList_eq,ByteArray.toList_eq]at this
   cases a;cases b;simpa using this)
  simp[h,this]
theorem Az{a b:ByteArray}(hx:ev ρ x=some (.string a))(hy:ev ρ y=some (.string b)):Yl P N D ρ w (.binOp .eql t x y t') ty (.bool (decide (a=b))):=
 fun _ _ _ _ _ ha=>by simp[execOp,ha.eval hx,ha.eval hy,eqGuard,binOp,Op.stringOp,toList_inj]
theorem ma{a b:ByteArray}(hx:ev ρ x=some (.string a))(hy:ev ρ y=some (.string b)):Yl P N D ρ w (.binOp .neq t x y t') ty (.bool (decide (a≠b))):=
 fun _ _ _ _ _ ha=>by simp[execOp,ha.eval hx,ha.eval hy,eqGuard,binOp,Op.stringOp,toList_inj]
theorem lW{m:Nat}{xs ys:List Value}{D1 D2:Nat}{la lb:List Lit}{p:Prop}[Decidable p](hm:m≤10000)(hk:P.keyTypeAt m t=true)(ha:c5 P t=some true)(hlx:xs.length=P.cellsOf t)(hly:ys.length=P.cellsOf t)
  (hx:P.keyLits D1 t xs=some la) (hy:P.keyLits D2 t ys=some lb) (hp:la=lb↔p):(Op.equal t (.agg xs.toArray) (.agg ys.toArray)).run P w= .ok (decide p) w:=by
 have hf:∀zs:List Value,zs.length=P.cellsOf t→(Value.agg zs.toArray).formed P t=true:=fun zs hz=>by
  unfold c5 at ha
  cases hu:P.underlying t with
  |none=>rw[hu]at ha;cases ha
  |some d=>rw[hu]at ha;cases d <;> simp at ha <;> simp[Value.formed,hu,hz]
 obtain⟨r,hr,dm⟩:=run_equalIn_deep (P:=P) (10000-m) m t hk w D1 D2 (.agg xs.toArray) (.agg ys.toArray) la lb (hf xs hlx) (hf ys hly) hx hy
 have e1:10000-m+m=10000:=by omega
 rw[e1]at hr
 have e2:r=decide p:=by
  by_cases h:p
  ·simp[h,dm.2 (hp.2 h)]
  ·cases r
   ·simp[h]
   ·exact absurd (hp.1 (dm.1 rfl)) h
 rw[←e2]
 exact hr
theorem CW{m:Nat}{xs ys:List Value}{D1 D2:Nat}{la lb:List Lit}{p:Prop}[Decidable p](hx:ev ρ x=some (.agg xs.toArray))(hy:ev ρ y=some (.agg ys.toArray))(hm:m≤10000)(hk:P.keyTypeAt m t=true)(hg:P.eqGuardType P.depth t=false)
  (ha:c5 P t=some true) (hlx:xs.length=P.cellsOf t) (hly:ys.length=P.cellsOf t) (hla:P.keyLits D1 t xs=some la) (hlb:P.keyLits D2 t ys=some lb) (hp:la=lb↔p):Yl P N D ρ w (.binOp .eql t x y t') ty (.bool (decide p)):=
 fun _ _ _ _ _ hA=>by
  have e:binOp .eql t (.agg xs.toArray) (.agg ys.toArray)=(do pure (.bool (←Op.equal t (.agg xs.toArray) (.agg ys.toArray)))):=rfl
  simp only[execOp,hA.eval hx,hA.eval hy,e]
  simp[eqGuard,hg,lW (w:=w) hm hk ha hlx hly hla hlb hp]
theorem F0{m:Nat}{xs ys:List Value}{D1 D2:Nat}{la lb:List Lit}{p:Prop}[Decidable p](hx:ev ρ x=some (.agg xs.toArray))(hy:ev ρ y=some (.agg ys.toArray))(hm:m≤10000)(hk:P.keyTypeAt m t=true)(hg:P.eqGuardType P.depth t=false)
  (ha:c5 P t=some true) (hlx:xs.length=P.cellsOf t) (hly:ys.length=P.cellsOf t) (hla:P.keyLits D1 t xs=some la) (hlb:P.keyLits D2 t ys=some lb) (hp:la=lb↔p):Yl P N D ρ w (.binOp .neq t x y t') ty (.bool (decide (¬p))):=
 fun _ _ _ _ _ hA=>by
  have e:binOp .neq t (.agg xs.toArray) (.agg ys.toArray)=(do pure (.bool (!(←Op.equal t (.agg xs.toArray) (.agg ys.toArray))))):=rfl
  simp only[execOp,hA.eval hx,hA.eval hy,e]
  simp[eqGuard,hg,lW (w:=w) hm hk ha hlx hly hla hlb hp]
theorem re{d:TypeDesc}(hx:ev ρ x=some v)(ht:P.underlying t=some d)(hd:∀ms,d≠ .interface ms):Yl P N D ρ w (.makeInterface t x) ty (.iface t v):=
 fun _ _ _ _ _ ha=>by cases d <;> first|exact absurd rfl (hd _)|simp[execOp,ha.eval hx,Instr.makeInterface,run_underlying ht]
theorem fD{fn:Fn}{f c:List Operand}{fs cs:List Value}(hf:mP ρ f=some fs)(hc:mP ρ c=some cs):Yl P N D ρ w (.makeFunc fn f.toArray c.toArray) ty (.func fn fs.toArray cs.toArray):=
 fun a _ _ _ _ ha=>by simp[execOp,Instr.makeFunc,ha.gM hf,ha.gM hc]
end
def B8(x:UInt8):Value:=.int .u8 (x.toNat:Int)
def aT(l:List UInt8):List Value:=l.map B8
theorem aA(l:List UInt8):(aT l).length=l.length:=by simp[aT]
theorem bO{l:List UInt8}{i:Nat}(h:i<l.length):(aT l)[i]? =some (B8 (l.getD i 0)):=by
 simp[aT,List.getElem?_map,List.getElem?_eq_getElem h,List.getD]
theorem AI(l:List UInt8)(k:Nat):aT (l.take k)=(aT l).take k:=by simp[aT]
theorem pQ(l:List UInt8)(k:Nat):aT (l.drop k)=(aT l).drop k:=by simp[aT]
theorem rW(l:List UInt8)(k:Nat)(c:UInt8):aT (l.set k c)=(aT l).set k (B8 c):=by simp[aT]
theorem bR(l m:List UInt8):aT (l++m)=aT l++aT m:=by simp[aT]
theorem BA{l m:List UInt8}(h:aT l=aT m):l=m:=by
 apply List.map_inj_right ?_|>.1 h
 intro x y hxy
 injection hxy with _ h
 exact UInt8.toNat_inj.1 (by omega)
theorem bl{l:List UInt8}:∀u∈aT l,u.oneCell' =true:=by
 intro u hu
 simp only[aT,List.mem_map]at hu
 obtain⟨x,_,rfl⟩:=hu
 rfl
def bytesOf(s:ByteArray):List UInt8:=s.data.toList
def strOf(l:List UInt8):ByteArray:=⟨l.toArray⟩
theorem qi(l:List UInt8):bytesOf (strOf l)=l:=rfl
theorem cR{l m:List UInt8}:strOf l=strOf m↔l=m:=⟨fun h=>by have:=congrArg bytesOf h;exact this,fun h=>by rw[h]⟩
theorem cX(l m:List UInt8):strOf l++strOf m=strOf (l++m):=by
 simpa[strOf]using ByteArray.mk_append_mk l m
theorem da(l:List UInt8):(strOf l).size=l.length:=by simp[strOf,ByteArray.size]
theorem ur{α β:Type}{f:α→Option β}{g:α→β}:∀(l:List α),(∀i∈l,f i=some (g i))→l.mapM f=some (l.map g)
 | [],_=>rfl
 |a::r,h=>by
  rw[List.mapM_cons,h a (by simp),ur r (fun i hi=>h i (by simp[hi]))]
  rfl
theorem ug{α β:Type}(f:α→β):∀(l:List α),(l.map fun i=>[f i]).flatten=l.map f
 | []=>rfl
 |a::r=>by simp[ug f r]
theorem yQ{α β:Type}(f:α→β)(d:α)(l:List α):((List.range l.length).map fun i=>f (l.getD i d))=l.map f:=by
 apply List.ext_getElem
 ·simp
 ·intro i h1 h2
  have:i<l.length:=by simpa using h2
  simp[List.getD,List.getElem?_eq_getElem this]
theorem fk{P:Program}{t e:TypeId}{n D:Nat}{l:List UInt8}(ht:P.underlying t=some (.array n e))(he:P.underlying e=some (.int .u8))(hs:P.cellsOf t=n)(hse:P.cellsOf e=1)(hl:l.length=n):
  P.keyLits (D+2) t (aT l)=some (l.map fun b=>Lit.int .u8 (b.toNat:Int)):=by
 unfold Program.keyLits
 simp only[ht]
 rw[if_pos (by rw[aA,hs,hl])]
 have h1:∀i∈List.range n,P.keyLits (D+1) e (((aT l).drop (i*P.cellsOf e)).take (P.cellsOf e))=some [Lit.int .u8 ((l.getD i 0).toNat:Int)]:=by
  intro i hi
  have hi' :i<l.length:=by have:=List.mem_range.1 hi;omega
  rw[hse,Nat.mul_one]
  have h2:((aT l).drop i).take 1=[B8 (l.getD i 0)]:=by
   have:=bO hi'
   rw[List.take_one,List.head?_drop,this];rfl
  rw[h2]
  have hlt:=(l.getD i 0).toNat_lt
  unfold Program.keyLits
  simp only[he,B8]
  have hwf:(Lit.int .u8 ((l.getD i 0).toNat:Int)).wf=true:=WalkArith.wf_u8 (by omega)
  simp
  exact hwf
 rw[ur (List.range n) h1,Option.map_some,Option.some.injEq,ug,←hl]
 exact yQ (fun b:UInt8=>Lit.int .u8 (b.toNat:Int)) 0 l
theorem iI{l m:List UInt8}:(l.map fun b=>Lit.int .u8 (b.toNat:Int))=(m.map fun b=>Lit.int .u8 (b.toNat:Int))↔l=m:=by
 refine⟨fun h=> ?_,fun h=>by rw[h]⟩
 refine(List.map_inj_right ?_).1 h
 intro x y hxy
 injection hxy with _ h
 exact UInt8.toNat_inj.1 (by omega)
end Go.Eng
end
section
namespace Go.Eng
open Go.RowKit
section
variable{P:Program}{Q:Exit→Act→World→Prop}{N:Nat}{D:List Deferred}{ρ:Env}{w:World}{ty t u e:TypeId}{x y:Operand}{v:Value}{K:Value→World→Prop}
theorem cZ{op:Op}{v' :Value}{w' :World}(h:∀a dst pos af g,Ag N D ρ a→(execOp a.eval ⟨dst,op,ty,pos,af,g⟩).run P w= .ok (.value v') w')(k:K v' w'):XW P Q N D ρ w op ty K:=by
 intro a dst pos af g ha
 unfold Oper.wp
 rw[h a dst pos af g ha]
 exact⟨v',rfl,k⟩
theorem jK{op:Op}{w' :World}(h:∀a dst pos af g,Ag N D ρ a→(execOp a.eval ⟨dst,op,ty,pos,af,g⟩).run P w= .ok .skip w')(k:K undef w'):XW P Q N D ρ w op ty K:=by
 intro a dst pos af g ha
 unfold Oper.wp
 rw[h a dst pos af g ha]
 exact⟨undef,rfl,k⟩
theorem jZ{f:Nat}{l:List Operand}{vs:List Value}{tys:Array TypeId}{R:Ending→World→Prop}(hv:mP ρ l=some vs)(hf:∀args w,(callFunc f args).run P w= .ok (.enter f args) w)
  (hc:Calls P f vs.toArray w R) (hR:∀e w',R e w' →∃v,e= .returned v∧K v w'):XW P Q N D ρ w (.call ⟨.value (.func f),l.toArray,tys⟩) ty K:=by
 intro a dst pos af g ha
 unfold Oper.wp
 have:(execOp a.eval ⟨dst,.call ⟨.value (.func f),l.toArray,tys⟩,ty,pos,af,g⟩).run P w= .ok (.enter f vs.toArray) w:=by
  simp[execOp,resolve,Deferred.ofValue,Act.eval,invoke,ha.gM hv,hf]
 rw[this]
 refine Calls.mono hc ?_
 intro e w' he
 obtain⟨v,rfl,hk⟩:=hR e w' he
 exact⟨v,rfl,hk⟩
theorem wM{f:Nat}{l:List Operand}{vs first cap:List Value}{tys:Array TypeId}{R:Ending→World→Prop}(hx:ev ρ x=some (.func (.func f) first.toArray cap.toArray))(hv:mP ρ l=some vs)(hf:∀args w,(callFunc f args).run P w= .ok (.enter f args) w)
  (hc:Calls P f (first++vs++cap).toArray w R) (hR:∀e w',R e w' →∃v,e= .returned v∧K v w'):XW P Q N D ρ w (.call ⟨.value x,l.toArray,tys⟩) ty K:=by
 intro a dst pos af g ha
 unfold Oper.wp
 have:(execOp a.eval ⟨dst,.call ⟨.value x,l.toArray,tys⟩,ty,pos,af,g⟩).run P w= .ok (.enter f (first++vs++cap).toArray) w:=by
  simp[execOp,resolve,Deferred.ofValue,ha.eval hx,invoke,ha.gM hv,hf]
 rw[this]
 refine Calls.mono hc ?_
 intro e w' he
 obtain⟨v,rfl,hk⟩:=hR e w' he
 exact⟨v,rfl,hk⟩
theorem uj(hx:ev ρ x=some v)(k:∀g w',w.heap.size≤g→Fr No w w' →e8 w' g t v.cells.toList→K (.pointer (some ⟨g,0,none⟩)) w'):XW P Q N D ρ w (.box t x) ty K:=
 cZ (w' :=w.alloc (.cells v.cells t)) (fun a _ _ _ _ ha=>by simp[execOp,ha.eval hx,Instr.box,newVar,newRow])
  (k _ _ (Nat.le_refl _) (Fr.alloc w _) (by have:=e8.new w t v.cells.toList;simpa using this))
theorem Cf{z:Value}{sz bytes:Nat}(hT:TI P t z sz bytes)(k:∀g w',w.heap.size≤g→Fr No w w' →e8 w' g t z.cells.toList→K (.pointer (some ⟨g,0,none⟩)) w'):XW P Q N D ρ w (.alloc t) ty K:=by
 obtain⟨i,hi,hz,_,_⟩:=hT.get
 exact cZ (w' :=w.alloc (.cells z.cells t)) (fun a _ _ _ _ _=>by simp[execOp,Instr.alloc,zeroValue,typeInfo,hi,hz,newVar,newRow])
  (k _ _ (Nat.le_refl _) (Fr.alloc w _) (by have:=e8.new w t z.cells.toList;simpa using this))
theorem pb{base sz bytes n m:Nat}{src z:Value}{xs news:List Value}{du:TypeDesc}(hx:ev ρ x=some v)(hy:ev ρ y=some src)(ht:P.underlying t=some (.slice e))(hu:P.underlying u=some du)(hnu:du= .slice e∨du= .string)
  (hT:TI P e z sz bytes) (hz:z.cells.size=sz) (h:Own w base e sz v n xs) (hs:Src P w sz m src news) (h1:∀u∈news,u.oneCell' =true) (hm:n+m≤maxLen) (hb:(n+m)*bytes≤140737488355328) (hbase:base≤w.heap.size)
  (k:∀v' w',Own w' base e sz v' (n+m) (xs++news)→Fr (j8 v) w w' →(∀k,j8 v' k→j8 v k∨w.heap.size≤k)→K v' w'):XW P Q N D ρ w (.call ⟨.builtin .append, #[x,y], #[t,u]⟩) ty K:=by
 obtain⟨v',w',hr,ho,hf,hk⟩:=u4 (P:=P) (ty:=ty) ht hu hnu hT hz h hs h1 hm hb hbase
 exact cZ (v' :=v') (w' :=w') (fun a _ _ _ _ ha=>by simp[execOp,resolve,invoke,builtin,ha.eval hx,ha.eval hy,hr]) (k v' w' ho hf hk)
theorem AL{g o:Nat}{bt:TypeId}{cs:List Value}(hx:ev ρ x=some (.pointer (some ⟨g,o,none⟩)))(hy:ev ρ y=some v)(hs:fl P t=some 1)(hv:v.oneCell' =true)(hb:e8 w g bt cs)(ho:o<cs.length)
  (k:∀w',Fr (fun i=>i=g) w w' →e8 w' g bt (cs.set o v)→w'.heap.size=w.heap.size→K undef w'):XW P Q N D ρ w (.store t x y) ty K:=by
 have hc:v.cells= #[v]:=by cases v <;> simp[Value.oneCell']at hv <;> rfl
 refine jK (w' :=w.setCell ⟨g,o,none⟩ v) (fun a _ _ _ _ ha=> ?_) (k _ (Fr.setCell w ⟨g,o,none⟩ v) (hb.set o v) (size_setCell _ _ _))
 have:=qa (P:=P) hb ho hv
 simp[execOp,ha.eval hx,ha.eval hy,Instr.storeAt,Instr.sureAddr,storeVar,hc,run_sizeOf hs,storeCells,ez,this]
theorem Dd{g o sz:Nat}{bt:TypeId}{cs vs:List Value}(hx:ev ρ x=some (.pointer (some ⟨g,o,none⟩)))(hy:ev ρ y=some (.agg vs.toArray))(hs:fl P t=some sz)(hl:vs.length=sz)(hv:∀v∈vs,v.oneCell' =true)(hb:e8 w g bt cs)(ho:o+sz≤cs.length)
  (k:∀w',Fr (fun i=>i=g) w w' →e8 w' g bt (bD cs o vs)→w'.heap.size=w.heap.size→K undef w'):XW P Q N D ρ w (.store t x y) ty K:=by
 obtain⟨w',hr,hb',hf,hsz⟩:=lx (P:=P) vs o 0 cs w hb (by omega) hv
 refine jK (w' :=w') (fun a _ _ _ _ ha=> ?_) (k _ hf (by simpa using hb') hsz)
 simp[execOp,ha.eval hx,ha.eval hy,Instr.storeAt,Instr.sureAddr,storeVar,Value.cells,run_sizeOf hs,hl,hr]
end
def fI:List Value→Nat→Env
 | [],_=>[]
 |v::r,i=>(i,v)::fI r (i+1)
theorem gE:∀(vs:List Value) (i t:Nat) (v:Value),get (fI vs i) t=some v→i≤t∧vs[t-i]? =some v
 | [],_,_,_,h=>by simp[fI,get]at h
 |u::r,i,t,v,h=>by
  simp only[fI,get]at h
  cases hb:Nat.beq i t with
  |true=>
   have:i=t:=Nat.eq_of_beq_eq_true hb
   subst this
   rw[hb]at h
   simp at h
   simp[h]
  |false=>
   have hne:i≠t:=Nat.ne_of_beq_eq_false hb
   rw[hb]at h
   simp only[cond_false]at h
   obtain⟨h1,h2⟩:=gE r (i+1) t v h
   refine⟨by omega, ?_⟩
   have:t-i=(t-(i+1))+1:=by omega
   rw[this,List.getElem?_cons_succ]
   exact h2
theorem enter{P:Program}{f:Nat}{fn:Func}{c:Code}{vs:List Value}{w:World}{R:Ending→World→Prop}{N:Nat}(hf:P.funcs[f]? =some fn)(hb:fn.body=some c)(hN:fn.ntmps=N)(hl:vs.length≤N)
  (h:WC P (bodyPost P fn R) N [] c (fI vs 0) w):Calls P f vs.toArray w R:=by
 refine calls_of_wp hf hb (h _ ⟨?_,rfl,fun t v ht=> ?_⟩)
 ·simp[hN];omega
 ·obtain⟨_,h2⟩:=gE vs 0 t v ht
  have hlt:=(List.getElem?_eq_some_iff.1 h2).1
  rw[Array.getElem?_append_left (by simpa using hlt)]
  simpa using h2
section
variable{P:Program}{fn:Func}{R:Ending→World→Prop}{N:Nat}{ρ:Env}{w:World}{e:Exit}
def Leaves:Exit→Prop
 | .normal| .ret=>True
 |_=>False
theorem iA{v:Value}(he:Leaves e)(h:∀a,Ag N [] ρ a→(results fn a.tmps).run P w= .ok v w)(hR:R (.returned v) w):WQ (bodyPost P fn R) N [] e ρ w:=by
 intro a ha
 cases e <;> first|exact he.elim|exact⟨ha.df,v,h a ha,hR⟩
theorem Ag.getD{D:List Deferred}{a:Act}{t:Nat}{v:Value}(ha:Ag N D ρ a)(h:get ρ t=some v):a.tmps.getD t undef=v:=by
 have:=ha.gt t v h
 simp[this]
theorem FN(he:Leaves e)(hr:fn.results= #[])(hR:R (.returned (.tuple #[])) w):WQ (bodyPost P fn R) N [] e ρ w:=iA he (fun a _=>by simp[results,hr]) hR
theorem iY{t:Nat}{v:Value}(he:Leaves e)(hr:fn.results= #[.tmp t])(hv:get ρ t=some v)(hR:R (.returned v) w):WQ (bodyPost P fn R) N [] e ρ w:=
 iA he (fun a ha=>by have:=ha.getD hv;simp at this;simp[results,hr,this]) hR
theorem Hy{t t' :Nat}{v v' :Value}(he:Leaves e)(hr:fn.results= #[.tmp t,.tmp t'])(hv:get ρ t=some v)(hv' :get ρ t' =some v')(hR:R (.returned (.tuple #[v,v'])) w):WQ (bodyPost P fn R) N [] e ρ w:=
 iA he (fun a ha=>by have h1:=ha.getD hv;have h2:=ha.getD hv';simp at h1 h2;simp[results,hr,h1,h2]) hR
theorem kZ{t:TypeId}{p:Addr}{sz:Nat}{cs:List Value}(ha:c5 P t=some true)(hs:fl P t=some sz)(hl:cs.length=sz)(hc:∀j u,cs[j]? =some u→w.cell? (p.add j)=some u):(loadVar t p).run P w= .ok (.agg cs.toArray) w:=by
 have:=run_loadCells_list (P:=P) w p cs hc
 rw[hl]at this
 simp[loadVar,jy ha,run_sizeOf hs,this]
theorem HZ{t sz:Nat}{ty:TypeId}{p:Addr}{cs:List Value}(he:Leaves e)(hr:fn.results= #[.cell t ty])(hv:get ρ t=some (.pointer (some p)))(ha:c5 P ty=some true)(hs:fl P ty=some sz)(hl:cs.length=sz)
  (hc:∀j u,cs[j]? =some u→w.cell? (p.add j)=some u) (hR:R (.returned (.agg cs.toArray)) w):WQ (bodyPost P fn R) N [] e ρ w:=
 iA he (fun a hA=>by have h1:=hA.getD hv;simp at h1;simp[results,hr,h1,asAddr,kZ ha hs hl hc]) hR
theorem F1{t t' sz:Nat}{ty:TypeId}{p:Addr}{cs:List Value}{v' :Value}(he:Leaves e)(hr:fn.results= #[.cell t ty,.tmp t'])(hv:get ρ t=some (.pointer (some p)))(hv' :get ρ t' =some v')(ha:c5 P ty=some true)(hs:fl P ty=some sz)(hl:cs.length=sz)
  (hc:∀j u,cs[j]? =some u→w.cell? (p.add j)=some u) (hR:R (.returned (.tuple #[.agg cs.toArray,v'])) w):WQ (bodyPost P fn R) N [] e ρ w:=
 iA he (fun a hA=>by have h1:=hA.getD hv;have h2:=hA.getD hv';simp at h1 h2;simp[results,hr,h1,h2,asAddr,kZ ha hs hl hc]) hR
end
end Go.Eng
end
section
namespace Go.Eng
open Go.RowKit
section
variable{P:Program}{ops:Array Oper}{Q:Exit→Act→World→Prop}{S:World→Prop}
def n4(ops:Array Oper):List (Nat×Bool)→Array Bool→Bool
 | [],listed=>(Region.ready .any ops listed).isEmpty
 |(i,true)::r,listed=>(Region.ready .any ops listed == [i]) && n4 ops r (listed.setIfInBounds i true)
 |(i,false)::r,listed=>Region.free .any ops listed i && (Region.ready .any ops listed).contains i && n4 ops r (listed.setIfInBounds i true)
def pick(ops:Array Oper):List (Nat×Bool)→Option (List (Bool×Oper))
 | []=>some []
 |(i,x)::r=>match ops[i]?,pick ops r with
  |some o,some l=>some ((x,o)::l)
  |_,_=>none
def ov(P:Program)(ops:Array Oper)(Q:Exit→Act→World→Prop)(S:World→Prop):List (Bool×Oper)→Act→World→Prop
 | [],a,w=>Q .normal a w
 |(true,o)::r,a,w=>if Region.wanted o (yielded ops a.tmps)=true then o.wp P a w (fun a' w' =>S w' ∧ov P ops Q S r a' w') Q else ov P ops Q S r (a.put o.dst undef) w
 |(false,o)::r,a,w=>∃v,YieldsIf P ops S o v a∧ov P ops Q S r (a.put o.dst v) w
theorem gu(hs:Region.noSelect ops=true)(hQ:∀c a d v w,Q (.panic c) (a.put d v) w→Q (.panic c) a w):∀(L:List (Nat×Bool)) (l:List (Bool×Oper)) (listed:Array Bool) (a:Act) (w:World) (fuel:Nat),
  pick ops L=some l→n4 ops L listed=true→L.length≤fuel→S w→ov P ops Q S l a w→wpAnyH P .any ops Q S fuel listed a w
 | [],l,listed,a,w,fuel,hp,hk,_,_,h=>by
  simp only[pick,Option.some.injEq]at hp
  subst hp
  have hr:Region.ready .any ops listed=[]:=by simpa[n4]using hk
  exact wpAnyH_done hr h fuel
 |(i,x)::r,l,listed,a,w,0,hp,hk,hf,_,h=>by simp at hf
 |(i,x)::r,l,listed,a,w,fuel+1,hp,hk,hf,hS,h=>by
  unfold pick at hp
  split at hp
  ·rename_i o l' ho hl'
   cases hp
   have hf' :r.length≤fuel:=by simp at hf;omega
   cases x with
   |true=>
    simp only[n4,Bool.and_eq_true,beq_iff_eq]at hk
    refine wpAnyH_all hk.1 (by simp) ?_
    intro j hj
    have:j=i:=by simpa using hj
    subst this
    unfold wpOp
    simp only[ho]
    simp only[ov]at h
    split at h
    ·rename_i hw
     rw[if_pos hw]
     refine .inl (Oper.wp_mono ?_ h)
     rintro a' w' ⟨hS',h'⟩
     exact⟨hS',gu hs hQ r l' _ a' w' fuel hl' hk.2 hf' hS' h'⟩
    ·rename_i hw
     rw[if_neg hw]
     exact⟨hS,gu hs hQ r l' _ _ w fuel hl' hk.2 hf' hS h⟩
   |false=>
    simp only[n4,Bool.and_eq_true]at hk
    obtain⟨v,hy,h'⟩:=h
    exact wpAnyH_take ho hs hk.1.1 hk.1.2 (fun c a w=>hQ c a _ _ w) hy hS (gu hs hQ r l' _ _ w fuel hl' hk.2 hf' hS h')
  ·cases hp
def eP(Q:Exit→Act→World→Prop):Exit→Act→World→Prop
 | .panic _,_,_=>False
 | .outgrown,_,_=>False
 |e,a,w=>Q e a w
theorem qk{id:Nat}{a:Act}{w:World}{l:List (Bool×Oper)}(L:List (Nat×Bool))(hm:P.follows .mixedOrders=true)(hs:Region.noSelect ops=true)(hk:n4 ops L (Array.replicate ops.size false)=true)(hn:L.length≤ops.size)
  (hp:pick ops L=some l) (hS:S w.drew) (h:ov P ops (eP Q) S l a w.drew):(Code.region id ops true).wp P Q a w:=by
 refine Code.wp_mono (Q:=eP Q) (fun e a w q=>by cases e <;> first|exact q|exact q.elim) ?_
 exact wp_region_held hm (gu hs (fun c a d v w q=>q.elim) L l _ a _ _ hp hk hn hS h)
end
def WS(P:Program)(ops:Array Oper)(Q:Exit→Act→World→Prop)(S:World→Prop)(N:Nat)(D:List Deferred)(l:List (Bool×Oper))(ρ:Env)(w:World):Prop:=
 ∀a,Ag N D ρ a→ov P ops Q S l a w
section
variable{P:Program}{ops:Array Oper}{Q:Exit→Act→World→Prop}{S:World→Prop}{N:Nat}{D:List Deferred}{ρ ρ' :Env}{w:World}{rest:List (Bool×Oper)}
 {op:Op} {ty:TypeId} {pos:String} {af:Array Edge} {d:Nat} {v:Value}
theorem GJ{id:Nat}{l:List (Bool×Oper)}(L:List (Nat×Bool))(hm:P.follows .mixedOrders=true)(hk:(Region.noSelect ops && n4 ops L (Array.replicate ops.size false) && decide (L.length≤ops.size))=true)
  (hp:pick ops L=some l) (S:World→Prop) (hS:S w.drew) (h:∀w',Fr No w w' →S w' →WS P ops (eP Q) S N D l ρ w'):WC P Q N D (.region id ops true) ρ w:=by
 intro a ha
 simp only[Bool.and_eq_true,decide_eq_true_eq]at hk
 exact qk L hm hk.1.1 hk.1.2 hk.2 hp hS (h _ (Fr.drew w) hS a ha)
theorem sq(h:∀w',S w' →Yl P N D ρ w' op ty v)(k:WS P ops Q S N D rest ((d,v)::ρ) w)(hd:d<N:=by decide):WS P ops Q S N D ((false,⟨some d,op,ty,pos,af,none⟩)::rest) ρ w:=by
 intro a ha
 refine⟨v,.inl ⟨by simp[Region.wanted],fun w' hS=>h w' hS a _ pos af none ha⟩,k _ (ha.put hd)⟩
theorem sx(h:XW P Q N D ρ w op ty (fun v w' =>S w' ∧WS P ops Q S N D rest ((d,v)::ρ) w'))(hd:d<N:=by decide):WS P ops Q S N D ((true,⟨some d,op,ty,pos,af,none⟩)::rest) ρ w:=by
 intro a ha
 unfold ov
 rw[if_pos (by simp[Region.wanted])]
 refine Oper.wp_mono ?_ (h a (some d) pos af none ha)
 rintro a' w' ⟨v,rfl,hS,hk⟩
 exact⟨hS,hk _ (ha.put hd)⟩
theorem send(h:WQ Q N D .normal ρ w):WS P ops (eP Q) S N D [] ρ w:=fun a ha=>h a ha
end
section
variable{P:Program}{ops:Array Oper}{Q:Exit→Act→World→Prop}{N:Nat}{D:List Deferred}{ρ:Env}{w:World}{rest:List Oper}{op:Op}{ty:TypeId}{pos:String}{af:Array Edge}{d:Nat}{v:Value}
theorem Ig{g gd:Nat}{want:Bool}{o:Oper}(ho:ops[g]? =some o)(hod:o.dst=some gd)(hb:get ρ gd=some (.bool want))(h:XW P Q N D ρ w op ty (fun v w' =>WL P ops Q N D rest ((d,v)::ρ) w'))(hd:d<N:=by decide):
  WL P ops Q N D (⟨some d,op,ty,pos,af,some (g,want)⟩::rest) ρ w:=by
 intro a ha
 unfold wpList
 rw[if_pos (by simp[Region.wanted,yielded,ho,hod,ha.gt _ _ hb])]
 refine .inl (Oper.wp_mono ?_ (h a (some d) pos af _ ha))
 rintro a' w' ⟨v,rfl,hk⟩
 exact hk _ (ha.put hd)
theorem vO{g gd:Nat}{want b:Bool}{o:Oper}(ho:ops[g]? =some o)(hod:o.dst=some gd)(hb:get ρ gd=some (.bool b))(hne:b≠want)(k:WL P ops Q N D rest ((d,undef)::ρ) w)(hd:d<N:=by decide):
  WL P ops Q N D (⟨some d,op,ty,pos,af,some (g,want)⟩::rest) ρ w:=by
 intro a ha
 unfold wpList
 rw[if_neg (by simp[Region.wanted,yielded,ho,hod,ha.gt _ _ hb,hne])]
 exact k _ (ha.put hd)
end
theorem Ag.more{N:Nat}{D:List Deferred}{ρ:Env}{a:Act}{t:Nat}{v:Value}(ha:Ag N D ρ a)(h:get ρ t=some v):Ag N D ((t,v)::ρ) a:=⟨ha.sz,ha.df,fun u x hu=>by
 simp only[get]at hu
 cases hb:Nat.beq t u with
 |true=>
  have:t=u:=Nat.eq_of_beq_eq_true hb
  subst this
  rw[hb]at hu
  simp only[cond_true,Option.some.injEq]at hu
  exact hu▸ha.gt _ _ h
 |false=>
  rw[hb]at hu
  exact ha.gt _ _ hu⟩
section
variable{P:Program}{ops:Array Oper}{Q:Exit→Act→World→Prop}{S:World→Prop}{N:Nat}{D:List Deferred}{ρ:Env}{w:World}{p:Prop}[Decidable p]
theorem z8{l:List Oper}(gd:Nat)(hg:get ρ gd=some (.bool (decide p)))(ht:p→WL P ops Q N D l ((gd,.bool true)::ρ) w)(hf:¬p→WL P ops Q N D l ((gd,.bool false)::ρ) w):WL P ops Q N D l ρ w:=by
 intro a ha
 by_cases h:p
 ·exact ht h a (ha.more (by rw[hg];simp[h]))
 ·exact hf h a (ha.more (by rw[hg];simp[h]))
end
section
variable{P:Program}{Q:Exit→Act→World→Prop}{N:Nat}{D:List Deferred}{ρ:Env}{w:World}
theorem bk{c:Code}(h:WC P Q N D c ρ w):WQ (Exit.then (c.wp P Q) Q) N D .normal ρ w:=h
theorem cI{K:Act→World→Prop}{id:Nat}(h:WQ Q N D (.exit id) ρ w):WQ (Exit.then K Q) N D (.exit id) ρ w:=h
theorem kW{K:Act→World→Prop}(h:WQ Q N D .ret ρ w):WQ (Exit.then K Q) N D .ret ρ w:=h
theorem jS{id:Nat}(h:WQ Q N D .normal ρ w):WQ (Exit.inBlock id Q) N D .normal ρ w:=h
theorem dM{id:Nat}(h:WQ Q N D .normal ρ w):WQ (Exit.inBlock id Q) N D (.exit id) ρ w:=fun a ha=>by
 simp only[Exit.inBlock,if_true];exact h a ha
theorem sj{id id' :Nat}(hne:id' ≠id)(h:WQ Q N D (.exit id') ρ w):WQ (Exit.inBlock id Q) N D (.exit id') ρ w:=fun a ha=>by
 simp only[Exit.inBlock,hne,if_false];exact h a ha
theorem iC{id:Nat}(h:WQ Q N D .ret ρ w):WQ (Exit.inBlock id Q) N D .ret ρ w:=h
theorem mX{α:Type}{c:Code}(μ:α→Nat)(R:α→Env)(I:α→World→Prop)(a0:α)(hi:I a0 w)(hs:Sub (R a0) ρ)
  (round:∀a w,I a w→WC P (Exit.then (fun a' w' =>∃x,Ag N D (R x) a' ∧I x w' ∧μ x<μ a) Q) N D c (R a) w):WC P Q N D (.loop c) ρ w:=y6 μ R I a0 hi hs round
theorem nK{α:Type}{M:Nat}{μ:α→Nat}{R:α→Env}{I:α→World→Prop}(x:α)(hs:Sub (R x) ρ)(hI:I x w)(hlt:μ x<M):WQ (Exit.then (fun a' w' =>∃x,Ag N D (R x) a' ∧I x w' ∧μ x<M) Q) N D .normal ρ w:=
 fun _ ha=>⟨x,ha.sub hs,hI,hlt⟩
theorem vf{α β:Type}{c:Code}(μ:α→β→Nat)(R:α→β→Env)(I:α→β→World→Prop)(a0:α)(b0:β)(hi:I a0 b0 w)(hs:Sub (R a0 b0) ρ)
  (round:∀a b w,I a b w→WC P (Exit.then (fun a' w' =>∃x y,Ag N D (R x y) a' ∧I x y w' ∧μ x y<μ a b) Q) N D c (R a b) w):WC P Q N D (.loop c) ρ w:=
 y6 (ι:=α×β) (fun i=>μ i.1 i.2) (fun i=>R i.1 i.2) (fun i=>I i.1 i.2) (a0,b0) hi hs (fun i w h a ha=>Code.wp_mono (fun e a' w' q=>by
  cases e <;> first|exact q|(obtain⟨x,y,h1,h2,h3⟩:=q;exact⟨(x,y),h1,h2,h3⟩)) (round i.1 i.2 w h a ha))
theorem uA{α β:Type}{M:Nat}{μ:α→β→Nat}{R:α→β→Env}{I:α→β→World→Prop}(x:α)(y:β)(hs:Sub (R x y) ρ)(hI:I x y w)(hlt:μ x y<M):
  WQ (Exit.then (fun a' w' =>∃x y,Ag N D (R x y) a' ∧I x y w' ∧μ x y<M) Q) N D .normal ρ w:=fun _ ha=>⟨x,y,ha.sub hs,hI,hlt⟩
end
end Go.Eng
end
section
namespace Go.Eng
open Go.RowKit
theorem Rd.lG{w:World}{g e sz n:Nat}{cs:List Value}(h:e8 w g e cs)(hl:cs.length=n*sz):Rd w sz (Option.some ⟨g,0,none⟩) n cs:=
 ⟨hl,fun _ e=>(by cases e),fun j u hu=>by rw[Option.getD_some,ez,Nat.zero_add];exact h.cell hu⟩
theorem Src.lG{P:Program}{w:World}{g e sz n c:Nat}{cs:List Value}(h:e8 w g e cs)(hl:cs.length=n*sz):Src P w sz n (.slice (some ⟨g,0,none⟩) n c) cs:=Src.b9 (Rd.lG h hl)
theorem uh{s:List UInt8}{j:Nat}(h:j<s.length):(strOf s).data[j]? =some (s.getD j 0):=by
 simp[strOf,List.getD,List.getElem?_eq_getElem h]
theorem add_zero(a:Addr):a.add 0=a:=by simp[Addr.add]
theorem se(A:Option Addr):A.map (·.add 0)=A:=by cases A <;> simp[add_zero]
section
variable{P:Program}{N:Nat}{D:List Deferred}{ρ:Env}{w:World}{ty t t' e:TypeId}{x y z:Operand}{v:Value}{k k' :IntKind}{i j:Int}{A:Option Addr}{n c sz:Nat}
theorem fS{j m:Nat}{code:BoundsCode}(h1:j≤m):(Instr.sliceBound (.int k (j:Int)) m code).run P w= .ok j w:=by
 have h0:(0:Int)≤(j:Int):=by omega
 simp[Instr.sliceBound,asIntOf,h0,h1]
theorem mT{a:Nat}(hx:ev ρ x=some (.slice A n c))(hy:ev ρ y=some (.int k i))(ht:P.underlying t=some (.slice e))(hs:fl P e=some sz)(hj:((a:Nat):Int)=i)(h1:a≤c):
  Yl P N D ρ w (.slice t x none (some y) none) ty (.slice A a c):=fun ac _ _ _ _ ha=>by
 subst hj
 have:(if c=0 then A else A.map (·.add (0*sz)))=A:=by split <;> simp[se]
 simp[execOp,ha.eval hx,ha.eval hy,Instr.sliceAt,Instr.slice,Instr.sliceBounds,run_underlying ht,run_sizeOf hs,fS h1]at this ⊢
 exact this
theorem ef{a:Nat}(hx:ev ρ x=some (.slice A n c))(hy:ev ρ y=some (.int k i))(ht:P.underlying t=some (.slice e))(hs:fl P e=some sz)(hj:((a:Nat):Int)=i)(h1:a≤n):
  Yl P N D ρ w (.slice t x (some y) none none) ty (.slice (if c=a then A else A.map (·.add (a*sz))) (n-a) (c-a)):=fun ac _ _ _ _ ha=>by
 subst hj
 simp[execOp,ha.eval hx,ha.eval hy,Instr.sliceAt,Instr.slice,Instr.sliceBounds,run_underlying ht,run_sizeOf hs,fS h1]
theorem eA{a b:Nat}(hx:ev ρ x=some (.slice A n c))(hy:ev ρ y=some (.int k i))(hz:ev ρ z=some (.int k' j))(ht:P.underlying t=some (.slice e))(hs:fl P e=some sz)(hi:((a:Nat):Int)=i)(hj:((b:Nat):Int)=j)(h1:a≤b)(h2:b≤c):
  Yl P N D ρ w (.slice t x (some y) (some z) none) ty (.slice (if c=a then A else A.map (·.add (a*sz))) (b-a) (c-a)):=fun ac _ _ _ _ ha=>by
 subst hi
 subst hj
 simp[execOp,ha.eval hx,ha.eval hy,ha.eval hz,Instr.sliceAt,Instr.slice,Instr.sliceBounds,run_underlying ht,run_sizeOf hs,fS h2,fS h1]
theorem A7{p:Addr}(hx:ev ρ x=some (.pointer (some p)))(ht:P.underlying t=some (.array n e))(hs:fl P e=some sz):Yl P N D ρ w (.slice t x none none none) ty (.slice (some p) n n):=fun a _ _ _ _ ha=>by
 simp[execOp,ha.eval hx,Instr.sliceAt,Instr.sureAddr,Instr.sliceBounds,run_underlying ht,run_sizeOf hs,add_zero]
theorem oc(s:ByteArray)(l h:Nat):s.extract l h=strOf (((bytesOf s).take h).drop l):=by
 apply ByteArray.ext
 rw[ByteArray.data_extract]
 apply Array.ext'
 simp[strOf,bytesOf,List.drop_take]
theorem q9{s:ByteArray}{a b:Nat}(hx:ev ρ x=some (.string s))(hy:ev ρ y=some (.int k i))(hz:ev ρ z=some (.int k' j))(ht:P.underlying t=some .string)(hi:((a:Nat):Int)=i)(hj:((b:Nat):Int)=j)(h1:a≤b)(h2:b≤(bytesOf s).length):
  Yl P N D ρ w (.slice t x (some y) (some z) none) ty (.string (strOf (((bytesOf s).take b).drop a))):=fun ac _ _ _ _ ha=>by
 subst hi
 subst hj
 have h4:b≤s.size:=by simpa[bytesOf]using h2
 simp[execOp,ha.eval hx,ha.eval hy,ha.eval hz,Instr.sliceAt,Instr.slice,Instr.sliceBounds,run_underlying ht,fS h4,fS h1,oc]
theorem wv{s:ByteArray}{a:Nat}(hx:ev ρ x=some (.string s))(hy:ev ρ y=some (.int k i))(ht:P.underlying t=some .string)(hi:((a:Nat):Int)=i)(h1:a≤(bytesOf s).length):
  Yl P N D ρ w (.slice t x none (some y) none) ty (.string (strOf ((bytesOf s).take a))):=fun ac _ _ _ _ ha=>by
 subst hi
 have h4:a≤s.size:=by simpa[bytesOf]using h1
 simp[execOp,ha.eval hx,ha.eval hy,Instr.sliceAt,Instr.slice,Instr.sliceBounds,run_underlying ht,fS h4,oc]
theorem sC{m:Nat}(hx:ev ρ x=some (.slice A n c))(ht:P.underlying t=some (.array m e))(hm:m≤n):Yl P N D ρ w (.sliceToArrayPointer t x) ty (.pointer A):=fun a _ _ _ _ ha=>by
 have:¬n<m:=by omega
 simp[execOp,ha.eval hx,Instr.arrayAt,run_underlying ht,this]
theorem BL{l:List UInt8}(hr:Rd w 1 A n (aT l))(ht:P.underlying t=some (.slice e))(he:P.underlying e=some (.int .u8))(ht' :P.underlying t' =some .string):(convert t t' (.slice A n c)).run P w= .ok (.string (strOf l)) w:=by
 have hn:l.length=n:=by have:=hr.1;rw[aA]at this;omega
 cases A with
 |none=>
  have h0:n=0:=by
   rcases Nat.eq_zero_or_pos n with h|h
   ·exact h
   ·exact absurd rfl (hr.2.1 h)
  have hl:l=[]:=List.eq_nil_of_length_eq_zero (by omega)
  rw[run_convert_bytes_string w t t' e none n c ht he ht',hl]
  simp[Conv.bytesToString]
  rfl
 |some ad=>
  subst hn
  exact run_convert_bytes_back w t t' e ad c l ht he ht' (fun j hj=>by
   have:=hr.cell (bO hj)
   simpa[B8,List.getD,List.getElem?_eq_getElem hj]using this)
theorem kj{l:List UInt8}(hx:ev ρ x=some (.slice A n c))(ht:P.underlying t=some (.slice e))(he:P.underlying e=some (.int .u8))(ht' :P.underlying t' =some .string)(hr:Rd w 1 A n (aT l)):Yl P N D ρ w (.convert t t' x) ty (.string (strOf l)):=fun a _ _ _ _ ha=>by
 simp[execOp,ha.eval hx,BL hr ht he ht']
theorem C9 {f : Nat} {fn : Func} {l : List Operand} {vs : List Value} {tys : Array TypeId} {g : Array Value → Sem Value} (hv : mP ρ l = some vs) (hf : P.funcs[f]? = some fn) (hname : (fn.name == "runtime.NumGoroutine") = false)
    (hb:fn.body.isNone=true) (hn:Extern.findNext fn=none) (he:Extern.find fn=some g) (hr:(g vs.toArray).run P w= .ok v w):Yl P N D ρ w (.call ⟨.value (.func f),l.toArray,tys⟩) ty v:=fun a _ _ _ _ ha=>by
  simp[execOp,resolve,Deferred.ofValue,Act.eval,invoke,ha.gM hv,run_callFunc_extern hf hname hb hn he,hr]
inductive wq(P:Program)(pl:Nat→Option (Nat×Nat)):List Value→List (Nat×Value)→List Value→Prop
 |nil {cs:List Value}:wq P pl cs [] cs
 |cons {cs cs' vs:List Value} {i o sz:Nat} {v:Value} {rest:List (Nat×Value)} (hp:pl i=some (o,sz)) (hv:v.cells.toList=vs) (hl:vs.length=sz) (ho:o+sz≤cs.length) (h:wq P pl (bD cs o vs) rest cs'):wq P pl cs ((i,v)::rest) cs'
theorem jB:∀(vs cs:List Value) (o k:Nat),o+k+vs.length≤cs.length→(vs.zipIdx k).foldl (fun cs (c,j)=>cs.setIfInBounds (o+j) c) cs.toArray=(bD cs (o+k) vs).toArray
 | [],cs,o,k,_=>by simp[pF]
 |v::r,cs,o,k,h=>by
  have hk:o+k<cs.length:=by simp at h;omega
  rw[List.zipIdx_cons,List.foldl_cons]
  have:=jB r (cs.set (o+k) v) o (k+1) (by simp at h ⊢;omega)
  simp only[List.setIfInBounds_toArray]at this ⊢
  rw[this,←Nat.add_assoc,oa hk]
theorem tb{pl:Nat→Option (Nat×Nat)}:∀{parts:List (Nat×Value)} {cs cs' :List Value},wq P pl cs parts cs' →Instr.fill pl cs.toArray parts=some cs'.toArray
 | [],_,_,h=>by cases h;rfl
 |(i,v)::rest,cs,cs',h=>by
  cases h with
  |cons hp hv hl ho h=>
   rename_i vs o sz
   have h1:v.cells=vs.toArray:=by rw[←hv]
   have h2:¬(cs.length<o+vs.length):=by omega
   have hz:vs.toArray.zipIdx=(vs.zipIdx).toArray:=by simp
   have hf:=jB vs cs o 0 (by omega)
   simp only[Nat.add_zero]at hf
   unfold Instr.fill
   simp only[hp,h1]
   rw[if_neg (by simp;omega),hz,List.foldl_toArray,hf]
   exact tb h
def lz(P:Program)(t:TypeId)(i:Nat):Option (Nat×Nat):=
 match P.underlying t with
 |some (.array _ e)=>match P.info? e with
  |some ie=>some (i*ie.size,ie.size)
  |none=>none
 |some (.struct fields)=>match fields.toList.mapM (fun f=>(P.info? f.type).map fun i=>(f.offset,i.size))with
  |some places=>places.toArray[i]?
  |none=>none
 |_=>none
theorem zA{parts:List (Nat×Value)}{zs cs:List Value}{z:Value}{sz bytes:Nat}(hT:TI P t z sz bytes)(hz:z.cells.toList=zs)(hp:(lz P t 0).isSome=true)(hb:wq P (lz P t) zs parts cs):P.built t parts=some cs.toArray:=by
 obtain⟨i,hi,hzero,_,_⟩:=hT.get
 have hzc:z.cells=zs.toArray:=by rw[←hz]
 have hfill:=tb hb
 unfold Program.built
 cases hu:P.underlying t with
 |none=>simp[lz,hu]at hp
 |some d=>
  cases d <;> try (simp[lz,hu]at hp;done)
  case array n e=>
   cases he:P.info? e with
   |none=>simp[lz,hu,he]at hp
   |some ie=>
    have e3:lz P t=fun i=>some (i*ie.size,ie.size):=by funext i;simp[lz,hu,he]
    rw[e3]at hfill
    simp only[hi,hzero,he,hzc]
    exact hfill
  case struct fs=>
   cases hm:fs.toList.mapM (fun f=>(P.info? f.type).map fun i=>(f.offset,i.size))with
   |none=>simp[lz,hu,hm]at hp
   |some places=>
    have e3:lz P t=fun i=>places.toArray[i]? :=by funext i;simp[lz,hu,hm]
    rw[e3]at hfill
    simp only[hi,hzero,hm,hzc]
    exact hfill
theorem b6{zs cs:List Value}{parts:List (Nat×Operand)}{vs:List Value}{z:Value}{sz bytes:Nat}(hT:TI P t z sz bytes)(hz:z.cells.toList=zs)(hv:mP ρ (parts.map (·.2))=some vs)(hp:(lz P t 0).isSome=true)
  (hb:wq P (lz P t) zs ((parts.map (·.1)).zip vs) cs):Yl P N D ρ w (.build t parts.toArray) ty (.agg cs.toArray):=fun a _ _ _ _ ha=>by
 have e1:=ha.gM hv
 have e2:∀q:List (Nat×Operand),q.map (fun p=>(p.1,a.eval p.2))=(q.map (·.1)).zip ((q.map (·.2)).map a.eval):=by
  intro q
  induction q with
  |nil=>rfl
  |cons p r ih=>simp[ih]
 have hbt:=zA hT hz hp hb
 have:=run_build (P:=P) w t ((parts.map fun p=>(p.1,a.eval p.2)).toArray) cs.toArray (by rw[e2 parts,e1];exact hbt)
 simp[execOp,this]
theorem ej{z:Value}{sz bytes:Nat}{cs:List Value}(hT:TI P t z sz bytes)(hz:z.cells.toList=cs)(hp:(lz P t 0).isSome=true):Yl P N D ρ w (.build t #[]) ty (.agg cs.toArray):=
 b6 (parts:=[]) hT hz rfl hp .nil
end
section
variable{P:Program}{Q:Exit→Act→World→Prop}{N:Nat}{D:List Deferred}{ρ:Env}{w:World}{ty t t' e:TypeId}{x y:Operand}{v:Value}{K:Value→World→Prop}
theorem sW(sz:Nat):∀(vs:List Value) (k:Nat) (cs:List Value),(∀v∈vs,v.cells.size=sz)→(k+vs.length)*sz=cs.length→
  Instr.fill (fun i=>some (i*sz,sz)) cs.toArray ((List.range' k vs.length).zip vs)=some (cs.take (k*sz)++vs.flatMap (·.cells.toList)).toArray
 | [],k,cs,_,hl=>by simp at hl;simp[Instr.fill,hl]
 |v::r,k,cs,hv,hl=>by
  have h1:=hv v (by simp)
  have h2:k*sz+sz≤cs.length:=by
   rw[←hl]
   have:(k+(v::r).length)*sz=k*sz+sz+r.length*sz:=by simp[Nat.add_mul];omega
   omega
  have hlv:v.cells.toList.length=sz:=by simpa using h1
  have hf:=jB v.cells.toList cs (k*sz) 0 (by omega)
  simp only[Nat.add_zero]at hf
  have hz:v.cells.zipIdx=(v.cells.toList.zipIdx).toArray:=by apply Array.ext';simp
  rw[List.length_cons,List.range'_succ,List.zip_cons_cons]
  unfold Instr.fill
  simp only[]
  rw[if_neg (by simp;omega),hz,List.foldl_toArray,hf,sW sz r (k+1) _ (fun u hu=>hv u (by simp[hu])) (by rw[en (by omega),←hl];congr 1;simp only[List.length_cons];omega)]
  congr 2
  simp only[List.flatMap_cons,←List.append_assoc]
  congr 1
  have e1:(k+1)*sz=k*sz+sz:=by simp[Nat.add_mul]
  rw[e1]
  unfold bD
  have h3:(cs.take (k*sz)++v.cells.toList).length=k*sz+sz:=by simp;omega
  rw[←h3,List.take_left]
theorem EP{z:Value}{sz bytes n:Nat}{parts:List (Nat×Operand)}{vs:List Value}(ht:P.underlying t=some (.slice e))(hT:TI P e z sz bytes)(hv:mP ρ (parts.map (·.2))=some vs)(hi:parts.map (·.1)=List.range' 0 n)(hl:vs.length=n)
  (hc:∀v∈vs,v.cells.size=sz) (h0:n*sz≠0) (hsm:n*sz≤16777216)
  (k:∀g w',w.heap.size≤g→Fr No w w' →w'.heap[g]? =some (.cells (vs.flatMap (·.cells.toList)).toArray e (0,0))→K (.slice (some ⟨g,0,none⟩) n n) w'):XW P Q N D ρ w (.buildSlice t n parts.toArray) ty K:=by
 obtain⟨ie,hi',hzero,hsize,_⟩:=hT.get
 refine cZ (w' :=w.alloc (.cells (vs.flatMap (·.cells.toList)).toArray e)) (fun a _ _ _ _ ha=> ?_) (k _ _ (Nat.le_refl _) (Fr.alloc w _) (heap_alloc_new w _))
 have e1:=ha.gM hv
 have e2:∀q:List (Nat×Operand),q.map (fun p=>(p.1,a.eval p.2))=(q.map (·.1)).zip ((q.map (·.2)).map a.eval):=by
  intro q
  induction q with
  |nil=>rfl
  |cons p r ih=>simp[ih]
 have e3:parts.map (fun p=>(p.1,a.eval p.2))=(List.range' 0 vs.length).zip vs:=by rw[e2,e1,hi,hl]
 have hlen:(0+vs.length)*sz=((List.range (n*sz)).map fun i=>z.cells[i % z.cells.size]!).length:=by simp[hl]
 have hfs:=sW sz vs 0 ((List.range (n*sz)).map fun i=>z.cells[i % z.cells.size]!) hc hlen
 simp only[Nat.zero_mul,List.take_zero,List.nil_append]at hfs
 have h24:¬(2 ^ 24<n*sz):=by omega
 have hr:(Array.range (n*sz)).map (fun i=>z.cells[i % z.cells.size]!)=((List.range (n*sz)).map fun i=>z.cells[i % z.cells.size]!).toArray:=by
  apply Array.ext'
  simp
 have hsl:¬(n*ie.size=0):=by rw[hsize];exact h0
 have hfs' :Instr.fill (fun i=>some (i*ie.size,ie.size)) ((Array.range (n*ie.size)).map fun i=>z.cells[i % z.cells.size]!) (parts.map fun p=>(p.1,a.eval p.2))=some (vs.flatMap (·.cells.toList)).toArray:=by
  rw[hsize,hr,e3];exact hfs
 have h24' :¬(2 ^ 24<n*ie.size):=by rw[hsize];exact h24
 simp[execOp,Instr.buildSlice,run_underlying ht,sizeOf,typeInfo,zeroValue,hi',hzero,hsl,newRow,h24',hfs']
theorem tP{z:Value}{sz bytes n:Nat}{parts:List (Nat×Operand)}{vs:List Value}(ht:P.underlying t=some (.slice e))(hT:TI P e z sz bytes)(hv:mP ρ (parts.map (·.2))=some vs)(hi:parts.map (·.1)=List.range' 0 n)(hl:vs.length=n)
  (hc:∀v∈vs,v.cells.size=sz) (h0:n*sz≠0) (hsm:n*sz≤16777216)
  (k:∀g w',w.heap.size≤g→Fr No w w' →e8 w' g e (vs.flatMap (·.cells.toList))→K (.slice (some ⟨g,0,none⟩) n n) w'):XW P Q N D ρ w (.buildSlice t n parts.toArray) ty K:=
 EP ht hT hv hi hl hc h0 hsm fun g w' hg hf hh=>k g w' hg hf ⟨(0,0),hh,fun i _=>by simp,Nat.le_refl _⟩
theorem xg{w:World}{g n:Nat}{c:Array Value}{t:TypeId}(h:w.heap[g]? =some (.cells c t (0,0))):(w.freeze ⟨g,n,none⟩ 1).heap[g]? =some (.cells c t (n,n+1)):=by
 have e1:w.freeze ⟨g,n,none⟩ 1={w with heap:=w.heap.modify g fun| .cells c elem (lo,hi)=>.cells c elem (if lo == hi then(n,n+1)else(min lo n,max hi (n+1)))|o=>o}:=rfl
 rw[e1]
 simp only[Array.getElem?_modify,if_true,h,Option.map_some]
 rfl
theorem qW(w:World)(g n:Nat):Fr (fun k=>k=g) w (w.freeze ⟨g,n,none⟩ 1):=by
 have e1:w.freeze ⟨g,n,none⟩ 1={w with heap:=w.heap.modify g fun| .cells c elem (lo,hi)=>.cells c elem (if lo == hi then(n,n+1)else(min lo n,max hi (n+1)))|o=>o}:=rfl
 rw[e1]
 refine⟨rfl,rfl,rfl,by simp,fun k _ hk=> ?_⟩
 simp only[Array.getElem?_modify]
 rw[if_neg (fun e=>hk e.symm)]
theorem Gm{s:ByteArray}{td:TypeDesc}(hx:ev ρ x=some (.string s))(ht:P.underlying t=some td)(ht' :P.underlying t' =some (.slice e))(he:P.underlying e=some (.int .u8))(hm:(bytesOf s).length≤maxLen)
  (k:∀v w',Fr No w w' →Own w' w.heap.size e 1 v (bytesOf s).length (aT (bytesOf s))→K v w'):XW P Q N D ρ w (.convert t t' x) ty K:=by
 have hle:s.size≤maxLen:=by simpa[bytesOf]using hm
 have hge:=grownCap_ge w s.size 0 e
 have hcm:=grownCap_le_maxLen w s.size 0 e hle
 have hl:(bytesOf s).length=s.size:=by simp[bytesOf]
 let cs:List Value:=aT (bytesOf s)++List.replicate (grownCap w s.size 0 e-s.size) (.int .u8 0)
 have hcl:cs.length=grownCap w s.size 0 e:=by simp[cs,aA,hl];omega
 let w1:=(w.drew.alloc (.cells cs.toArray e)).freeze {block:=w.heap.size,off:=cs.length} 1
 have hb1:(w.drew.alloc (.cells cs.toArray e)).heap[w.heap.size]? =some (.cells cs.toArray e (0,0)):=heap_alloc_new w.drew _
 have hblk:e8 w1 w.heap.size e cs:=⟨(cs.length,cs.length+1),xg hb1,fun i hi=>by simp;omega,Nat.le_succ _⟩
 have hfr:Fr No w w1:=((Fr.drew w).eX (Fr.alloc w.drew (.cells cs.toArray e))).new (qW _ w.heap.size cs.length) (fun i hi=>Nat.le_of_eq hi.symm)
 refine cZ (v' :=.slice (some ⟨w.heap.size,0,none⟩) s.size (grownCap w s.size 0 e)) (w' :=w1) (fun a _ _ _ _ ha=> ?_) (k _ _ hfr ?_)
 ·have e2:s.data.map (fun b=>Value.int .u8 (b.toNat:Int))++Array.replicate (grownCap w s.size 0 e-s.size) (Value.int .u8 0)=cs.toArray:=by
   apply Array.ext'
   simp[cs,aT,bytesOf,B8]
  have e3:(w.drew.alloc (.cells cs.toArray e)).shape? w.heap.size=some (e,cs.length):=by simp only[World.shape?,hb1];simp
  have e4:(Conv.stringToBytes e s).run P w= .ok (.slice (some ⟨w.heap.size,0,none⟩) s.size (grownCap w s.size 0 e)) w1:=by
   simp only[grownCap]at e2
   simp[Conv.stringToBytes,choose,Sem.run,Question.forced,newRow,markStringish,shape,freeze,e2,grownCap]
   rw[e3]
   rfl
  cases td <;> simp[execOp,ha.eval hx,convert,run_underlying ht,run_underlying ht',run_underlying he,e4]
 ·have:=Own.made (base:=w.heap.size) (e:=e) (sz:=1) (n:=s.size) (cap:=grownCap w s.size 0 e) hblk (Nat.le_refl _) hge hcm (by omega)
  rw[hl]
  have e1:cs.take (s.size*1)=aT (bytesOf s):=by
   rw[Nat.mul_one,←hl,←aA];exact List.take_left
  rw[e1]at this
  exact this
end
section
variable{P:Program}{Q:Exit→Act→World→Prop}{N:Nat}{D:List Deferred}{ρ:Env}{w:World}{x y:Operand}{ty t e:TypeId}{v:Value}{K:Value→World→Prop}
theorem vr{cur:List Value}{o m j:Nat}{v:Value}(hj:j<m):((cur.set (o+j) v).drop o).take m=((cur.drop o).take m).set j v:=by
 rw[List.drop_set,if_neg (by omega),List.take_set]
 congr 1
 omega
theorem GN{A:Option Addr}{n c base sz j:Nat}{xs:List Value}(hx:ev ρ x=some (.pointer (some ((A.getD d0).add j))))(hy:ev ρ y=some v)(hs:fl P t=some 1)(hv:v.oneCell' =true)(h:Own w base e sz (.slice A n c) n xs)(hj:j<n*sz)
  (k:∀w',Fr (j8 (.slice A n c)) w w' →Own w' base e sz (.slice A n c) n (xs.set j v)→w'.heap.size=w.heap.size→K undef w'):XW P Q N D ρ w (.store t x y) ty K:=by
 rcases h with⟨hl,⟨h1,rfl⟩|⟨g,o,cap,cur,h1,hb,hg,hn,hm,hc,hxs⟩⟩
 ·omega
 ·injection h1 with h1 h2 h3
  subst h1;subst h3
  have hle:n*sz≤c*sz:=Nat.mul_le_mul_right _ hn
  refine AL (g:=g) (o:=o+j) (by rw[hx,Option.getD_some,ez]) hy hs hv hg (by omega) fun w' hf hb' hsz=>k w' ?_ ⟨by simpa using hl,.inr ⟨g,o,c,_,rfl,hb,hb',hn,hm,by simpa using hc, ?_⟩⟩ hsz
  ·exact hf.mono fun i _ hi=>hi
  ·rw[vr hj,hxs]
end
theorem e8.aw{w:World}{g:Nat}{t:TypeId}{cs:List Value}(h:e8 w g t cs):∀(j:Nat) (u:Value),cs[j]? =Option.some u→w.cell? ((⟨g,0,Option.none⟩:Addr).add j)=Option.some u:=
 fun j u hu=>h.tT (by simpa using hu)
theorem aV(cs:List Value):(Value.agg cs.toArray).cells.toList=cs:=rfl
end Go.Eng
end
section
namespace Go.Eng
open Go.RowKit
section
variable{P:Program}{Q:Exit→Act→World→Prop}{N:Nat}{D:List Deferred}{ρ:Env}{w:World}{x y:Operand}{ty t t' tx:TypeId}{v:Value}{K:Value→World→Prop}
theorem E4{ms:Array (String×TypeId)}{k q:IntKind}{a b:Int}(hx:ev ρ x=some (.iface tx (.int k a)))(hy:ev ρ y=some (.iface tx (.int k b)))(ht:P.underlying t=some (.interface ms))(hc:(P.info? tx).map (·.comparable)=some true)(hu:P.underlying tx=some (.int q)):
  Yl P N D ρ w (.binOp .eql t x y t') ty (.bool (decide (a=b))):=fun _ _ _ _ _ ha=>by
 have h:=Lib.run_eql_iface_int (P:=P) w (t:=t) (tx:=tx) (k:=k) a b ht hc hu
 have e:(a == b)=decide (a=b):=by by_cases h:a=b <;> simp[h]
 rw[e]at h
 simp only[execOp,ha.eval hx,ha.eval hy]
 simp[eqGuard,h]
theorem AR{u:TypeId}{v:Value}(hx:ev ρ x=some (.iface u v))(hy:ev ρ y=some .nilIface)(h:P.isIface t=true):Yl P N D ρ w (.binOp .eql t x y t') ty (.bool false):=fun _ _ _ _ _ ha=>by
 simp only[execOp,ha.eval hx,ha.eval hy]
 simp[eqGuard,run_eql_iface_nil w t h u v]
theorem qu{co:Bool}{r:Value}{xT:TypeId}(hx:ev ρ x=some v)(h:(Instr.typeAssert v xT t co).run P w= .ok r w):Yl P N D ρ w (.typeAssert x xT t co) ty r:=fun a _ _ _ _ ha=>by
 simp[execOp,ha.eval hx,h]
theorem DB{dt:TypeId}{recv r:Value}{m:String}{f:Nat}{fn:Func}{l:List Operand}{vs:List Value}{tys:Array TypeId}{g:Array Value→Sem Value}(hx:ev ρ x=some (.iface dt v))(hv:mP ρ l=some vs)
    (hm : (Go.method (P.types.size + Made.depth) dt v m).run P w = .ok (f, recv) w) (hf : P.funcs[f]? = some fn) (hname : (fn.name == "runtime.NumGoroutine") = false)
    (hb:fn.body.isNone=true) (hn:Extern.findNext fn=none) (he:Extern.find fn=some g) (hr:(g (#[recv]++vs.toArray)).run P w= .ok r w):Yl P N D ρ w (.call ⟨.invoke x m,l.toArray,tys⟩) ty r:=fun a _ _ _ _ ha=>by
  have h:=run_callFunc_extern (P:=P) hf hname hb hn he (args:= #[recv]++vs.toArray) (w:=w)
  rw[hr]at h
  have h0:(program).run P w= .ok P w:=rfl
  simp[execOp,resolve,invoke,callMethod,h0,ha.gM hv,ha.eval hx,hm]
  simpa using h
theorem vh{cs vs:List Value}(h:vs.length=cs.length):bD cs 0 vs=vs:=by
 simp[bD,h]
end
end Go.Eng
end
section
namespace Go.Eng
open Go.RowKit
theorem wQ{r:Int}(h1:0≤r)(h2:r<4294967296):IntKind.u32.wrap r=r:=by
 simp[IntKind.wrap,IntKind.signed,IntKind.bits]
 omega
section
variable{P:Program}{Q:Exit→Act→World→Prop}{N:Nat}{D:List Deferred}{ρ:Env}{w:World}{x y:Operand}{ty t t' e:TypeId}{v:Value}{K:Value→World→Prop}
theorem EG{A:Option Addr}{n c n' c' :Nat}(hx:ev ρ x=some (.slice A n c))(hy:ev ρ y=some (.slice none n' c'))(ht:P.underlying t=some (.slice e)):Yl P N D ρ w (.binOp .eql t x y t') ty (.bool A.isNone):=fun _ _ _ _ _ ha=>by
 simp only[execOp,ha.eval hx,ha.eval hy]
 simp[eqGuard,Lib.run_eql_slice_nil w t e A n c n' c' ht]
theorem rq{m:Nat}(hx:ev ρ x=some (.int .u32 (m:Int)))(h:m<4294967296):Yl P N D ρ w (.unOp .xor t x) ty (.int .u32 ((4294967295 ^^^ m:Nat):Int)):=fun _ _ _ _ _ ha=>by
 have h1:=u32_xor_nat 4294967295 m (by decide) h
 simp only[bits]at h1
 simp[execOp,ha.eval hx,Op.unary,Op.intBits,IntKind.signed,IntKind.max,IntKind.bits]at h1 ⊢
 exact h1
theorem EB{z:Value}{sz bytes:Nat}(ht:P.underlying t=some (.slice e))(hT:TI P e z sz bytes)
  (k:∀g w',w.heap.size≤g→Fr No w w' →e8 w' g e []→K (.slice (some ⟨g,0,none⟩) 0 0) w'):XW P Q N D ρ w (.buildSlice t 0 #[]) ty K:=by
 obtain⟨ie,hi',hzero,hsize,_⟩:=hT.get
 refine cZ (w' :=w.alloc (.cells #[] e)) (fun a _ _ _ _ ha=> ?_) (k _ _ (Nat.le_refl _) (Fr.alloc w _) (e8.new w e []))
 simp[execOp,Instr.buildSlice,Instr.fill,run_underlying ht,sizeOf,typeInfo,hi',newRow]
 congr 2
 apply Array.ext'
 simp
end
theorem Own.Gt{w:World}{base g:Nat}{e:TypeId}{sz:Nat}(h:e8 w g e [])(hb:base≤g):Own w base e sz (.slice (some ⟨g,0,none⟩) 0 0) 0 []:=
 ⟨by simp,.inr ⟨g,0,0,[],rfl,hb,h,Nat.le_refl _,by decide,by simp,by simp⟩⟩
def dc(ds:List (List UInt8)):List Value:=ds.flatMap aT
theorem qT(a b:List (List UInt8)):dc (a++b)=dc a++dc b:=by simp[dc]
theorem DT{ds:List (List UInt8)}{k:Nat}(h:∀d∈ds,d.length=k):∀(i:Nat),i<ds.length→∀(j:Nat) (u:Value),(aT (ds.getD i []))[j]? =Option.some u→(dc ds)[i*k+j]? =Option.some u:=by
 induction ds with
 |nil=>intro i hi;simp at hi
 |cons d r ih=>
  intro i hi j u hu
  have h2:=h d (List.mem_cons_self ..)
  cases i with
  |zero=>
   simp only[List.getD_cons_zero]at hu
   have hj:j<(aT d).length:=(List.getElem?_eq_some_iff.1 hu).1
   simp only[dc,List.flatMap_cons,Nat.zero_mul,Nat.zero_add]
   rw[List.getElem?_append_left hj]
   exact hu
  |succ i=>
   simp only[List.getD_cons_succ]at hu
   have:=ih (fun x hx=>h x (List.mem_cons_of_mem _ hx)) i (by simpa using hi) j u hu
   simp only[dc,List.flatMap_cons]
   rw[List.getElem?_append_right (by rw[aA,h2,Nat.add_mul];omega),aA,h2]
   have e:(i+1)*k+j-k=i*k+j:=by rw[Nat.add_mul];omega
   rw[e]
   exact this
theorem Rd.Eu{w:World}{A:Option Addr}{n k:Nat}{ds:List (List UInt8)}(h:Rd w k A n (dc ds))(hd:∀d∈ds,d.length=k){i:Nat}(hi:i<ds.length):∀(j:Nat) (u:Value),(aT (ds.getD i []))[j]? =Option.some u→w.cell? (((A.getD d0).add (i*k)).add j)=Option.some u:=by
 intro j u hu
 rw[add_add]
 exact h.2.2 _ u (DT hd i hi j u hu)
theorem BD{ds:List (List UInt8)}{k:Nat}(h:∀d∈ds,d.length=k){i:Nat}(hi:i<ds.length):(ds.getD i []).length=k:=by
 rw[List.getD,List.getElem?_eq_getElem hi]
 exact h _ (List.getElem_mem hi)
theorem pz{ds:List (List UInt8)}:∀u∈dc ds,u.oneCell' =true:=by
 intro u hu
 simp only[dc,List.mem_flatMap,aT,List.mem_map]at hu
 obtain⟨_,_,_,_,rfl⟩:=hu
 rfl
theorem iL{l:List UInt8}:∀u∈aT l,u.oneCell' =true:=by
 intro u hu
 simp only[aT,List.mem_map]at hu
 obtain⟨_,_,rfl⟩:=hu
 rfl
end Go.Eng
end
section
namespace Go.Eng
open Go.RowKit
section
variable{P:Program}{ops:Array Oper}{Q:Exit→Act→World→Prop}
def B7(P:Program)(ops:Array Oper)(Q:Exit→Act→World→Prop)(S:Array Bool→World→Prop):Nat→Array Bool→Act→World→Prop
 |0,l,a,w=>Region.ready .any ops l=[]∧Q .normal a w
 |n+1,l,a,w=>(Region.ready .any ops l=[]→Q .normal a w)∧
  ∀i∈Region.ready .any ops l,wpOp P ops Q i (fun a' w' =>S (l.setIfInBounds i true) w' ∧B7 P ops Q S n (l.setIfInBounds i true) a' w') a w
theorem eL{S:Array Bool→World→Prop}:∀(n:Nat) (l:Array Bool) (a:Act) (w:World),B7 P ops Q S n l a w→wpAny P .any ops Q n l a w
 |0,_,_,_,h=>h
 |n+1,l,_,_,h=>⟨h.1,fun i hi=>wpOp_mono (fun a' w' h' =>eL n _ a' w' h'.2) (h.2 i hi)⟩
def Kept(ops:Array Oper)(l:Array Bool):Prop:=∀j,l.getD j false=true→∀o,ops[j]? =some o→∀e∈o.after,Region.binds .any e=true→l.getD e.on false=true
theorem Kept.set{l:Array Bool}(h:Kept ops l){j:Nat}(hj:j∈Region.ready .any ops l):Kept ops (l.setIfInBounds j true):=by
 intro k hk o ho e he hb
 by_cases hjk:j=k
 ·subst hjk
  obtain⟨_,o',ho',hall⟩:=mem_ready.1 hj
  rw[ho]at ho'
  cases ho'
  exact getD_set_true (hall e he hb)
 ·rw[getD_set_ne false hjk]at hk
  exact getD_set_true (h k hk o ho e he hb)
theorem ib{l:Array Bool}{i:Nat}(h:l.getD i true=false):l.getD i false=false:=by
 rcases Nat.lt_or_ge i l.size with h' |h'
 ·simp[h']at h ⊢;exact h
 ·simp[Array.getElem?_eq_none h']at h
theorem mQ{S:Array Bool→World→Prop}{i:Nat}{oi:Oper}{v:Value}(hi:ops[i]? =some oi)(hsel:∀(j:Nat) (o:Oper) cs b,ops[j]? =some o→o.op≠ .select cs b)
  (hQ:∀c a w,Q (.panic c) (a.put oi.dst v) w→Q (.panic c) a w) (R:Array Bool→Prop) (hR:∀l j,R l→j∈Region.ready .any ops l→R (l.setIfInBounds j true)) (hS:∀l w,S (l.setIfInBounds i true) w↔S l w):
  ∀(n:Nat) (l:Array Bool) (a:Act) (w:World),
   (∀j oj,ops[j]? =some oj→j≠i→l.getD j true=false→(∀e∈oj.after,Region.binds .any e=true→e.on≠i)→oi.apart ops oj=true)→
   i∈Region.ready .any ops l→YieldsIf P ops (fun w=>∃l',R l' ∧l'.getD i true=false∧S l' w) oi v a→R l→S l w→
   B7 P ops Q S n (l.setIfInBounds i true) (a.put oi.dst v) w→B7 P ops Q S (n+1) l a w:=by
 intro n
 induction n with
 |zero=>
  intro l a w _ hr hy hRl hSl H
  refine⟨fun h=>(by rw[h]at hr;cases hr),fun j hj=> ?_⟩
  by_cases hji:j=i
  ·subst hji
   exact hy.wpOp hi ⟨l,hRl,(mem_ready.1 hr).1,hSl⟩ ⟨(hS l w).2 hSl,H⟩
  ·have:=ready_mono hj hji
   rw[H.1]at this
   cases this
 |succ n ih=>
  intro l a w hfree hr hy hRl hSl H
  refine⟨fun h=>(by rw[h]at hr;cases hr),fun j hj=> ?_⟩
  by_cases hji:j=i
  ·subst hji
   exact hy.wpOp hi ⟨l,hRl,(mem_ready.1 hr).1,hSl⟩ ⟨(hS l w).2 hSl,H⟩
  ·have h1:=H.2 j (ready_mono hj hji)
   obtain⟨hjun,oj,hoj,hall⟩:=mem_ready.1 hj
   have hiun:=ib (mem_ready.1 hr).1
   have hnot:∀e∈oj.after,Region.binds .any e=true→e.on≠i:=fun e he hb heq=>by
    have h1:=hall e he hb
    rw[heq,hiun]at h1
    cases h1
   have h2:=wpOp_putIf hoj (hfree j oj hoj hji hjun hnot) (fun cs b=>hsel i oi cs b hi) (fun cs b=>hsel j oj cs b hoj) hQ hy h1
   have hfree' :∀k ok,ops[k]? =some ok→k≠i→(l.setIfInBounds j true).getD k true=false→
     (∀e∈ok.after,Region.binds .any e=true→e.on≠i)→oi.apart ops ok=true:=fun k ok hk hki hun hno=>by
    refine hfree k ok hk hki ?_ hno
    by_cases hjk:j=k
    ·subst hjk;exact hjun
    ·rw[getD_set_ne true hjk]at hun;exact hun
   refine wpOp_mono (fun a' w' h3=> ?_) h2
   have h4:=h3.2.1
   have h5:=h3.2.2
   rw[Array.setIfInBounds_comm _ _ (Ne.symm hji)]at h4 h5
   have h6:=(hS _ _).1 h4
   exact⟨h6,ih (l.setIfInBounds j true) a' w' hfree' (ready_mono hr (Ne.symm hji)) h3.1 (hR l j hRl hj) h6 h5⟩
def jg(X:List Nat)(l:Array Bool):Nat:=X.countP fun x=>l.getD x false
theorem nr{X:List Nat}{i:Nat}(h:X.contains i=false)(l:Array Bool):jg X (l.setIfInBounds i true)=jg X l:=by
 unfold jg
 apply List.countP_congr
 intro x hx
 have:i≠x:=by
  rintro rfl
  have:X.contains i=true:=by simpa using hx
  rw[h]at this
  cases this
 rw[getD_set_ne false this]
theorem rV{X:List Nat}{i:Nat}{l:Array Bool}(h:l.getD i true=false):jg X (l.setIfInBounds i true)=jg X l+X.count i:=by
 have hi:=ib h
 have hlt:i<l.size:=by
  rcases Nat.lt_or_ge i l.size with h' |h'
  ·exact h'
  ·simp[Array.getElem?_eq_none h']at h
 have hs:(l.setIfInBounds i true).getD i false=true:=by simp[hlt]
 induction X with
 |nil=>rfl
 |cons x r ih=>
  unfold jg at ih ⊢
  rw[List.countP_cons,List.countP_cons,List.count_cons,ih]
  by_cases hx:i=x
  ·subst hx
   simp only[hs,hi,beq_self_eq_true,if_true]
   simp
   omega
  ·rw[getD_set_ne false hx]
   have:(x == i)=false:=by simp[Ne.symm hx]
   simp only[this]
   simp
   omega
theorem pG{X:List Nat}{l l' :Array Bool}(h:∀q,l.getD q false=true→l'.getD q false=true):jg X l≤jg X l' :=
 List.countP_mono_left fun x _ hx=>h x hx
def qB(ops:Array Oper)(i:Nat):Nat→Nat→Bool
 |0,_=>false
 |n+1,j=>match ops[j]? with
  |some o=>o.after.any fun e=>Region.binds .any e && (e.on == i || qB ops i n e.on)
  |none=>false
theorem o6{l:Array Bool}(h:Kept ops l){i:Nat}(hi:l.getD i true=false):∀(n j:Nat),qB ops i n j=true→l.getD j false=false
 |0,j,hn=>by cases hn
 |n+1,j,hn=>by
  unfold qB at hn
  cases ho:ops[j]? with
  |none=>rw[ho]at hn;cases hn
  |some o=>
   rw[ho]at hn
   obtain⟨e,he,hb⟩:=Array.any_eq_true'.1 hn
   simp only[Bool.and_eq_true,Bool.or_eq_true,beq_iff_eq]at hb
   cases hj:l.getD j false with
   |false=>rfl
   |true=>
    have:=h j hj o ho e he hb.1
    rcases hb.2 with h1|h1
    ·rw[h1,ib hi]at this;cases this
    ·rw[o6 h hi n _ h1]at this;cases this
theorem r9{X:List Nat}{l:Array Bool}(h:Kept ops l){i m n:Nat}(hi:l.getD i true=false)(hx:(X.drop m).all (qB ops i n)=true):jg X l≤m:=by
 have e:jg X l=jg (X.take m) l+jg (X.drop m) l:=by
  unfold jg
  rw[←List.countP_append,List.take_append_drop]
 have e2:jg (X.drop m) l=0:=by
  unfold jg
  rw[List.countP_eq_zero]
  intro x hx'
  have:=List.all_eq_true.1 hx x hx'
  rw[o6 h hi n x this]
  simp
 have e3:jg (X.take m) l≤m:=by
  unfold jg
  exact Nat.le_trans List.countP_le_length (by rw[List.length_take];omega)
 omega
def ep(ops:Array Oper)(X:List Nat):List (Nat×Option Nat)→Array Bool→Bool
 | [],l=>(Region.ready .any ops l).isEmpty
 |(i,none)::r,l=>(Region.ready .any ops l == [i]) && X.count i == 1 && ep ops X r (l.setIfInBounds i true)
 |(i,some m)::r,l=>Region.free .any ops l i && (Region.ready .any ops l).contains i && !X.contains i && (X.drop m).all (qB ops i 4) && ep ops X r (l.setIfInBounds i true)
def ia(ops:Array Oper):List (Nat×Option Nat)→Option (List (Option Nat×Oper))
 | []=>some []
 |(i,x)::r=>match ops[i]?,ia ops r with
  |some o,some l=>some ((x,o)::l)
  |_,_=>none
def fj(P:Program)(ops:Array Oper)(Q:Exit→Act→World→Prop)(T:Nat→World→Prop):Nat→List (Option Nat×Oper)→Act→World→Prop
 |_,[],a,w=>Q .normal a w
 |k,(none,o)::r,a,w=>if Region.wanted o (yielded ops a.tmps)=true then o.wp P a w (fun a' w' =>T (k+1) w' ∧fj P ops Q T (k+1) r a' w') Q else T (k+1) w∧fj P ops Q T (k+1) r (a.put o.dst undef) w
 |k,(some m,o)::r,a,w=>∃v,YieldsIf P ops (fun w' =>∃k',k≤k' ∧k' ≤m∧T k' w') o v a∧fj P ops Q T k r (a.put o.dst v) w
theorem fR{T:Nat→World→Prop}{X:List Nat}(hs:Region.noSelect ops=true)(hQ:∀c a d v w,Q (.panic c) (a.put d v) w→Q (.panic c) a w):∀(L:List (Nat×Option Nat)) (sq:List (Option Nat×Oper)) (l:Array Bool) (a:Act) (w:World) (n k:Nat),
  ia ops L=some sq→ep ops X L l=true→L.length≤n→Kept ops l→jg X l=k→T k w→fj P ops Q T k sq a w→B7 P ops Q (fun l w=>T (jg X l) w) n l a w
 | [],sq,l,a,w,n,k,hp,hk,_,_,_,_,h=>by
  simp only[ia,Option.some.injEq]at hp
  subst hp
  have hr:Region.ready .any ops l=[]:=by simpa[ep]using hk
  cases n with
  |zero=>exact⟨hr,h⟩
  |succ n=>exact⟨fun _=>h,by rw[hr];simp⟩
 |(i,x)::r,sq,l,a,w,0,k,hp,hk,hf,_,_,_,h=>by simp at hf
 |(i,x)::r,sq,l,a,w,n+1,k,hp,hk,hf,hK,hc,hT,h=>by
  unfold ia at hp
  split at hp
  ·rename_i o l' ho hl'
   cases hp
   have hf' :r.length≤n:=by simp at hf;omega
   cases x with
   |none=>
    simp only[ep,Bool.and_eq_true,beq_iff_eq]at hk
    obtain⟨⟨hrd,hct⟩,hk⟩:=hk
    have hmem:i∈Region.ready .any ops l:=by rw[hrd];simp
    have hcs:jg X (l.setIfInBounds i true)=k+1:=by rw[rV (mem_ready.1 hmem).1,hct,hc]
    have hK' :=hK.set hmem
    refine⟨fun h0=>(by rw[h0]at hmem;cases hmem),fun j hj=> ?_⟩
    have hji:j=i:=by rw[hrd]at hj;simpa using hj
    subst hji
    unfold wpOp
    simp only[ho]
    simp only[fj]at h
    split at h
    ·rename_i hw
     rw[if_pos hw]
     refine .inl (Oper.wp_mono ?_ h)
     rintro a' w' ⟨hS',h'⟩
     exact⟨by rw[hcs];exact hS',fR hs hQ r l' _ a' w' n (k+1) hl' hk hf' hK' hcs hS' h'⟩
    ·rename_i hw
     rw[if_neg hw]
     exact⟨by rw[hcs];exact h.1,fR hs hQ r l' _ _ w n (k+1) hl' hk hf' hK' hcs h.1 h.2⟩
   |some m=>
    simp only[ep,Bool.and_eq_true,Bool.not_eq_true']at hk
    obtain⟨⟨⟨⟨hfree,hcon⟩,hX⟩,hcap⟩,hk⟩:=hk
    obtain⟨v,hy,h'⟩:=h
    have hmem:i∈Region.ready .any ops l:=by simpa using hcon
    have hcs:jg X (l.setIfInBounds i true)=k:=by rw[nr hX,hc]
    refine mQ ho (Region.noSelect_spec hs) (fun c a w=>hQ c a _ _ w) (fun l' =>Kept ops l' ∧∀q,l.getD q false=true→l'.getD q false=true) (fun l' j hR hj=>⟨hR.1.set hj,fun q hq=>getD_set_true (hR.2 q hq)⟩)
     (fun l' w' =>by rw[nr hX]) n l a w (Region.free_spec ho hfree) hmem ?_ ⟨hK,fun q hq=>hq⟩ (by rw[hc];exact hT) (fR hs hQ r l' _ _ w n k hl' hk hf' (hK.set hmem) hcs hT h')
    rcases hy with⟨hw,hv⟩|hy
    ·refine .inl ⟨hw,fun w' hw' =>hv w' ?_⟩
     obtain⟨l2,⟨hK2,j7⟩,hun,hT2⟩:=hw'
     exact⟨jg X l2,by rw[←hc];exact pG j7,r9 hK2 hun hcap,hT2⟩
    ·exact .inr hy
  ·cases hp
theorem pn{T:Nat→World→Prop}{X:List Nat}{id:Nat}{a:Act}{w:World}{sq:List (Option Nat×Oper)}(L:List (Nat×Option Nat))(hm:P.follows .mixedOrders=true)(hs:Region.noSelect ops=true)(hk:ep ops X L (Array.replicate ops.size false)=true)(hn:L.length≤ops.size)
  (hp:ia ops L=some sq) (hT:T 0 w.drew) (h:fj P ops (eP Q) T 0 sq a w.drew):(Code.region id ops true).wp P Q a w:=by
 refine Code.wp_mono (Q:=eP Q) (fun e a w q=>by cases e <;> first|exact q|exact q.elim) ?_
 refine wp_region_any hm (eL _ _ _ _ (fR (X:=X) hs (fun c a d v w q=>q.elim) L sq _ a _ _ 0 hp hk hn ?_ ?_ hT h))
 ·intro j hj
  simp[Array.getElem?_replicate]at hj
  split at hj <;> cases hj
 ·unfold jg
  rw[List.countP_eq_zero]
  intro x _
  simp[Array.getElem?_replicate]
  split <;> rfl
end
def WT(P:Program)(ops:Array Oper)(Q:Exit→Act→World→Prop)(T:Nat→World→Prop)(N:Nat)(D:List Deferred)(k:Nat)(l:List (Option Nat×Oper))(ρ:Env)(w:World):Prop:=
 ∀a,Ag N D ρ a→fj P ops Q T k l a w
section
variable{P:Program}{ops:Array Oper}{Q:Exit→Act→World→Prop}{T:Nat→World→Prop}{N:Nat}{D:List Deferred}{ρ ρ' :Env}{w:World}{rest:List (Option Nat×Oper)}
 {op:Op} {ty:TypeId} {pos:String} {af:Array Edge} {d k m:Nat} {v:Value}
theorem Dl{id:Nat}{l:List (Option Nat×Oper)}(X:List Nat)(L:List (Nat×Option Nat))(hm:P.follows .mixedOrders=true)(hk:(Region.noSelect ops && ep ops X L (Array.replicate ops.size false) && decide (L.length≤ops.size))=true)
  (hp:ia ops L=some l) (T:Nat→World→Prop) (hT:T 0 w.drew) (h:∀w',Fr No w w' →T 0 w' →WT P ops (eP Q) T N D 0 l ρ w'):WC P Q N D (.region id ops true) ρ w:=by
 intro a ha
 simp only[Bool.and_eq_true,decide_eq_true_eq]at hk
 exact pn (X:=X) L hm hk.1.1 hk.1.2 hk.2 hp hT (h _ (Fr.drew w) hT a ha)
theorem tq(h:∀k' w',k≤k' →k' ≤m→T k' w' →Yl P N D ρ w' op ty v)(kk:WT P ops Q T N D k rest ((d,v)::ρ) w)(hd:d<N:=by decide):WT P ops Q T N D k ((some m,⟨some d,op,ty,pos,af,none⟩)::rest) ρ w:=by
 intro a ha
 refine⟨v,.inl ⟨by simp[Region.wanted],fun w' hS=> ?_⟩,kk _ (ha.put hd)⟩
 obtain⟨k',h1,h2,h3⟩:=hS
 exact h k' w' h1 h2 h3 a _ pos af none ha
theorem Ib{g gd:Nat}{want:Bool}{o:Oper}(ho:ops[g]? =some o)(hod:o.dst=some gd)(hb:get ρ gd=some (.bool want))(h:∀k' w',k≤k' →k' ≤m→T k' w' →Yl P N D ρ w' op ty v)(kk:WT P ops Q T N D k rest ((d,v)::ρ) w)(hd:d<N:=by decide):
  WT P ops Q T N D k ((some m,⟨some d,op,ty,pos,af,some (g,want)⟩)::rest) ρ w:=by
 intro a ha
 refine⟨v,.inl ⟨by simp[Region.wanted,yielded,ho,hod,ha.gt _ _ hb],fun w' hS=> ?_⟩,kk _ (ha.put hd)⟩
 obtain⟨k',h1,h2,h3⟩:=hS
 exact h k' w' h1 h2 h3 a _ pos af _ ha
theorem tx(h:XW P Q N D ρ w op ty (fun v w' =>T (k+1) w' ∧WT P ops Q T N D (k+1) rest ((d,v)::ρ) w'))(hd:d<N:=by decide):WT P ops Q T N D k ((none,⟨some d,op,ty,pos,af,none⟩)::rest) ρ w:=by
 intro a ha
 unfold fj
 rw[if_pos (by simp[Region.wanted])]
 refine Oper.wp_mono ?_ (h a (some d) pos af none ha)
 rintro a' w' ⟨v,rfl,hS,hk⟩
 exact⟨hS,hk _ (ha.put hd)⟩
theorem Is(h:XW P Q N D ρ w op ty (fun _ w' =>T (k+1) w' ∧WT P ops Q T N D (k+1) rest ρ w')):WT P ops Q T N D k ((none,⟨none,op,ty,pos,af,none⟩)::rest) ρ w:=by
 intro a ha
 unfold fj
 rw[if_pos (by simp[Region.wanted])]
 refine Oper.wp_mono ?_ (h a none pos af none ha)
 rintro a' w' ⟨v,rfl,hS,hk⟩
 exact⟨hS,hk _ ha⟩
theorem Ip{g gd:Nat}{want:Bool}{o:Oper}(ho:ops[g]? =some o)(hod:o.dst=some gd)(hb:get ρ gd=some (.bool want))(h:XW P Q N D ρ w op ty (fun v w' =>T (k+1) w' ∧WT P ops Q T N D (k+1) rest ((d,v)::ρ) w'))(hd:d<N:=by decide):
  WT P ops Q T N D k ((none,⟨some d,op,ty,pos,af,some (g,want)⟩)::rest) ρ w:=by
 intro a ha
 unfold fj
 rw[if_pos (by simp[Region.wanted,yielded,ho,hod,ha.gt _ _ hb])]
 refine Oper.wp_mono ?_ (h a (some d) pos af _ ha)
 rintro a' w' ⟨v,rfl,hS,hk⟩
 exact⟨hS,hk _ (ha.put hd)⟩
theorem FV(hS:T (k+1) w)(h:Yl P N D ρ w op ty v)(kk:WT P ops Q T N D (k+1) rest ((d,v)::ρ) w)(hd:d<N:=by decide):WT P ops Q T N D k ((none,⟨some d,op,ty,pos,af,none⟩)::rest) ρ w:=by
 intro a ha
 unfold fj
 rw[if_pos (by simp[Region.wanted])]
 unfold Oper.wp
 rw[h a _ pos af none ha]
 exact⟨hS,kk _ (ha.put hd)⟩
theorem Fc{p:Prop}[Decidable p]{l:List (Option Nat×Oper)}(gd:Nat)(hg:get ρ gd=some (.bool (decide p)))(ht:p→WT P ops Q T N D k l ((gd,.bool true)::ρ) w)(hf:¬p→WT P ops Q T N D k l ((gd,.bool false)::ρ) w):WT P ops Q T N D k l ρ w:=by
 intro a ha
 by_cases h:p
 ·exact ht h a (ha.more (by rw[hg];simp[h]))
 ·exact hf h a (ha.more (by rw[hg];simp[h]))
theorem H4(h:WQ Q N D .normal ρ w):WT P ops (eP Q) T N D k [] ρ w:=fun a ha=>h a ha
theorem FE{g gd:Nat}{want b:Bool}{o:Oper}(ho:ops[g]? =some o)(hod:o.dst=some gd)(hb:get ρ gd=some (.bool b))(hne:b≠want)(kk:WT P ops Q T N D k rest ((d,undef)::ρ) w)(hd:d<N:=by decide):
  WT P ops Q T N D k ((some m,⟨some d,op,ty,pos,af,some (g,want)⟩)::rest) ρ w:=by
 intro a ha
 have hw:Region.wanted (⟨some d,op,ty,pos,af,some (g,want)⟩:Oper) (yielded ops a.tmps)=false:=by
  simp[Region.wanted,yielded,ho,hod,ha.gt _ _ hb,hne]
 exact⟨undef,.inr ⟨hw,rfl⟩,kk _ (ha.put hd)⟩
theorem DF{g gd:Nat}{want b:Bool}{o:Oper}(ho:ops[g]? =some o)(hod:o.dst=some gd)(hb:get ρ gd=some (.bool b))(hne:b≠want)(hS:T (k+1) w)(kk:WT P ops Q T N D (k+1) rest ((d,undef)::ρ) w)(hd:d<N:=by decide):
  WT P ops Q T N D k ((none,⟨some d,op,ty,pos,af,some (g,want)⟩)::rest) ρ w:=by
 intro a ha
 have hw:Region.wanted (⟨some d,op,ty,pos,af,some (g,want)⟩:Oper) (yielded ops a.tmps)=false:=by
  simp[Region.wanted,yielded,ho,hod,ha.gt _ _ hb,hne]
 unfold fj
 rw[if_neg (by simp[hw])]
 exact⟨hS,kk _ (ha.put hd)⟩
end
end Go.Eng
end
section
namespace Go.Eng
open Go.RowKit
theorem e8.freeze{w:World}{g:Nat}{t:TypeId}{cs:List Value}(h:e8 w g t cs):e8 (w.freeze ⟨g,cs.length,none⟩ 1) g t cs:=by
 obtain⟨f,h,hf⟩:=h
 have e1:w.freeze ⟨g,cs.length,none⟩ 1={w with heap:=w.heap.modify g fun| .cells c elem (lo,hi)=>.cells c elem (if lo == hi then(cs.length,cs.length+1)else(min lo cs.length,max hi (cs.length+1)))|o=>o}:=rfl
 obtain⟨lo,hi⟩:=f
 by_cases hlh:lo=hi
 ·refine⟨(cs.length,cs.length+1), ?_,fun i hi=>by simp;omega,Nat.le_succ _⟩
  rw[e1]
  simp only[Array.getElem?_modify,if_true,h,Option.map_some]
  simp[hlh]
 ·refine⟨(min lo cs.length,max hi (cs.length+1)), ?_,fun i hi' => ?_,by simp;omega⟩
  ·rw[e1]
   simp only[Array.getElem?_modify,if_true,h,Option.map_some]
   simp[hlh]
  ·have hle:lo≤hi:=hf.2
   have:cs.length≤lo:=by
    rcases Nat.lt_or_ge lo cs.length with h1|h1
    ·have:=hf.1 lo h1
     simp at this
     omega
    ·exact h1
   simp
   omega
section
variable{P:Program}{Q:Exit→Act→World→Prop}{N:Nat}{D:List Deferred}{ρ:Env}{w:World}{x y:Operand}{ty t t' e:TypeId}{v:Value}{K:Value→World→Prop}
theorem FY{g n c:Nat}{bt:TypeId}{cs:List Value}(hx:ev ρ x=some (.slice (some ⟨g,0,none⟩) n c))(ht:P.underlying t=some (.slice e))(he:P.underlying e=some (.int .u8))(hb:e8 w g bt cs)
  (k:∀w',Fr (fun i=>i=g) w w' →e8 w' g bt cs→w'.heap.size=w.heap.size→K (.slice (some ⟨g,0,none⟩) n c) w'):XW P Q N D ρ w (.convert t t x) ty K:=by
 have hsh:w.shape? g=some (bt,cs.length):=by
  obtain⟨f,h,_⟩:=hb
  simp only[World.shape?,h]
  simp
 refine cZ (w' :=w.freeze ⟨g,cs.length,none⟩ 1) (fun a _ _ _ _ ha=> ?_) (k _ (qW w g cs.length) hb.freeze (by
  have e1:w.freeze ⟨g,cs.length,none⟩ 1={w with heap:=w.heap.modify g fun| .cells c elem (lo,hi)=>.cells c elem (if lo == hi then(cs.length,cs.length+1)else(min lo cs.length,max hi (cs.length+1)))|o=>o}:=rfl
  rw[e1];simp))
 simp[execOp,ha.eval hx,convert,run_underlying ht,run_underlying he,markStringish,shape,freeze,Sem.run,hsh]
end
end Go.Eng
end
section
namespace Go.Eng
open Go.RowKit
theorem dr{a b c vs:List Value}{o:Nat}(ha:a.length=o)(hb:vs.length=b.length):bD (a++b++c) o vs=a++vs++c:=by
 subst ha
 unfold bD
 have e1:(a++b++c).take a.length=a:=by rw[List.append_assoc,List.take_left]
 have e2:(a++b++c).drop (a.length+vs.length)=c:=by rw[show a.length+vs.length=(a++b).length by simp[hb],List.drop_left]
 rw[e1,e2]
section
variable{P:Program}{Q:Exit→Act→World→Prop}{N:Nat}{D:List Deferred}{ρ:Env}{w:World}{x y:Operand}{ty t t' e:TypeId}{v:Value}{K:Value→World→Prop}
end
theorem Au{ops:Array Oper}{op:Op}{ty:TypeId}{pos:String}{af:Array Edge}{d:Nat}{N:Nat}{D:List Deferred}{ρ:Env}{a:Act}{g gd:Nat}{want:Bool}{o:Oper}(ha:Ag N D ρ a)(ho:ops[g]? =some o)(hod:o.dst=some gd)(hb:get ρ gd=some undef):
  Region.wanted (⟨some d,op,ty,pos,af,some (g,want)⟩:Oper) (yielded ops a.tmps)=false:=by
 simp[Region.wanted,yielded,ho,hod,ha.gt _ _ hb,undef]
section
variable{P:Program}{ops:Array Oper}{Q:Exit→Act→World→Prop}{N:Nat}{D:List Deferred}{ρ:Env}{w:World}{op:Op}{ty:TypeId}{pos:String}{af:Array Edge}{d k m:Nat}{g gd:Nat}{want:Bool}{o:Oper}
theorem DI{rest:List Oper}(ho:ops[g]? =some o)(hod:o.dst=some gd)(hb:get ρ gd=some undef)(kk:WL P ops Q N D rest ((d,undef)::ρ) w)(hd:d<N:=by decide):
  WL P ops Q N D (⟨some d,op,ty,pos,af,some (g,want)⟩::rest) ρ w:=by
 intro a ha
 unfold wpList
 rw[if_neg (by rw[Au ha ho hod hb];decide)]
 exact kk _ (ha.put hd)
end
end Go.Eng
end
section
namespace Go.Eng
open Go.RowKit
inductive qn
 |done
 |take (i m:Nat) (r:qn)
 |alt (i:Nat) (r q:qn)
 |stop
inductive fM
 |done
 |take (o:Oper) (m:Nat) (r:fM)
 |alt (o:Oper) (r q:fM)
 |stop
def j4(ops:Array Oper):qn→Option fM
 | .done=>some .done
 | .take i m r=>match ops[i]?,j4 ops r with
  |some o,some r' =>some (.take o m r')
  |_,_=>none
 | .alt i r q=>match ops[i]?,j4 ops r,j4 ops q with
  |some o,some r',some q' =>some (.alt o r' q')
  |_,_,_=>none
 | .stop=>some .stop
def alts:qn→List Nat
 | .alt i _ q=>i::alts q
 |_=>[]
def fZ:qn→Nat
 | .done=>0
 | .take _ _ r=>fZ r+1
 | .alt _ r q=>max (fZ r+1) (fZ q)
 | .stop=>0
def sI(ops:Array Oper)(X:List Nat):qn→Bool→Array Bool→Bool
 | .done,top,l=>top && (Region.ready .any ops l).isEmpty
 | .take i m r,top,l=>top && Region.free .any ops l i && (Region.ready .any ops l).contains i && !X.contains i && (X.drop m).all (qB ops i 4) && sI ops X r true (l.setIfInBounds i true)
 | .alt i r q,top,l=>(!top || Region.ready .any ops l == i::alts q) && X.count i == 1 && sI ops X r true (l.setIfInBounds i true) && sI ops X q false l
 | .stop,top,_=> !top
section
variable{P:Program}{ops:Array Oper}{Q:Exit→Act→World→Prop}
def yP(P:Program)(ops:Array Oper)(Q:Exit→Act→World→Prop)(T:Nat→World→Prop):Nat→fM→Act→World→Prop
 |_,.done,a,w=>Q .normal a w
 |k,.take o m r,a,w=>∃v,YieldsIf P ops (fun w' =>∃k',k≤k' ∧k' ≤m∧T k' w') o v a∧yP P ops Q T k r (a.put o.dst v) w
 |k,.alt o r q,a,w=>(if Region.wanted o (yielded ops a.tmps)=true then o.wp P a w (fun a' w' =>T (k+1) w' ∧yP P ops Q T (k+1) r a' w') Q else T (k+1) w∧yP P ops Q T (k+1) r (a.put o.dst undef) w)∧yP P ops Q T k q a w
 |_,.stop,_,_=>True
theorem iR{T:Nat→World→Prop}{X:List Nat}(hs:Region.noSelect ops=true)(hQ:∀c a d v w,Q (.panic c) (a.put d v) w→Q (.panic c) a w):∀(p:qn),
  (∀(po:fM) (l:Array Bool) (a:Act) (w:World) (n k:Nat),j4 ops p=some po→sI ops X p true l=true→fZ p≤n→Kept ops l→jg X l=k→T k w→yP P ops Q T k po a w→B7 P ops Q (fun l w=>T (jg X l) w) n l a w)∧
  (∀(po:fM) (l:Array Bool) (a:Act) (w:World) (n k:Nat),j4 ops p=some po→sI ops X p false l=true→fZ p≤n+1→Kept ops l→jg X l=k→T k w→yP P ops Q T k po a w→(∀i∈alts p,i∈Region.ready .any ops l)→
   ∀i∈alts p,wpOp P ops Q i (fun a' w' =>T (jg X (l.setIfInBounds i true)) w' ∧B7 P ops Q (fun l w=>T (jg X l) w) n (l.setIfInBounds i true) a' w') a w)
 | .done=>by
  refine⟨fun po l a w n k hp hk _ _ _ _ h=> ?_,fun po l a w n k hp hk=>by simp[sI]at hk⟩
  simp only[j4,Option.some.injEq]at hp
  subst hp
  have hr:Region.ready .any ops l=[]:=by simpa[sI]using hk
  cases n with
  |zero=>exact⟨hr,h⟩
  |succ n=>exact⟨fun _=>h,by rw[hr];simp⟩
 | .stop=>by
  refine⟨fun po l a w n k hp hk=>by simp[sI]at hk,fun po l a w n k hp hk _ _ _ _ _ _ i hi=>by simp[alts]at hi⟩
 | .take i m r=>by
  have ih:=(iR (T:=T) (X:=X) hs hQ r).1
  refine⟨fun po l a w n k hp hk hd hK hc hT h=> ?_,fun po l a w n k hp hk=>by simp[sI]at hk⟩
  unfold j4 at hp
  split at hp
  ·rename_i o r' ho hr'
   cases hp
   simp only[sI,Bool.and_eq_true,Bool.not_eq_true',true_and]at hk
   obtain⟨⟨⟨⟨hfree,hcon⟩,hX⟩,hcap⟩,hk⟩:=hk
   obtain⟨v,hy,h'⟩:=h
   have hmem:i∈Region.ready .any ops l:=by simpa using hcon
   have hcs:jg X (l.setIfInBounds i true)=k:=by rw[nr hX,hc]
   cases n with
   |zero=>simp[fZ]at hd
   |succ n=>
    refine mQ ho (Region.noSelect_spec hs) (fun c a w=>hQ c a _ _ w) (fun l' =>Kept ops l' ∧∀q,l.getD q false=true→l'.getD q false=true) (fun l' j hR hj=>⟨hR.1.set hj,fun q hq=>getD_set_true (hR.2 q hq)⟩)
     (fun l' w' =>by rw[nr hX]) n l a w (Region.free_spec ho hfree) hmem ?_ ⟨hK,fun q hq=>hq⟩ (by rw[hc];exact hT) (ih r' _ _ w n k hr' hk (by simpa[fZ]using hd) (hK.set hmem) hcs hT h')
    rcases hy with⟨hw,hv⟩|hy
    ·refine .inl ⟨hw,fun w' hw' =>hv w' ?_⟩
     obtain⟨l2,⟨hK2,j7⟩,hun,hT2⟩:=hw'
     exact⟨jg X l2,by rw[←hc];exact pG j7,r9 hK2 hun hcap,hT2⟩
    ·exact .inr hy
  ·cases hp
 | .alt i r q=>by
  have ih:=(iR (T:=T) (X:=X) hs hQ r).1
  have ihq:=(iR (T:=T) (X:=X) hs hQ q).2
  have chain:∀(po:fM) (l:Array Bool) (a:Act) (w:World) (n k:Nat),j4 ops (.alt i r q)=some po→(X.count i == 1 && sI ops X r true (l.setIfInBounds i true) && sI ops X q false l)=true→fZ (.alt i r q)≤n+1→Kept ops l→jg X l=k→T k w→yP P ops Q T k po a w→(∀j∈i::alts q,j∈Region.ready .any ops l)→
    ∀j∈i::alts q,wpOp P ops Q j (fun a' w' =>T (jg X (l.setIfInBounds j true)) w' ∧B7 P ops Q (fun l w=>T (jg X l) w) n (l.setIfInBounds j true) a' w') a w:=by
   intro po l a w n k hp hk hd hK hc hT h j7 j hj
   unfold j4 at hp
   split at hp
   ·rename_i o r' q' ho hr' hq'
    cases hp
    simp only[Bool.and_eq_true,beq_iff_eq]at hk
    obtain⟨⟨hct,hkr⟩,hkq⟩:=hk
    simp only[fZ]at hd
    rcases List.mem_cons.1 hj with rfl|hj
    ·have hmem:=j7 j (List.mem_cons_self ..)
     have hcs:jg X (l.setIfInBounds j true)=k+1:=by rw[rV (mem_ready.1 hmem).1,hct,hc]
     have hK' :=hK.set hmem
     have h:=h.1
     unfold wpOp
     simp only[ho]
     split at h
     ·rename_i hw
      rw[if_pos hw]
      refine .inl (Oper.wp_mono ?_ h)
      rintro a' w' ⟨hS',h'⟩
      exact⟨by rw[hcs];exact hS',ih r' _ a' w' n (k+1) hr' hkr (by omega) hK' hcs hS' h'⟩
     ·rename_i hw
      rw[if_neg hw]
      exact⟨by rw[hcs];exact h.1,ih r' _ _ w n (k+1) hr' hkr (by omega) hK' hcs h.1 h.2⟩
    ·exact ihq q' l a w n k hq' hkq (by omega) hK hc hT h.2 (fun i hi=>j7 i (List.mem_cons_of_mem _ hi)) j hj
   ·cases hp
  refine⟨fun po l a w n k hp hk hd hK hc hT h=> ?_,fun po l a w n k hp hk hd hK hc hT h j7 j hj=> ?_⟩
  ·simp only[sI,Bool.not_true,Bool.false_or,Bool.and_eq_true,beq_iff_eq]at hk
   obtain⟨⟨⟨hrd,h1⟩,h2⟩,h3⟩:=hk
   cases n with
   |zero=>simp only[fZ]at hd;omega
   |succ n=>
    refine⟨fun h0=>(by rw[h0]at hrd;cases hrd),fun j hj=> ?_⟩
    rw[hrd]at hj
    exact chain po l a w n k hp (by simp[h1,h2,h3]) hd hK hc hT h (fun i hi=>by rw[hrd];exact hi) j hj
  ·simp only[sI,Bool.not_false,Bool.true_or,Bool.true_and]at hk
   exact chain po l a w n k hp hk hd hK hc hT h j7 j hj
theorem pT{T:Nat→World→Prop}{X:List Nat}{id:Nat}{a:Act}{w:World}{po:fM}(p:qn)(hm:P.follows .mixedOrders=true)(hs:Region.noSelect ops=true)(hk:sI ops X p true (Array.replicate ops.size false)=true)(hn:fZ p≤ops.size)
  (hp:j4 ops p=some po) (hT:T 0 w.drew) (h:yP P ops (eP Q) T 0 po a w.drew):(Code.region id ops true).wp P Q a w:=by
 refine Code.wp_mono (Q:=eP Q) (fun e a w q=>by cases e <;> first|exact q|exact q.elim) ?_
 refine wp_region_any hm (eL _ _ _ _ ((iR (X:=X) hs (fun c a d v w q=>q.elim) p).1 po _ a _ _ 0 hp hk hn ?_ ?_ hT h))
 ·intro j hj
  simp[Array.getElem?_replicate]at hj
  split at hj <;> cases hj
 ·unfold jg
  rw[List.countP_eq_zero]
  intro x _
  simp[Array.getElem?_replicate]
  split <;> rfl
end
def WP(P:Program)(ops:Array Oper)(Q:Exit→Act→World→Prop)(T:Nat→World→Prop)(N:Nat)(D:List Deferred)(k:Nat)(p:fM)(ρ:Env)(w:World):Prop:=
 ∀a,Ag N D ρ a→yP P ops Q T k p a w
section
variable{P:Program}{ops:Array Oper}{Q:Exit→Act→World→Prop}{T:Nat→World→Prop}{N:Nat}{D:List Deferred}{ρ ρ' :Env}{w:World}{rest q:fM}
 {op:Op} {ty:TypeId} {pos:String} {af:Array Edge} {d k m:Nat} {v:Value}
theorem Gb{id:Nat}{po:fM}(X:List Nat)(p:qn)(hm:P.follows .mixedOrders=true)(hk:(Region.noSelect ops && sI ops X p true (Array.replicate ops.size false) && decide (fZ p≤ops.size))=true)
  (hp:j4 ops p=some po) (T:Nat→World→Prop) (hT:T 0 w.drew) (h:∀w',Fr No w w' →T 0 w' →WP P ops (eP Q) T N D 0 po ρ w'):WC P Q N D (.region id ops true) ρ w:=by
 intro a ha
 simp only[Bool.and_eq_true,decide_eq_true_eq]at hk
 exact pT (X:=X) p hm hk.1.1 hk.1.2 hk.2 hp hT (h _ (Fr.drew w) hT a ha)
theorem pq(h:∀k' w',k≤k' →k' ≤m→T k' w' →Yl P N D ρ w' op ty v)(kk:WP P ops Q T N D k rest ((d,v)::ρ) w)(hd:d<N:=by decide):WP P ops Q T N D k (.take ⟨some d,op,ty,pos,af,none⟩ m rest) ρ w:=by
 intro a ha
 refine⟨v,.inl ⟨by simp[Region.wanted],fun w' hS=> ?_⟩,kk _ (ha.put hd)⟩
 obtain⟨k',h1,h2,h3⟩:=hS
 exact h k' w' h1 h2 h3 a _ pos af none ha
theorem GL{o:Oper}(h:WP P ops Q T N D k (.alt o rest .stop) ρ w)(hq:WP P ops Q T N D k q ρ w):WP P ops Q T N D k (.alt o rest q) ρ w:=fun a ha=>⟨(h a ha).1,hq a ha⟩
theorem px(h:XW P Q N D ρ w op ty (fun v w' =>T (k+1) w' ∧WP P ops Q T N D (k+1) rest ((d,v)::ρ) w'))(hd:d<N:=by decide):WP P ops Q T N D k (.alt ⟨some d,op,ty,pos,af,none⟩ rest .stop) ρ w:=by
 intro a ha
 unfold yP
 rw[if_pos (by simp[Region.wanted])]
 refine⟨Oper.wp_mono ?_ (h a (some d) pos af none ha),trivial⟩
 rintro a' w' ⟨v,rfl,hS,hk⟩
 exact⟨hS,hk _ (ha.put hd)⟩
theorem Ik(h:XW P Q N D ρ w op ty (fun _ w' =>T (k+1) w' ∧WP P ops Q T N D (k+1) rest ρ w')):WP P ops Q T N D k (.alt ⟨none,op,ty,pos,af,none⟩ rest .stop) ρ w:=by
 intro a ha
 unfold yP
 rw[if_pos (by simp[Region.wanted])]
 refine⟨Oper.wp_mono ?_ (h a none pos af none ha),trivial⟩
 rintro a' w' ⟨v,rfl,hS,hk⟩
 exact⟨hS,hk _ ha⟩
theorem Ht(h:WQ Q N D .normal ρ w):WP P ops (eP Q) T N D k .done ρ w:=fun a ha=>h a ha
end
section
variable{P:Program}{Q:Exit→Act→World→Prop}{N:Nat}{D:List Deferred}{ρ:Env}{w:World}
def xe{ι:Type}(N:Nat)(D:List Deferred)(E:ι→Env)(R:ι→World→Prop):Exit→Act→World→Prop
 | .normal,a,w=>∃g,Ag N D (E g) a∧R g w
 |_,_,_=>False
theorem Hf{ι:Type}{c:Code}(E:ι→Env)(R:ι→World→Prop)(h:WC P (xe N D E R) N D c ρ w)(k:∀g w,R g w→WQ Q N D .normal (E g) w):WC P Q N D c ρ w:=by
 intro a ha
 refine Code.wp_mono (fun e a w q=> ?_) (h a ha)
 cases e with
 |normal=>
  obtain⟨g,hg,hR⟩:=q
  exact k g w hR a hg
 |_=>exact q.elim
theorem HJ{ι:Type}{E:ι→Env}{R:ι→World→Prop}(g:ι)(hs:Sub (E g) ρ)(hR:R g w):WQ (xe N D E R) N D .normal ρ w:=fun a ha=>⟨g,ha.sub hs,hR⟩
end
theorem Ey{P:Program}{Q:Exit→Act→World→Prop}{N:Nat}{D:List Deferred}{ρ:Env}{w:World}{op:Op}{ty:TypeId}{v:Value}{K:Value→World→Prop}(h:Yl P N D ρ w op ty v)(k:K v w):XW P Q N D ρ w op ty K:=by
 intro a dst pos af g ha
 unfold Oper.wp
 rw[h a dst pos af g ha]
 exact⟨v,rfl,k⟩
end Go.Eng
end
section
namespace Go.Eng
open Go.RowKit
structure bg where
 db:Nat→Prop
 holds:World→Prop
 gV:∀{S:Nat→Prop} {w w' :World},Fr S w w' →(∀k,db k→¬S k)→holds w→holds w'
 low:∀{w:World} {k:Nat},holds w→db k→k<w.heap.size
def c6(L:List bg)(k:Nat):Prop:=∃r∈L,r.db k
structure cg where
 w:World
 M:Nat→Prop
 B:Nat→Prop
structure Mem(b:cg)(X S:List bg)(w:World):Prop where
 fr:Fr b.M b.w w
 xx:X.Pairwise fun p q=>∀k,p.db k→¬q.db k
 xs:∀x∈X,∀s∈S,∀k,x.db k→¬s.db k
 hx:∀x∈X,x.holds w
 hs:∀s∈S,s.holds w
 nx:∀x∈X,∀k,x.db k→b.M k∨b.w.heap.size≤k
 ns:∀s∈S,∀k,s.db k→b.B k∨b.M k∨b.w.heap.size≤k
section
variable{b:cg}{X X' X1 Xr S S' S1:List bg}{w w' :World}{r r' :bg}
theorem Mem.lift{w' :World}(m:Mem b X S w)(f:Fr No w w'):Mem b X S w' :=
 ⟨m.fr.eX f,m.xx,m.xs,fun x hx=>x.gV f (fun _ _ e=>e) (m.hx x hx),fun s hs=>s.gV f (fun _ _ e=>e) (m.hs s hs),m.nx,m.ns⟩
theorem Mem.perm(m:Mem b X S w)(h:X.Perm X'):Mem b X' S w:=
 ⟨m.fr,(h.pairwise_iff (fun hxy k hy hx=>hxy k hx hy)).1 m.xx,fun x hx=>m.xs x (h.mem_iff.2 hx),fun x hx=>m.hx x (h.mem_iff.2 hx),m.hs,fun x hx=>m.nx x (h.mem_iff.2 hx),m.ns⟩
theorem Mem.iT(m:Mem b X S w)(h:∀s∈S',s∈S):Mem b X S' w:=
 ⟨m.fr,m.xx,fun x hx s hs=>m.xs x hx s (h s hs),m.hx,fun s hs=>m.hs s (h s hs),m.nx,fun s hs=>m.ns s (h s hs)⟩
theorem Mem.jw(m:Mem b (X++X') S w):Mem b X S w:=
 ⟨m.fr,(List.pairwise_append.1 m.xx).1,fun x hx=>m.xs x (List.mem_append_left _ hx),fun x hx=>m.hx x (List.mem_append_left _ hx),m.hs,fun x hx=>m.nx x (List.mem_append_left _ hx),m.ns⟩
theorem Mem.uP(m:Mem b (X++X') S w):Mem b X' S w:=
 ⟨m.fr,(List.pairwise_append.1 m.xx).2.1,fun x hx=>m.xs x (List.mem_append_right _ hx),fun x hx=>m.hx x (List.mem_append_right _ hx),m.hs,fun x hx=>m.nx x (List.mem_append_right _ hx),m.ns⟩
theorem Mem.frame{X0 S0:List bg}(m:Mem b (X0++Xr) S w)(hS:∀s∈S0,s∈S)(m' :Mem ⟨w,c6 X0,c6 S0⟩ X' S' w'):Mem b (X' ++Xr) (S' ++S) w' :=by
 obtain⟨h0,hr,h0r⟩:=List.pairwise_append.1 m.xx
 have hoff:∀y∈Xr,∀k,y.db k→¬c6 X0 k:=fun y hy k hk ⟨x,hx,hxk⟩=>h0r x hx y hy k hxk hk
 have hoffS:∀s∈S,∀k,s.db k→¬c6 X0 k:=fun s hs k hk ⟨x,hx,hxk⟩=>m.xs x (List.mem_append_left _ hx) s hs k hxk hk
 refine⟨m.fr.trans m'.fr (fun _ e=>e) (fun i hi e=> ?_),List.pairwise_append.2 ⟨m'.xx,hr,fun x hx y hy k hk hy' => ?_⟩,fun x hx s hs k hk hk' => ?_,fun x hx=> ?_,fun s hs=> ?_,fun x hx k hk=> ?_,fun s hs k hk=> ?_⟩
 ·obtain⟨x,hx,hxk⟩:=e
  rcases m.nx x (List.mem_append_left _ hx) i hxk with h|h
  ·exact h
  ·omega
 ·rcases m'.nx x hx k hk with h|h
  ·exact hoff y hy k hy' h
  ·have:=y.low (m.hx y (List.mem_append_right _ hy)) hy'
   simp only at h
   omega
 ·rcases List.mem_append.1 hx with hx|hx <;> rcases List.mem_append.1 hs with hs|hs
  ·exact m'.xs x hx s hs k hk hk'
  ·rcases m'.nx x hx k hk with h|h
   ·exact hoffS s hs k hk' h
   ·have:=s.low (m.hs s hs) hk'
    simp only at h
    omega
  ·rcases m'.ns s hs k hk' with⟨s0,h0,h0k⟩|h|h
   ·exact m.xs x (List.mem_append_right _ hx) s0 (hS s0 h0) k hk h0k
   ·exact hoff x hx k hk h
   ·have:=x.low (m.hx x (List.mem_append_right _ hx)) hk
    simp only at h
    omega
  ·exact m.xs x (List.mem_append_right _ hx) s hs k hk hk'
 ·rcases List.mem_append.1 hx with hx|hx
  ·exact m'.hx x hx
  ·exact x.gV m'.fr (hoff x hx) (m.hx x (List.mem_append_right _ hx))
 ·rcases List.mem_append.1 hs with hs|hs
  ·exact m'.hs s hs
  ·exact s.gV m'.fr (hoffS s hs) (m.hs s hs)
 ·rcases List.mem_append.1 hx with hx|hx
  ·rcases m'.nx x hx k hk with⟨y,hy,hyk⟩|h
   ·exact m.nx y (List.mem_append_left _ hy) k hyk
   ·exact .inr (Nat.le_trans m.fr.size h)
  ·exact m.nx x (List.mem_append_right _ hx) k hk
 ·rcases List.mem_append.1 hs with hs|hs
  ·rcases m'.ns s hs k hk with⟨y,hy,hyk⟩|⟨y,hy,hyk⟩|h
   ·exact m.ns y (hS y hy) k hyk
   ·exact .inr (m.nx y (List.mem_append_left _ hy) k hyk)
   ·exact .inr (.inr (Nat.le_trans m.fr.size h))
  ·exact m.ns s hs k hk
theorem Mem.start(hX:X.Pairwise fun p q=>∀k,p.db k→¬q.db k)(hXS:∀x∈X,∀s∈S,∀k,x.db k→¬s.db k)(hx:∀x∈X,x.holds w)(hs:∀s∈S,s.holds w):Mem ⟨w,c6 X,c6 S⟩ X S w:=
 ⟨.refl _ _,hX,hXS,hx,hs,fun x hx k hk=>.inl ⟨x,hx,hk⟩,fun s hs k hk=>.inl ⟨s,hs,hk⟩⟩
theorem Mem.part{X0 S0:List bg}(m:Mem b (X0++Xr) S w)(hS:∀s∈S0,s∈S):Mem ⟨w,c6 X0,c6 S0⟩ X0 S0 w:=
 .start (List.pairwise_append.1 m.xx).1 (fun x hx s hs=>m.xs x (List.mem_append_left _ hx) s (hS s hs)) (fun x hx=>m.hx x (List.mem_append_left _ hx)) (fun s hs=>m.hs s (hS s hs))
theorem Mem.change(m:Mem b (r::X) S w)(f:Fr r.db w w')(h' :r'.holds w')(hk:∀k,r'.db k→r.db k∨w.heap.size≤k):Mem b (r' ::X) S w' :=by
 have m' :Mem ⟨w,c6 [r],c6 []⟩ [r'] [] w' :=⟨f.mono (fun i _ e=>⟨r,by simp,e⟩),by simp,by simp,by simpa using h',by simp,fun x hx k hk' =>by
  obtain rfl:x=r' :=by simpa using hx
  rcases hk k hk' with h|h
  ·exact .inl ⟨r,by simp,h⟩
  ·exact .inr h,by simp⟩
 exact Mem.frame (X0:=[r]) (S0:=[]) (S' :=[]) m (by simp) m'
theorem Mem.cL(m:Mem b X S w)(f:Fr No w w')(h' :r'.holds w')(hk:∀k,r'.db k→w.heap.size≤k):Mem b (r' ::X) S w' :=by
 have m' :Mem ⟨w,c6 [],c6 []⟩ [r'] [] w' :=⟨f.mono (fun i _ e=>e.elim),by simp,by simp,by simpa using h',by simp,fun x hx k hk' =>by
  obtain rfl:x=r' :=by simpa using hx
  exact .inr (hk k hk'),by simp⟩
 exact Mem.frame (X0:=[]) (S0:=[]) (S' :=[]) m (by simp) m'
theorem Mem.o7(m:Mem b X S w)(f:Fr No w w')(h' :r'.holds w')(hk:∀k,r'.db k→w.heap.size≤k∨c6 S k):Mem b X (r' ::S) w' :=by
 have m' :Mem ⟨w,c6 [],c6 S⟩ [] [r'] w' :=⟨f.mono (fun i _ e=>e.elim),by simp,by simp,by simp,by simpa using h',by simp,fun x hx k hk' =>by
  obtain rfl:x=r' :=by simpa using hx
  exact(hk k hk').elim (fun h=>.inr (.inr h)) .inl⟩
 exact Mem.frame (X0:=[]) (X' :=[]) m (fun _ h=>h) m'
theorem Mem.freeze(m:Mem b (r::X) S w):Mem b X (r::S) w:=by
 obtain⟨h1,h2⟩:=List.pairwise_cons.1 m.xx
 refine⟨m.fr,h2,fun x hx s hs k hk hk' => ?_,fun x hx=>m.hx x (List.mem_cons_of_mem _ hx),fun s hs=> ?_,fun x hx=>m.nx x (List.mem_cons_of_mem _ hx),fun s hs k hk=> ?_⟩
 ·rcases List.mem_cons.1 hs with rfl|hs
  ·exact h1 x hx k hk' hk
  ·exact m.xs x (List.mem_cons_of_mem _ hx) s hs k hk hk'
 ·rcases List.mem_cons.1 hs with rfl|hs
  ·exact m.hx _ (List.mem_cons_self ..)
  ·exact m.hs s hs
 ·rcases List.mem_cons.1 hs with rfl|hs
  ·exact .inr (m.nx _ (List.mem_cons_self ..) k hk)
  ·exact m.ns s hs k hk
theorem Mem.G8(m:Mem b (r::X) S w)(h:r.holds w→r'.holds w)(hk:∀k,r'.db k→r.db k):Mem b (r' ::X) S w:=
 m.change (.refl _ _) (h (m.hx _ (List.mem_cons_self ..))) (fun k hk' =>.inl (hk k hk'))
theorem Mem.Ii(m:Mem b X S w)(i:Nat)(hi:S[i]? =some r)(h:r.holds w→r'.holds w)(hk:∀k,r'.db k→r.db k):Mem b X (r' ::S) w:=
 m.o7 (.refl _ _) (h (m.hs _ (List.mem_of_getElem? hi))) (fun k hk' =>.inr ⟨r,List.mem_of_getElem? hi,hk k hk'⟩)
end
def bN:List Nat→List bg→Option (List bg×List bg)
 | [],X=>some ([],X)
 |i::is,X=>match X[i]?,bN is (X.eraseIdx i)with
  |some r,some (p,q)=>some (r::p,q)
  |_,_=>none
theorem gv{α:Type}:∀(l:List α) (i:Nat) (h:i<l.length),(l[i]::l.eraseIdx i).Perm l
 | [],i,h=>by simp at h
 |a::r,0,h=>by simp
 |a::r,i+1,h=>by
  have hi:i<r.length:=by simpa using h
  have:=gv r i hi
  simp only[List.getElem_cons_succ,List.eraseIdx_cons_succ]
  exact(List.Perm.swap a r[i] (r.eraseIdx i)).trans (this.cons a)
theorem ao:∀(is:List Nat) (X p q:List bg),bN is X=some (p,q)→X.Perm (p++q)
 | [],X,p,q,h=>by
  simp only[bN,Option.some.injEq,Prod.mk.injEq]at h
  obtain⟨rfl,rfl⟩:=h
  exact .refl _
 |i::is,X,p,q,h=>by
  unfold bN at h
  split at h
  ·rename_i r p' q' hr hp
   simp only[Option.some.injEq,Prod.mk.injEq]at h
   obtain⟨rfl,rfl⟩:=h
   have hlt:=(List.getElem?_eq_some_iff.1 hr).1
   have e:X[i]=r:=(List.getElem?_eq_some_iff.1 hr).2
   have h1:=ao is _ _ _ hp
   rw[List.cons_append]
   refine .trans ?_ (h1.cons r)
   rw[←e]
   exact(gv X i hlt).symm
  ·cases h
def dh:List Nat→List bg→Option (List bg)
 | [],_=>some []
 |i::is,S=>match S[i]?,dh is S with
  |some r,some p=>some (r::p)
  |_,_=>none
theorem cb:∀(is:List Nat) (S p:List bg),dh is S=some p→∀s∈p,s∈S
 | [],S,p,h=>by
  simp only[dh,Option.some.injEq]at h
  subst h
  simp
 |i::is,S,p,h=>by
  unfold dh at h
  split at h
  ·rename_i r p' hr hp
   simp only[Option.some.injEq]at h
   subst h
   intro s hs
   rcases List.mem_cons.1 hs with rfl|hs
   ·exact List.mem_of_getElem? hr
   ·exact cb is S _ hp s hs
  ·cases h
def aE(g:Nat)(t:TypeId)(cs:List Value):bg:=⟨fun k=>k=g,fun w=>e8 w g t cs,fun f h b=>b.fr f (h g rfl),fun b hk=>hk▸b.lt⟩
def aI(e:TypeId)(sz:Nat)(v:Value)(n:Nat)(xs:List Value):bg:=⟨j8 v,fun w=>Own w 0 e sz v n xs,fun f h o=>o.fr f h,fun o hk=>(o.from hk).2⟩
theorem Rd.gV{w w' :World}{sz n:Nat}{A:Option Addr}{xs:List Value}{S:Nat→Prop}(h:Rd w sz A n xs)(f:Fr S w w')(ho:∀k,(xs≠ []∧∃a,A=Option.some a∧k=a.block)→¬S k):Rd w' sz A n xs:=by
 refine⟨h.1,h.2.1,fun j u hu=>v8 (h.2.2 j u hu) f ?_⟩
 have hne:xs≠ []:=fun e=>by rw[e]at hu;simp at hu
 have hn:0<n:=by
  rcases Nat.eq_zero_or_pos n with e|e
  ·have:=h.1;rw[e,Nat.zero_mul]at this;exact absurd (List.eq_nil_of_length_eq_zero this) hne
  ·exact e
 rw[jt]
 exact ho _ ⟨hne,_,h.some hn,rfl⟩
def cz(sz:Nat)(A:Option Addr)(n:Nat)(xs:List Value):bg:=⟨fun k=>xs≠ []∧∃a,A=some a∧k=a.block,fun w=>Rd w sz A n xs,fun f h r=>Rd.gV r f h,fun{w k} r hk=>by
 obtain⟨hne,a,rfl,rfl⟩:=hk
 cases xs with
 |nil=>exact absurd rfl hne
 |cons u rest=>
  have:=lu (r.cell (j:=0) rfl)
  rwa [jt]at this⟩
section
variable{b:cg}{X S:List bg}{w:World}{g sz n:Nat}{t e:TypeId}{cs xs:List Value}{v:Value}{A:Option Addr}
theorem Mem.aN(m:Mem b X S w)(i:Nat)(h:X[i]? =some (aE g t cs)):e8 w g t cs:=m.hx _ (List.mem_of_getElem? h)
theorem Mem.own(m:Mem b X S w)(i:Nat)(h:X[i]? =some (aI e sz v n xs)):Own w 0 e sz v n xs:=m.hx _ (List.mem_of_getElem? h)
theorem Mem.rP(m:Mem b X S w)(i:Nat)(h:S[i]? =some (aE g t cs)):e8 w g t cs:=m.hs _ (List.mem_of_getElem? h)
theorem Mem.rd(m:Mem b X S w)(i:Nat)(h:S[i]? =some (cz sz A n xs)):Rd w sz A n xs:=m.hs _ (List.mem_of_getElem? h)
theorem Mem.ord{c:Nat}(m:Mem b X S w)(i:Nat)(h:X[i]? =some (aI e sz (.slice A n c) n xs)):Rd w sz A n xs:=(Own.rd (m.own i h)).2.2
theorem Own.Da{b:Nat}(h:Own w b e sz v n xs):Own w 0 e sz v n xs:=h.wide (Nat.zero_le _)
end
def eD(Xp:List bg):bg where
 db:=c6 Xp
 holds w:=(Xp.Pairwise fun(p q:bg)=>∀k:Nat,p.db k→¬q.db k)∧∀x∈Xp,x.holds w
 gV f h p:=⟨p.1,fun x hx=>x.gV f (fun k hk=>h k ⟨x,hx,hk⟩) (p.2 x hx)⟩
 low p hk:=by
  obtain⟨x,hx,hk⟩:=hk
  exact x.low (p.2 x hx) hk
section
variable{b:cg}{X S Xp:List bg}{w:World}{r r1 r2:bg}
theorem Mem.unpack(m:Mem b (eD Xp::X) S w):Mem b (Xp++X) S w:=by
 obtain⟨h1,h2⟩:=List.pairwise_cons.1 m.xx
 obtain⟨p1,p3⟩:=m.hx _ (List.mem_cons_self ..)
 refine⟨m.fr,List.pairwise_append.2 ⟨p1,h2,fun x hx y hy k hk hk' =>h1 y hy k ⟨x,hx,hk⟩ hk'⟩,fun x hx s hs k hk hk' => ?_,fun x hx=> ?_,m.hs,fun x hx k hk=> ?_,m.ns⟩
 ·rcases List.mem_append.1 hx with hx|hx
  ·exact m.xs _ (List.mem_cons_self ..) s hs k ⟨x,hx,hk⟩ hk'
  ·exact m.xs x (List.mem_cons_of_mem _ hx) s hs k hk hk'
 ·rcases List.mem_append.1 hx with hx|hx
  ·exact p3 x hx
  ·exact m.hx x (List.mem_cons_of_mem _ hx)
 ·rcases List.mem_append.1 hx with hx|hx
  ·exact m.nx _ (List.mem_cons_self ..) k ⟨x,hx,hk⟩
  ·exact m.nx x (List.mem_cons_of_mem _ hx) k hk
theorem Mem.pack(m:Mem b (Xp++X) S w):Mem b (eD Xp::X) S w:=by
 obtain⟨p1,h2,h3⟩:=List.pairwise_append.1 m.xx
 refine⟨m.fr,List.pairwise_cons.2 ⟨fun y hy k hk hk' => ?_,h2⟩,fun x hx s hs k hk hk' => ?_,fun x hx=> ?_,m.hs,fun x hx k hk=> ?_,m.ns⟩
 ·obtain⟨x,hx,hk⟩:=hk
  exact h3 x hx y hy k hk hk'
 ·rcases List.mem_cons.1 hx with rfl|hx
  ·obtain⟨x,hx,hk⟩:=hk
   exact m.xs x (List.mem_append_left _ hx) s hs k hk hk'
  ·exact m.xs x (List.mem_append_right _ hx) s hs k hk hk'
 ·rcases List.mem_cons.1 hx with rfl|hx
  ·exact⟨p1,fun x hx=>m.hx x (List.mem_append_left _ hx)⟩
  ·exact m.hx x (List.mem_append_right _ hx)
 ·rcases List.mem_cons.1 hx with rfl|hx
  ·obtain⟨x,hx,hk⟩:=hk
   exact m.nx x (List.mem_append_left _ hx) k hk
  ·exact m.nx x (List.mem_append_right _ hx) k hk
theorem Mem.merge(m:Mem b (r1::r2::X) S w)(h:r1.holds w→r2.holds w→r.holds w)(hk:∀k,r.db k→r1.db k∨r2.db k):Mem b (r::X) S w:=by
 have m' :=(Mem.pack (Xp:=[r1,r2]) m)
 exact m'.G8 (fun p=>h (p.2 r1 (by simp)) (p.2 r2 (by simp))) (fun k hr=>by
  rcases hk k hr with h|h
  ·exact⟨r1,by simp,h⟩
  ·exact⟨r2,by simp,h⟩)
end
def HL(P:Program)(ops:Array Oper)(Q:Exit→Act→World→Prop)(N:Nat)(D:List Deferred)(l:List Oper)(ρ:Env)(b:cg)(X S:List bg):Prop:=∀w,Mem b X S w→WL P ops Q N D l ρ w
def HC(P:Program)(Q:Exit→Act→World→Prop)(N:Nat)(D:List Deferred)(c:Code)(ρ:Env)(b:cg)(X S:List bg):Prop:=∀w,Mem b X S w→WC P Q N D c ρ w
def HQ(Q:Exit→Act→World→Prop)(N:Nat)(D:List Deferred)(e:Exit)(ρ:Env)(b:cg)(X S:List bg):Prop:=∀w,Mem b X S w→WQ Q N D e ρ w
def XH(P:Program)(Q:Exit→Act→World→Prop)(N:Nat)(D:List Deferred)(ρ:Env)(b:cg)(X S:List bg)(op:Op)(ty:TypeId)(K:Value→List bg→List bg→Prop):Prop:=
 ∀w,Mem b X S w→XW P Q N D ρ w op ty fun v w' =>∃X' S',Mem b X' S' w' ∧K v X' S'
def HT(P:Program)(ops:Array Oper)(Q:Exit→Act→World→Prop)(T:Nat→World→Prop)(N:Nat)(D:List Deferred)(k:Nat)(l:List (Option Nat×Oper))(ρ:Env)(b:cg)(X S:List bg):Prop:=
 ∀w,Mem b X S w→WT P ops Q T N D k l ρ w
def HP(P:Program)(ops:Array Oper)(Q:Exit→Act→World→Prop)(T:Nat→World→Prop)(N:Nat)(D:List Deferred)(k:Nat)(p:fM)(ρ:Env)(b:cg)(X S:List bg):Prop:=
 ∀w,Mem b X S w→WP P ops Q T N D k p ρ w
def TT(b:cg)(X S:List bg)(c k:Nat)(w:World):Prop:=k≤c→Mem b X S w
def Wk(X S X' S' :List bg):Prop:=(∃p,X'.Perm (X++p))∧∀s∈S,s∈S'
theorem Wk.mem{b:cg}{X S X' S' :List bg}{w:World}(h:Wk X S X' S')(m:Mem b X' S' w):Mem b X S w:=by
 obtain⟨⟨p,hp⟩,hS⟩:=h
 exact(m.perm hp).jw.iT hS
theorem wk(is js:List Nat){X S X' S' p:List bg}(h:bN is X' =some (X,p))(h' :dh js S' =some S):Wk X S X' S' :=⟨⟨p,ao _ _ _ _ h⟩,cb _ _ _ h'⟩
def eb:Env→Env→Prop
 | [],_=>True
 |(t,v)::r,ρ=>get ρ t=some v∧eb r ρ
theorem eb.sub:∀{ρ' ρ:Env},eb ρ' ρ→Sub ρ' ρ
 | [],_,_=>aZ
 |(t,v)::r,_,h=>ab h.1 h.2.sub
theorem Cy{r q ρ:Env}(hr:Sub r ρ)(hq:Sub q ρ):Sub (r++q) ρ:=by
 intro t u ht
 induction r with
 |nil=>exact hq t u ht
 |cons p r ih=>
  obtain⟨k,x⟩:=p
  simp only[List.cons_append,get]at ht
  cases hb:Nat.beq k t with
  |true=>
   refine hr t u ?_
   simp only[get,hb,cond_true]at ht ⊢
   exact ht
  |false=>
   rw[hb]at ht
   simp only[cond_false]at ht
   by_cases hg:∃y,get r t=some y
   ·obtain⟨y,hy⟩:=hg
    have e1:get (r++q) t=get r t:=by
     clear ih hr ht
     induction r with
     |nil=>simp[get]at hy
     |cons p r ih=>
      obtain⟨k,x⟩:=p
      simp only[List.cons_append,get]at hy ⊢
      cases hb:Nat.beq k t with
      |true=>rfl
      |false=>
       rw[hb]at hy
       simp only[cond_false]at hy ⊢
       exact ih hy
    refine hr t u ?_
    simp only[get,hb,cond_false]
    rw[←e1];exact ht
   ·have e1:get (r++q) t=get q t:=by
     clear ih hr ht
     induction r with
     |nil=>rfl
     |cons p r ih=>
      obtain⟨k,x⟩:=p
      simp only[List.cons_append,get]at hg ⊢
      cases hb:Nat.beq k t with
      |true=>rw[hb]at hg;exact absurd ⟨x,rfl⟩ hg
      |false=>
       rw[hb]at hg
       simp only[cond_false]at hg ⊢
       exact ih hg
    rw[e1]at ht
    exact hq t u ht
section
variable{P:Program}{ops:Array Oper}{Q:Exit→Act→World→Prop}{N:Nat}{D:List Deferred}{ρ ρ' :Env}{b:cg}{X X' X0 Xr S S' S0:List bg}{rest:List Oper}
 {op:Op} {ty:TypeId} {pos:String} {af:Array Edge} {d:Nat} {v:Value} {c c' :Code} {e:Exit}
theorem hy(h:∀{w},Mem b X S w→Yl P N D ρ w op ty v)(k:HL P ops Q N D rest ((d,v)::ρ) b X S)(hd:d<N:=by decide):HL P ops Q N D (⟨some d,op,ty,pos,af,none⟩::rest) ρ b X S:=
 fun w m=>nq (h m) (k w m) hd
theorem au{x:Operand}(h:ev ρ x=some v)(k:HL P ops Q N D rest ((d,v)::ρ) b X S)(hd:d<N:=by decide):HL P ops Q N D (⟨some d,.move x,ty,pos,af,none⟩::rest) ρ b X S:=hy (fun _=>ai h) k hd
theorem aG{x:Operand}(h:ev ρ x=some v)(k:HL P ops Q N D rest ((d,v)::ρ) b X S)(hd:d<N:=by decide):HL P ops Q N D (⟨some d,.assign x,ty,pos,af,none⟩::rest) ρ b X S:=hy (fun _=>ay h) k hd
theorem bQ{g gd:Nat}{want:Bool}{o:Oper}(ho:ops[g]? =some o)(hod:o.dst=some gd)(hb:get ρ gd=some (.bool want))(h:∀{w},Mem b X S w→Yl P N D ρ w op ty v)
  (k:HL P ops Q N D rest ((d,v)::ρ) b X S) (hd:d<N:=by decide):HL P ops Q N D (⟨some d,op,ty,pos,af,some (g,want)⟩::rest) ρ b X S:=
 fun w m=>ng ho hod hb (h m) (k w m) hd
theorem hx(h:XH P Q N D ρ b X S op ty fun v X' S' =>HL P ops Q N D rest ((d,v)::ρ) b X' S')(hd:d<N:=by decide):HL P ops Q N D (⟨some d,op,ty,pos,af,none⟩::rest) ρ b X S:=fun w m=>nx (fun a dst pos af g ha=>Oper.wp_mono (by
 rintro a' w' ⟨v,rfl,X',S',m',hk⟩
 exact⟨v,rfl,hk w' m'⟩) (h w m a dst pos af g ha)) hd
theorem cF(h:XH P Q N D ρ b X S op ty fun _ X' S' =>HL P ops Q N D rest ρ b X' S'):HL P ops Q N D (⟨none,op,ty,pos,af,none⟩::rest) ρ b X S:=fun w m=>Ia (fun a dst pos af g ha=>Oper.wp_mono (by
 rintro a' w' ⟨v,rfl,X',S',m',hk⟩
 exact⟨v,rfl,hk w' m'⟩) (h w m a dst pos af g ha))
theorem G6{g gd:Nat}{want:Bool}{o:Oper}(ho:ops[g]? =some o)(hod:o.dst=some gd)(hb:get ρ gd=some (.bool want))(h:XH P Q N D ρ b X S op ty fun v X' S' =>HL P ops Q N D rest ((d,v)::ρ) b X' S')(hd:d<N:=by decide):
  HL P ops Q N D (⟨some d,op,ty,pos,af,some (g,want)⟩::rest) ρ b X S:=fun w m=>Ig ho hod hb (fun a dst pos af g ha=>Oper.wp_mono (by
 rintro a' w' ⟨v,rfl,X',S',m',hk⟩
 exact⟨v,rfl,hk w' m'⟩) (h w m a dst pos af g ha)) hd
theorem aJ{g gd:Nat}{want b' :Bool}{o:Oper}(ho:ops[g]? =some o)(hod:o.dst=some gd)(hb:get ρ gd=some (.bool b'))(hne:b' ≠want)(k:HL P ops Q N D rest ((d,undef)::ρ) b X S)(hd:d<N:=by decide):
  HL P ops Q N D (⟨some d,op,ty,pos,af,some (g,want)⟩::rest) ρ b X S:=fun w m=>vO ho hod hb hne (k w m) hd
theorem dZ{g gd:Nat}{want:Bool}{o:Oper}(ho:ops[g]? =some o)(hod:o.dst=some gd)(hb:get ρ gd=some undef)(k:HL P ops Q N D rest ((d,undef)::ρ) b X S)(hd:d<N:=by decide):
  HL P ops Q N D (⟨some d,op,ty,pos,af,some (g,want)⟩::rest) ρ b X S:=fun w m=>DI ho hod hb (k w m) hd
theorem ag(h:HQ Q N D .normal ρ b X S):HL P ops Q N D [] ρ b X S:=fun w m=>bX (h w m)
theorem ae(h:HC P (Exit.then (c'.wp P Q) Q) N D c ρ b X S):HC P Q N D (.seq c c') ρ b X S:=fun w m=>bJ (h w m)
theorem ah{id:Nat}{l:List Oper}(h:HL P l.toArray Q N D l ρ b X S):HC P Q N D (.region id l.toArray false) ρ b X S:=fun w m=>bY (h w m)
theorem aB(h:HQ Q N D .normal ρ b X S):HC P Q N D .skip ρ b X S:=fun w m=>iH (h w m)
theorem bH{id:Nat}(h:HQ Q N D (.exit id) ρ b X S):HC P Q N D (.exit id) ρ b X S:=fun w m=>lP (h w m)
theorem aR(h:HQ Q N D .ret ρ b X S):HC P Q N D .ret ρ b X S:=fun w m=>iW (h w m)
theorem aM{id:Nat}(h:HC P (Exit.inBlock id Q) N D c ρ b X S):HC P Q N D (.block id c) ρ b X S:=fun w m=>dR (h w m)
theorem cu{p:Prop}[Decidable p]{x:Operand}(hc:ev ρ x=some (.bool (decide p)))(ht:p→HC P Q N D c ρ b X S)(he:¬p→HC P Q N D c' ρ b X S):HC P Q N D (.cond x c c') ρ b X S:=fun w m=>x7 hc (fun h=>ht h w m) (fun h=>he h w m)
theorem ES{q:Bool}{x:Operand}(hc:ev ρ x=some (.bool q))(ht:q=true→HC P Q N D c ρ b X S)(he:q=false→HC P Q N D c' ρ b X S):HC P Q N D (.cond x c c') ρ b X S:=fun w m=>H6 hc (fun h=>ht h w m) (fun h=>he h w m)
theorem fx{x:Operand}{q:Bool}(hc:ev ρ x=some (.bool q))(hb:q=true)(ht:HC P Q N D c ρ b X S):HC P Q N D (.cond x c c') ρ b X S:=fun w m=>Gy hc hb (ht w m)
theorem dm{x:Operand}{q:Bool}(hc:ev ρ x=some (.bool q))(hb:q=false)(ht:HC P Q N D c' ρ b X S):HC P Q N D (.cond x c c') ρ b X S:=fun w m=>xK hc hb (ht w m)
theorem aa(h:HC P Q N D c ρ b X S):HQ (Exit.then (c.wp P Q) Q) N D .normal ρ b X S:=h
theorem al{K:Act→World→Prop}{id:Nat}(h:HQ Q N D (.exit id) ρ b X S):HQ (Exit.then K Q) N D (.exit id) ρ b X S:=h
theorem aq{K:Act→World→Prop}(h:HQ Q N D .ret ρ b X S):HQ (Exit.then K Q) N D .ret ρ b X S:=h
theorem aW{id:Nat}(h:HQ Q N D .normal ρ b X S):HQ (Exit.inBlock id Q) N D .normal ρ b X S:=h
theorem aD{id:Nat}(h:HQ Q N D .normal ρ b X S):HQ (Exit.inBlock id Q) N D (.exit id) ρ b X S:=fun w m=>dM (h w m)
theorem k8{id id' :Nat}(hne:id' ≠id)(h:HQ Q N D (.exit id') ρ b X S):HQ (Exit.inBlock id Q) N D (.exit id') ρ b X S:=fun w m=>sj hne (h w m)
theorem aU{id:Nat}(h:HQ Q N D .ret ρ b X S):HQ (Exit.inBlock id Q) N D .ret ρ b X S:=h
theorem j7(hs:eb ρ' ρ)(h:HQ Q N D e ρ' b X S):HQ Q N D e ρ b X S:=fun w m=>cE hs.sub (h w m)
def zG(ρ:Env):List Nat→Option Env
 | []=>some []
 |t::r=>match Eng.get ρ t,zG ρ r with
  |some v,some q=>some ((t,v)::q)
  |_,_=>none
theorem sM{ρ:Env}:∀{ks:List Nat} {ρ' :Env},zG ρ ks=some ρ' →eb ρ' ρ
 | [],ρ',h=>by
  cases Option.some.inj h
  trivial
 |t::r,ρ',h=>by
  rw[zG]at h
  cases hg:Eng.get ρ t with
  |none=>rw[hg]at h;cases h
  |some v=>
   rw[hg]at h
   cases hs:zG ρ r with
   |none=>rw[hs]at h;cases h
   |some q=>
    rw[hs]at h
    cases Option.some.inj h
    exact⟨hg,sM hs⟩
theorem az{ρ' :Env}(ks:List Nat)(hs:zG ρ ks=some ρ')(h:HQ Q N D e ρ' b X S):HQ Q N D e ρ b X S:=j7 (sM hs) h
theorem aH(h:∀w,Mem b X S w→Mem b X' S' w)(k:HL P ops Q N D rest ρ b X' S'):HL P ops Q N D rest ρ b X S:=fun w m=>k w (h w m)
theorem a8(h:∀w,Mem b X S w→Mem b X' S' w)(k:HC P Q N D c ρ b X' S'):HC P Q N D c ρ b X S:=fun w m=>k w (h w m)
theorem bd(h:∀w,Mem b X S w→Mem b X' S' w)(k:HQ Q N D e ρ b X' S'):HQ Q N D e ρ b X S:=fun w m=>k w (h w m)
def Fl:List bg→Option (List bg)
 | []=>some []
 |r::l=>match Fl l with
  |some q=>some (r::q)
  |none=>none
theorem uz:∀{X X' :List bg},Fl X=some X' →X' =X
 | [],X',h=>(Option.some.inj h).symm
 |r::l,X',h=>by
  rw[Fl]at h
  cases hl:Fl l with
  |none=>rw[hl]at h;cases h
  |some q=>
   rw[hl]at h
   cases Option.some.inj h
   rw[uz hl]
theorem aY(hX:Fl X=some X')(hS:Fl S=some S')(k:HQ Q N D e ρ b X' S'):HQ Q N D e ρ b X S:=bd (fun w m=>by rw[uz hX,uz hS];exact m) k
theorem aC{p:Prop}(h:∀{w},Mem b X S w→p)(k:p→HL P ops Q N D rest ρ b X S):HL P ops Q N D rest ρ b X S:=fun w m=>k (h m) w m
theorem aQ{p:Prop}(h:∀{w},Mem b X S w→p)(k:p→HC P Q N D c ρ b X S):HC P Q N D c ρ b X S:=fun w m=>k (h m) w m
theorem uw{p:Prop}(h:∀{w},Mem b X S w→p)(k:p→HQ Q N D e ρ b X S):HQ Q N D e ρ b X S:=fun w m=>k (h m) w m
theorem fH{p:Prop}[Decidable p](gd:Nat)(hg:get ρ gd=some (.bool (decide p)))(ht:p→HL P ops Q N D rest ((gd,.bool true)::ρ) b X S)(hf:¬p→HL P ops Q N D rest ((gd,.bool false)::ρ) b X S):HL P ops Q N D rest ρ b X S:=
 fun w m=>z8 gd hg (fun h=>ht h w m) (fun h=>hf h w m)
theorem BS{q:Bool}(gd:Nat)(hg:get ρ gd=some (.bool q))(ht:q=true→HL P ops Q N D rest ((gd,.bool true)::ρ) b X S)(hf:q=false→HL P ops Q N D rest ((gd,.bool false)::ρ) b X S):HL P ops Q N D rest ρ b X S:=
 fun w m=>z8 (p:=q=true) gd (by rw[hg];cases q <;> rfl) (fun h=>ht h w m) (fun h=>hf (by simpa using h) w m)
theorem od{ι:Type}(μ:ι→Nat)(R:ι→Env)(X1 S1:ι→List bg)(I:ι→Prop)(i0:ι)(ρk:Env)(hk:eb ρk ρ)(is:List Nat)(hX:bN is X=some (X1 i0,Xr))(js:List Nat)(hS:dh js S=some (S1 i0))(hI:I i0)(hs:eb (R i0) ρ)
  (round:∀i,I i→HC P (Exit.then (fun a' w' =>∃j,Ag N D (R j++ρk) a' ∧Mem b (X1 j++Xr) (S1 j++S) w' ∧I j∧μ j<μ i) Q) N D c (R i++ρk) b (X1 i++Xr) (S1 i++S)):HC P Q N D (.loop c) ρ b X S:=by
 intro w m
 have m' :=(m.perm (ao _ _ _ _ hX)).iT (S' :=S1 i0++S) (fun s hs=>by
  rcases List.mem_append.1 hs with h|h
  ·exact cb _ _ _ hS s h
  ·exact h)
 refine y6 μ (fun i=>R i++ρk) (fun i w=>I i∧Mem b (X1 i++Xr) (S1 i++S) w) i0 ⟨hI,m'⟩ ?_ (fun i w hi a ha=>Code.wp_mono (fun e a' w' q=>by
  cases e <;> first|exact q|(obtain⟨j,h1,h2,h3,h4⟩:=q;exact⟨j,h1,⟨h3,h2⟩,h4⟩)) (round i hi.1 w hi.2 a ha))
 exact Cy hs.sub hk.sub
theorem dD{α:Type}(μ:α→Nat)(R:α→Env)(X1 S1:α→List bg)(I:α→Prop)(a0:α)(ρk:Env)(hk:eb ρk ρ)(is:List Nat)(hX:bN is X=some (X1 a0,Xr))(js:List Nat)(hS:dh js S=some (S1 a0))(hI:I a0)(hs:eb (R a0) ρ)
  (round:∀a,I a→HC P (Exit.then (fun a' w' =>∃x,Ag N D (R x++ρk) a' ∧Mem b (X1 x++Xr) (S1 x++S) w' ∧I x∧μ x<μ a) Q) N D c (R a++ρk) b (X1 a++Xr) (S1 a++S)):HC P Q N D (.loop c) ρ b X S:=
 od (ι:=α) (fun i=>μ i) (fun i=>R i) (fun i=>X1 i) (fun i=>S1 i) (fun i=>I i) a0 ρk hk is hX js hS hI hs fun i hi w m a ha=>Code.wp_mono (fun e a' w' q=>by
  cases e <;> first|exact q|(obtain⟨x,h⟩:=q;exact⟨x,h⟩)) (round i hi w m a ha)
theorem cH{α:Type}{M:Nat}{μ:α→Nat}{R:α→Env}{X1 S1:α→List bg}{Xr Sr:List bg}{ρ0:Env}{I:α→Prop}(x:α)(hs:eb (R x++ρ0) ρ)(is:List Nat){Xz:List bg}(hX:bN is X=some (X1 x++Xr,Xz))(js:List Nat)(hS:dh js S=some (S1 x++Sr))(hI:I x)(hlt:μ x<M):
  HQ (Exit.then (fun a' w' =>∃x,Ag N D (R x++ρ0) a' ∧Mem b (X1 x++Xr) (S1 x++Sr) w' ∧I x∧μ x<M) Q) N D .normal ρ b X S:=
 fun w m a ha=>⟨x,ha.sub hs.sub,((m.perm (ao _ _ _ _ hX)).jw).iT (cb _ _ _ hS),hI,hlt⟩
theorem kv{α β:Type}(μ:α→β→Nat)(R:α→β→Env)(X1 S1:α→β→List bg)(I:α→β→Prop)(a0:α)(b_0:β)(ρk:Env)(hk:eb ρk ρ)(is:List Nat)(hX:bN is X=some (X1 a0 b_0,Xr))(js:List Nat)(hS:dh js S=some (S1 a0 b_0))(hI:I a0 b_0)(hs:eb (R a0 b_0) ρ)
  (round:∀a b_,I a b_→HC P (Exit.then (fun a' w' =>∃x y,Ag N D (R x y++ρk) a' ∧Mem b (X1 x y++Xr) (S1 x y++S) w' ∧I x y∧μ x y<μ a b_) Q) N D c (R a b_++ρk) b (X1 a b_++Xr) (S1 a b_++S)):HC P Q N D (.loop c) ρ b X S:=
 od (ι:=α×β) (fun i=>μ i.1 i.2) (fun i=>R i.1 i.2) (fun i=>X1 i.1 i.2) (fun i=>S1 i.1 i.2) (fun i=>I i.1 i.2) (a0,b_0) ρk hk is hX js hS hI hs fun i hi w m a ha=>Code.wp_mono (fun e a' w' q=>by
  cases e <;> first|exact q|(obtain⟨x,y,h⟩:=q;exact⟨(x,y),h⟩)) (round i.1 i.2 hi w m a ha)
theorem hC{α β:Type}{M:Nat}{μ:α→β→Nat}{R:α→β→Env}{X1 S1:α→β→List bg}{Xr Sr:List bg}{ρ0:Env}{I:α→β→Prop}(x:α)(y:β)(hs:eb (R x y++ρ0) ρ)(is:List Nat){Xz:List bg}(hX:bN is X=some (X1 x y++Xr,Xz))(js:List Nat)(hS:dh js S=some (S1 x y++Sr))(hI:I x y)(hlt:μ x y<M):
  HQ (Exit.then (fun a' w' =>∃x y,Ag N D (R x y++ρ0) a' ∧Mem b (X1 x y++Xr) (S1 x y++Sr) w' ∧I x y∧μ x y<M) Q) N D .normal ρ b X S:=
 fun w m a ha=>⟨x,y,ha.sub hs.sub,((m.perm (ao _ _ _ _ hX)).jw).iT (cb _ _ _ hS),hI,hlt⟩
theorem gh{α β γ:Type}(μ:α→β→γ→Nat)(R:α→β→γ→Env)(X1 S1:α→β→γ→List bg)(I:α→β→γ→Prop)(a0:α)(b_0:β)(c_0:γ)(ρk:Env)(hk:eb ρk ρ)(is:List Nat)(hX:bN is X=some (X1 a0 b_0 c_0,Xr))(js:List Nat)(hS:dh js S=some (S1 a0 b_0 c_0))(hI:I a0 b_0 c_0)(hs:eb (R a0 b_0 c_0) ρ)
  (round:∀a b_ c_,I a b_ c_→HC P (Exit.then (fun a' w' =>∃x y z,Ag N D (R x y z++ρk) a' ∧Mem b (X1 x y z++Xr) (S1 x y z++S) w' ∧I x y z∧μ x y z<μ a b_ c_) Q) N D c (R a b_ c_++ρk) b (X1 a b_ c_++Xr) (S1 a b_ c_++S)):HC P Q N D (.loop c) ρ b X S:=
 od (ι:=α×β×γ) (fun i=>μ i.1 i.2.1 i.2.2) (fun i=>R i.1 i.2.1 i.2.2) (fun i=>X1 i.1 i.2.1 i.2.2) (fun i=>S1 i.1 i.2.1 i.2.2) (fun i=>I i.1 i.2.1 i.2.2) (a0,b_0,c_0) ρk hk is hX js hS hI hs fun i hi w m a ha=>Code.wp_mono (fun e a' w' q=>by
  cases e <;> first|exact q|(obtain⟨x,y,z,h⟩:=q;exact⟨(x,y,z),h⟩)) (round i.1 i.2.1 i.2.2 hi w m a ha)
theorem gj{α β γ:Type}{M:Nat}{μ:α→β→γ→Nat}{R:α→β→γ→Env}{X1 S1:α→β→γ→List bg}{Xr Sr:List bg}{ρ0:Env}{I:α→β→γ→Prop}(x:α)(y:β)(z:γ)(hs:eb (R x y z++ρ0) ρ)(is:List Nat){Xz:List bg}(hX:bN is X=some (X1 x y z++Xr,Xz))(js:List Nat)(hS:dh js S=some (S1 x y z++Sr))(hI:I x y z)(hlt:μ x y z<M):
  HQ (Exit.then (fun a' w' =>∃x y z,Ag N D (R x y z++ρ0) a' ∧Mem b (X1 x y z++Xr) (S1 x y z++Sr) w' ∧I x y z∧μ x y z<M) Q) N D .normal ρ b X S:=
 fun w m a ha=>⟨x,y,z,ha.sub hs.sub,((m.perm (ao _ _ _ _ hX)).jw).iT (cb _ _ _ hS),hI,hlt⟩
theorem nD{α β γ δ:Type}(μ:α→β→γ→δ→Nat)(R:α→β→γ→δ→Env)(X1 S1:α→β→γ→δ→List bg)(I:α→β→γ→δ→Prop)(a0:α)(b_0:β)(c_0:γ)(d_0:δ)(ρk:Env)(hk:eb ρk ρ)(is:List Nat)(hX:bN is X=some (X1 a0 b_0 c_0 d_0,Xr))(js:List Nat)(hS:dh js S=some (S1 a0 b_0 c_0 d_0))(hI:I a0 b_0 c_0 d_0)(hs:eb (R a0 b_0 c_0 d_0) ρ)
  (round:∀a b_ c_ d_,I a b_ c_ d_→HC P (Exit.then (fun a' w' =>∃x y z u,Ag N D (R x y z u++ρk) a' ∧Mem b (X1 x y z u++Xr) (S1 x y z u++S) w' ∧I x y z u∧μ x y z u<μ a b_ c_ d_) Q) N D c (R a b_ c_ d_++ρk) b (X1 a b_ c_ d_++Xr) (S1 a b_ c_ d_++S)):HC P Q N D (.loop c) ρ b X S:=
 od (ι:=α×β×γ×δ) (fun i=>μ i.1 i.2.1 i.2.2.1 i.2.2.2) (fun i=>R i.1 i.2.1 i.2.2.1 i.2.2.2) (fun i=>X1 i.1 i.2.1 i.2.2.1 i.2.2.2) (fun i=>S1 i.1 i.2.1 i.2.2.1 i.2.2.2) (fun i=>I i.1 i.2.1 i.2.2.1 i.2.2.2) (a0,b_0,c_0,d_0) ρk hk is hX js hS hI hs fun i hi w m a ha=>Code.wp_mono (fun e a' w' q=>by
  cases e <;> first|exact q|(obtain⟨x,y,z,u,h⟩:=q;exact⟨(x,y,z,u),h⟩)) (round i.1 i.2.1 i.2.2.1 i.2.2.2 hi w m a ha)
theorem kx{α β γ δ:Type}{M:Nat}{μ:α→β→γ→δ→Nat}{R:α→β→γ→δ→Env}{X1 S1:α→β→γ→δ→List bg}{Xr Sr:List bg}{ρ0:Env}{I:α→β→γ→δ→Prop}(x:α)(y:β)(z:γ)(u:δ)(hs:eb (R x y z u++ρ0) ρ)(is:List Nat){Xz:List bg}(hX:bN is X=some (X1 x y z u++Xr,Xz))(js:List Nat)(hS:dh js S=some (S1 x y z u++Sr))(hI:I x y z u)(hlt:μ x y z u<M):
  HQ (Exit.then (fun a' w' =>∃x y z u,Ag N D (R x y z u++ρ0) a' ∧Mem b (X1 x y z u++Xr) (S1 x y z u++Sr) w' ∧I x y z u∧μ x y z u<M) Q) N D .normal ρ b X S:=
 fun w m a ha=>⟨x,y,z,u,ha.sub hs.sub,((m.perm (ao _ _ _ _ hX)).jw).iT (cb _ _ _ hS),hI,hlt⟩
theorem ry{α β γ δ ε:Type}(μ:α→β→γ→δ→ε→Nat)(R:α→β→γ→δ→ε→Env)(X1 S1:α→β→γ→δ→ε→List bg)(I:α→β→γ→δ→ε→Prop)(a0:α)(b_0:β)(c_0:γ)(d_0:δ)(e_0:ε)(ρk:Env)(hk:eb ρk ρ)(is:List Nat)(hX:bN is X=some (X1 a0 b_0 c_0 d_0 e_0,Xr))(js:List Nat)(hS:dh js S=some (S1 a0 b_0 c_0 d_0 e_0))(hI:I a0 b_0 c_0 d_0 e_0)(hs:eb (R a0 b_0 c_0 d_0 e_0) ρ)
  (round:∀a b_ c_ d_ e_,I a b_ c_ d_ e_→HC P (Exit.then (fun a' w' =>∃x y z u v_,Ag N D (R x y z u v_++ρk) a' ∧Mem b (X1 x y z u v_++Xr) (S1 x y z u v_++S) w' ∧I x y z u v_∧μ x y z u v_<μ a b_ c_ d_ e_) Q) N D c (R a b_ c_ d_ e_++ρk) b (X1 a b_ c_ d_ e_++Xr) (S1 a b_ c_ d_ e_++S)):HC P Q N D (.loop c) ρ b X S:=
 od (ι:=α×β×γ×δ×ε) (fun i=>μ i.1 i.2.1 i.2.2.1 i.2.2.2.1 i.2.2.2.2) (fun i=>R i.1 i.2.1 i.2.2.1 i.2.2.2.1 i.2.2.2.2) (fun i=>X1 i.1 i.2.1 i.2.2.1 i.2.2.2.1 i.2.2.2.2) (fun i=>S1 i.1 i.2.1 i.2.2.1 i.2.2.2.1 i.2.2.2.2) (fun i=>I i.1 i.2.1 i.2.2.1 i.2.2.2.1 i.2.2.2.2) (a0,b_0,c_0,d_0,e_0) ρk hk is hX js hS hI hs fun i hi w m a ha=>Code.wp_mono (fun e a' w' q=>by
  cases e <;> first|exact q|(obtain⟨x,y,z,u,v_,h⟩:=q;exact⟨(x,y,z,u,v_),h⟩)) (round i.1 i.2.1 i.2.2.1 i.2.2.2.1 i.2.2.2.2 hi w m a ha)
theorem nJ{α β γ δ ε:Type}{M:Nat}{μ:α→β→γ→δ→ε→Nat}{R:α→β→γ→δ→ε→Env}{X1 S1:α→β→γ→δ→ε→List bg}{Xr Sr:List bg}{ρ0:Env}{I:α→β→γ→δ→ε→Prop}(x:α)(y:β)(z:γ)(u:δ)(v_:ε)(hs:eb (R x y z u v_++ρ0) ρ)(is:List Nat){Xz:List bg}(hX:bN is X=some (X1 x y z u v_++Xr,Xz))(js:List Nat)(hS:dh js S=some (S1 x y z u v_++Sr))(hI:I x y z u v_)(hlt:μ x y z u v_<M):
  HQ (Exit.then (fun a' w' =>∃x y z u v_,Ag N D (R x y z u v_++ρ0) a' ∧Mem b (X1 x y z u v_++Xr) (S1 x y z u v_++Sr) w' ∧I x y z u v_∧μ x y z u v_<M) Q) N D .normal ρ b X S:=
 fun w m a ha=>⟨x,y,z,u,v_,ha.sub hs.sub,((m.perm (ao _ _ _ _ hX)).jw).iT (cb _ _ _ hS),hI,hlt⟩
theorem u6{α β γ δ ε ζ:Type}(μ:α→β→γ→δ→ε→ζ→Nat)(R:α→β→γ→δ→ε→ζ→Env)(X1 S1:α→β→γ→δ→ε→ζ→List bg)(I:α→β→γ→δ→ε→ζ→Prop)(a0:α)(b_0:β)(c_0:γ)(d_0:δ)(e_0:ε)(f_0:ζ)(ρk:Env)(hk:eb ρk ρ)(is:List Nat)(hX:bN is X=some (X1 a0 b_0 c_0 d_0 e_0 f_0,Xr))(js:List Nat)(hS:dh js S=some (S1 a0 b_0 c_0 d_0 e_0 f_0))(hI:I a0 b_0 c_0 d_0 e_0 f_0)(hs:eb (R a0 b_0 c_0 d_0 e_0 f_0) ρ)
  (round:∀a b_ c_ d_ e_ f_,I a b_ c_ d_ e_ f_→HC P (Exit.then (fun a' w' =>∃x y z u v_ t_,Ag N D (R x y z u v_ t_++ρk) a' ∧Mem b (X1 x y z u v_ t_++Xr) (S1 x y z u v_ t_++S) w' ∧I x y z u v_ t_∧μ x y z u v_ t_<μ a b_ c_ d_ e_ f_) Q) N D c (R a b_ c_ d_ e_ f_++ρk) b (X1 a b_ c_ d_ e_ f_++Xr) (S1 a b_ c_ d_ e_ f_++S)):HC P Q N D (.loop c) ρ b X S:=
 od (ι:=α×β×γ×δ×ε×ζ) (fun i=>μ i.1 i.2.1 i.2.2.1 i.2.2.2.1 i.2.2.2.2.1 i.2.2.2.2.2) (fun i=>R i.1 i.2.1 i.2.2.1 i.2.2.2.1 i.2.2.2.2.1 i.2.2.2.2.2) (fun i=>X1 i.1 i.2.1 i.2.2.1 i.2.2.2.1 i.2.2.2.2.1 i.2.2.2.2.2) (fun i=>S1 i.1 i.2.1 i.2.2.1 i.2.2.2.1 i.2.2.2.2.1 i.2.2.2.2.2) (fun i=>I i.1 i.2.1 i.2.2.1 i.2.2.2.1 i.2.2.2.2.1 i.2.2.2.2.2) (a0,b_0,c_0,d_0,e_0,f_0) ρk hk is hX js hS hI hs fun i hi w m a ha=>Code.wp_mono (fun e a' w' q=>by
  cases e <;> first|exact q|(obtain⟨x,y,z,u,v_,t_,h⟩:=q;exact⟨(x,y,z,u,v_,t_),h⟩)) (round i.1 i.2.1 i.2.2.1 i.2.2.2.1 i.2.2.2.2.1 i.2.2.2.2.2 hi w m a ha)
theorem jT{α β γ δ ε ζ:Type}{M:Nat}{μ:α→β→γ→δ→ε→ζ→Nat}{R:α→β→γ→δ→ε→ζ→Env}{X1 S1:α→β→γ→δ→ε→ζ→List bg}{Xr Sr:List bg}{ρ0:Env}{I:α→β→γ→δ→ε→ζ→Prop}(x:α)(y:β)(z:γ)(u:δ)(v_:ε)(t_:ζ)(hs:eb (R x y z u v_ t_++ρ0) ρ)(is:List Nat){Xz:List bg}(hX:bN is X=some (X1 x y z u v_ t_++Xr,Xz))(js:List Nat)(hS:dh js S=some (S1 x y z u v_ t_++Sr))(hI:I x y z u v_ t_)(hlt:μ x y z u v_ t_<M):
  HQ (Exit.then (fun a' w' =>∃x y z u v_ t_,Ag N D (R x y z u v_ t_++ρ0) a' ∧Mem b (X1 x y z u v_ t_++Xr) (S1 x y z u v_ t_++Sr) w' ∧I x y z u v_ t_∧μ x y z u v_ t_<M) Q) N D .normal ρ b X S:=
 fun w m a ha=>⟨x,y,z,u,v_,t_,ha.sub hs.sub,((m.perm (ao _ _ _ _ hX)).jw).iT (cb _ _ _ hS),hI,hlt⟩
theorem Ew{α β γ δ ε ζ η:Type}(μ:α→β→γ→δ→ε→ζ→η→Nat)(R:α→β→γ→δ→ε→ζ→η→Env)(X1 S1:α→β→γ→δ→ε→ζ→η→List bg)(I:α→β→γ→δ→ε→ζ→η→Prop)(a0:α)(b_0:β)(c_0:γ)(d_0:δ)(e_0:ε)(f_0:ζ)(g_0:η)(ρk:Env)(hk:eb ρk ρ)(is:List Nat)(hX:bN is X=some (X1 a0 b_0 c_0 d_0 e_0 f_0 g_0,Xr))(js:List Nat)(hS:dh js S=some (S1 a0 b_0 c_0 d_0 e_0 f_0 g_0))(hI:I a0 b_0 c_0 d_0 e_0 f_0 g_0)(hs:eb (R a0 b_0 c_0 d_0 e_0 f_0 g_0) ρ)
  (round:∀a b_ c_ d_ e_ f_ g_,I a b_ c_ d_ e_ f_ g_→HC P (Exit.then (fun a' w' =>∃x y z u v_ t_ s_,Ag N D (R x y z u v_ t_ s_++ρk) a' ∧Mem b (X1 x y z u v_ t_ s_++Xr) (S1 x y z u v_ t_ s_++S) w' ∧I x y z u v_ t_ s_∧μ x y z u v_ t_ s_<μ a b_ c_ d_ e_ f_ g_) Q) N D c (R a b_ c_ d_ e_ f_ g_++ρk) b (X1 a b_ c_ d_ e_ f_ g_++Xr) (S1 a b_ c_ d_ e_ f_ g_++S)):HC P Q N D (.loop c) ρ b X S:=
 od (ι:=α×β×γ×δ×ε×ζ×η) (fun i=>μ i.1 i.2.1 i.2.2.1 i.2.2.2.1 i.2.2.2.2.1 i.2.2.2.2.2.1 i.2.2.2.2.2.2) (fun i=>R i.1 i.2.1 i.2.2.1 i.2.2.2.1 i.2.2.2.2.1 i.2.2.2.2.2.1 i.2.2.2.2.2.2) (fun i=>X1 i.1 i.2.1 i.2.2.1 i.2.2.2.1 i.2.2.2.2.1 i.2.2.2.2.2.1 i.2.2.2.2.2.2) (fun i=>S1 i.1 i.2.1 i.2.2.1 i.2.2.2.1 i.2.2.2.2.1 i.2.2.2.2.2.1 i.2.2.2.2.2.2) (fun i=>I i.1 i.2.1 i.2.2.1 i.2.2.2.1 i.2.2.2.2.1 i.2.2.2.2.2.1 i.2.2.2.2.2.2) (a0,b_0,c_0,d_0,e_0,f_0,g_0) ρk hk is hX js hS hI hs fun i hi w m a ha=>Code.wp_mono (fun e a' w' q=>by
  cases e <;> first|exact q|(obtain⟨x,y,z,u,v_,t_,s_,h⟩:=q;exact⟨(x,y,z,u,v_,t_,s_),h⟩)) (round i.1 i.2.1 i.2.2.1 i.2.2.2.1 i.2.2.2.2.1 i.2.2.2.2.2.1 i.2.2.2.2.2.2 hi w m a ha)
theorem zE{α β γ δ ε ζ η:Type}{M:Nat}{μ:α→β→γ→δ→ε→ζ→η→Nat}{R:α→β→γ→δ→ε→ζ→η→Env}{X1 S1:α→β→γ→δ→ε→ζ→η→List bg}{Xr Sr:List bg}{ρ0:Env}{I:α→β→γ→δ→ε→ζ→η→Prop}(x:α)(y:β)(z:γ)(u:δ)(v_:ε)(t_:ζ)(s_:η)(hs:eb (R x y z u v_ t_ s_++ρ0) ρ)(is:List Nat){Xz:List bg}(hX:bN is X=some (X1 x y z u v_ t_ s_++Xr,Xz))(js:List Nat)(hS:dh js S=some (S1 x y z u v_ t_ s_++Sr))(hI:I x y z u v_ t_ s_)(hlt:μ x y z u v_ t_ s_<M):
  HQ (Exit.then (fun a' w' =>∃x y z u v_ t_ s_,Ag N D (R x y z u v_ t_ s_++ρ0) a' ∧Mem b (X1 x y z u v_ t_ s_++Xr) (S1 x y z u v_ t_ s_++Sr) w' ∧I x y z u v_ t_ s_∧μ x y z u v_ t_ s_<M) Q) N D .normal ρ b X S:=
 fun w m a ha=>⟨x,y,z,u,v_,t_,s_,ha.sub hs.sub,((m.perm (ao _ _ _ _ hX)).jw).iT (cb _ _ _ hS),hI,hlt⟩
theorem vq{ι:Type}(R:ι→Env)(X1 S1:ι→List bg)(I:ι→Prop)(h:HC P (xe N D R fun i w=>Mem b (X1 i) (S1 i) w∧I i) N D c ρ b X S)(k:∀i,I i→HQ Q N D .normal (R i) b (X1 i) (S1 i)):HC P Q N D c ρ b X S:=
 fun w m=>Hf R _ (h w m) fun i w' hi=>k i hi.2 w' hi.1
theorem G0{ι:Type}{R:ι→Env}{X1 S1:ι→List bg}{I:ι→Prop}(i:ι)(hs:eb (R i) ρ)(is:List Nat){Xz:List bg}(hX:bN is X=some (X1 i,Xz))(js:List Nat)(hS:dh js S=some (S1 i))(hI:I i):
  HQ (xe N D R fun i w=>Mem b (X1 i) (S1 i) w∧I i) N D .normal ρ b X S:=
 fun w m=>HJ i hs.sub ⟨((m.perm (ao _ _ _ _ hX)).jw).iT (cb _ _ _ hS),hI⟩
end
section
variable{P:Program}{Q:Exit→Act→World→Prop}{N:Nat}{D:List Deferred}{ρ:Env}{b:cg}{X X' X0 Xr S S' S0:List bg}{ty t u e:TypeId}{x y:Operand}{v:Value}{K:Value→List bg→List bg→Prop}
theorem pA{op:Op}(h:∀{w},Mem b X S w→Yl P N D ρ w op ty v)(k:K v X S):XH P Q N D ρ b X S op ty K:=fun w m=>Ey (h m) ⟨X,S,m,k⟩
theorem br(hx:ev ρ x=some v)(k:∀g,K (.pointer (some ⟨g,0,none⟩)) (aE g t v.cells.toList::X) S):XH P Q N D ρ b X S (.box t x) ty K:=fun w m=>uj hx fun g w' hg hf hb=>⟨_,_,m.cL (r' :=aE g t _) hf hb (fun i hi=>Nat.le_trans hg (Nat.le_of_eq (Eq.symm hi))),k g⟩
theorem ba{z:Value}{sz bytes:Nat}(hT:TI P t z sz bytes)(k:∀g,K (.pointer (some ⟨g,0,none⟩)) (aE g t z.cells.toList::X) S):XH P Q N D ρ b X S (.alloc t) ty K:=fun w m=>Cf hT fun g w' hg hf hb=>⟨_,_,m.cL (r' :=aE g t _) hf hb (fun i hi=>Nat.le_trans hg (Nat.le_of_eq (Eq.symm hi))),k g⟩
theorem b5{z:Value}{sz bytes n:Nat}{parts:List (Nat×Operand)}{vs:List Value}(ht:P.underlying t=some (.slice e))(hT:TI P e z sz bytes)(hv:mP ρ (parts.map (·.2))=some vs)(hi:parts.map (·.1)=List.range' 0 n)(hl:vs.length=n)
  (hc:∀v∈vs,v.cells.size=sz) (h0:n*sz≠0) (hsm:n*sz≤16777216)
  (k:∀g,K (.slice (some ⟨g,0,none⟩) n n) (aI e sz (.slice (some ⟨g,0,none⟩) n n) n (vs.flatMap (·.cells.toList))::X) S):XH P Q N D ρ b X S (.buildSlice t n parts.toArray) ty K:=fun w m=>tP ht hT hv hi hl hc h0 hsm fun g w' hg hf hb=>⟨_,_,m.cL (r' :=aI e sz (.slice (some ⟨g,0,none⟩) n n) n (vs.flatMap (·.cells.toList))) hf (by
  have hlen:(vs.flatMap (·.cells.toList)).length=n*sz:=by
   subst hl
   clear hv hi hsm h0 hb k
   induction vs with
   |nil=>simp
   |cons a r ih=>
    have h1:=hc a (by simp)
    have h2:=ih (fun v hv=>hc v (by simp[hv]))
    simp only[List.flatMap_cons,List.length_append,Array.length_toList,h1,h2,List.length_cons,Nat.add_mul]
    omega
  have:=Own.made (base:=0) hb (Nat.zero_le _) (Nat.le_refl n) (by unfold maxLen;have:n≤n*sz:=Nat.le_mul_of_pos_right _ (Nat.pos_of_ne_zero (fun e=>h0 (by rw[e,Nat.mul_zero])));omega) hlen
  rwa [List.take_of_length_le (by omega)]at this) (fun i hi=>Nat.le_trans hg (Nat.le_of_eq (Eq.symm hi))),k g⟩
theorem bC{sz bytes n m:Nat}{src z:Value}{xs news:List Value}{du:TypeDesc}(i:Nat)(hi:X[i]? =some (aI e sz v n xs))(hx:ev ρ x=some v)(hy:ev ρ y=some src)(ht:P.underlying t=some (.slice e))(hu:P.underlying u=some du)(hnu:du= .slice e∨du= .string)
  (hT:TI P e z sz bytes) (hz:z.cells.size=sz) (hs:∀{w},Mem b X S w→Src P w sz m src news) (h1:∀u∈news,u.oneCell' =true) (hm:n+m≤maxLen) (hb:(n+m)*bytes≤140737488355328)
  (k:∀v',K v' (aI e sz v' (n+m) (xs++news)::X.eraseIdx i) S):XH P Q N D ρ b X S (.call ⟨.builtin .append, #[x,y], #[t,u]⟩) ty K:=fun w m=>pb hx hy ht hu hnu hT hz (m.own i hi) (hs m) h1 hm hb (Nat.zero_le _) fun v' w' ho hf hk=>⟨_,_,by
  have m' :=m.perm (ao [i] X [aI e sz v n xs] (X.eraseIdx i) (by simp[bN,hi]))
  exact m'.change hf ho hk,k v'⟩
theorem dw{g o:Nat}{bt:TypeId}{cs:List Value}(i:Nat)(hi:X[i]? =some (aE g bt cs))(hx:ev ρ x=some (.pointer (some ⟨g,o,none⟩)))(hy:ev ρ y=some v)(hs:fl P t=some 1)(hv:v.oneCell' =true)(ho:o<cs.length)
  (k:K undef (aE g bt (cs.set o v)::X.eraseIdx i) S):XH P Q N D ρ b X S (.store t x y) ty K:=fun w m=>AL hx hy hs hv (m.aN i hi) ho fun w' hf hb hsz=>⟨_,_,by
  have m' :=m.perm (ao [i] X [aE g bt cs] (X.eraseIdx i) (by simp[bN,hi]))
  exact m'.change hf hb (fun k hk=>.inl hk),k⟩
theorem bZ{g o j:Nat}{bt:TypeId}{cs:List Value}(i:Nat)(hi:X[i]? =some (aE g bt cs))(hx:ev ρ x=some (.pointer (some ((⟨g,o,none⟩:Addr).add j))))(hy:ev ρ y=some v)(hs:fl P t=some 1)(hv:v.oneCell' =true)(ho:o+j<cs.length)
  (k:K undef (aE g bt (cs.set (o+j) v)::X.eraseIdx i) S):XH P Q N D ρ b X S (.store t x y) ty K:=dw i hi (by rw[hx,ez]) hy hs hv ho k
theorem Aa{g o sz:Nat}{bt:TypeId}{cs vs:List Value}(i:Nat)(hi:X[i]? =some (aE g bt cs))(hx:ev ρ x=some (.pointer (some ⟨g,o,none⟩)))(hy:ev ρ y=some (.agg vs.toArray))(hs:fl P t=some sz)(hl:vs.length=sz)(hv:∀v∈vs,v.oneCell' =true)(ho:o+sz≤cs.length)
  (k:K undef (aE g bt (bD cs o vs)::X.eraseIdx i) S):XH P Q N D ρ b X S (.store t x y) ty K:=fun w m=>Dd hx hy hs hl hv (m.aN i hi) ho fun w' hf hb hsz=>⟨_,_,by
  have m' :=m.perm (ao [i] X [aE g bt cs] (X.eraseIdx i) (by simp[bN,hi]))
  exact m'.change hf hb (fun k hk=>.inl hk),k⟩
theorem sb{g o j sz:Nat}{bt:TypeId}{cs vs:List Value}(i:Nat)(hi:X[i]? =some (aE g bt cs))(hx:ev ρ x=some (.pointer (some ((⟨g,o,none⟩:Addr).add j))))(hy:ev ρ y=some (.agg vs.toArray))(hs:fl P t=some sz)(hl:vs.length=sz)(hv:∀v∈vs,v.oneCell' =true)(ho:o+j+sz≤cs.length)
  (k:K undef (aE g bt (bD cs (o+j) vs)::X.eraseIdx i) S):XH P Q N D ρ b X S (.store t x y) ty K:=Aa i hi (by rw[hx,ez]) hy hs hl hv ho k
theorem a7{g n:Nat}{bt:TypeId}{cs vs:List Value}(i:Nat)(hi:X[i]? =some (aE g bt cs))(hx:ev ρ x=some (.pointer (some ⟨g,0,none⟩)))(hy:ev ρ y=some (.agg vs.toArray))(hs:fl P t=some n)(hl:vs.length=n)(h1:∀u∈vs,u.oneCell' =true)(hcl:cs.length=n)
  (k:K undef (aE g bt vs::X.eraseIdx i) S):XH P Q N D ρ b X S (.store t x y) ty K:=Aa i hi hx hy hs hl h1 (by omega) (by rwa [vh (by omega)])
theorem uQ{A:Option Addr}{n c sz j:Nat}{xs:List Value}(i:Nat)(hi:X[i]? =some (aI e sz (.slice A n c) n xs))(hx:ev ρ x=some (.pointer (some ((A.getD d0).add j))))(hy:ev ρ y=some v)(hs:fl P t=some 1)(hv:v.oneCell' =true)(hj:j<n*sz)
  (k:K undef (aI e sz (.slice A n c) n (xs.set j v)::X.eraseIdx i) S):XH P Q N D ρ b X S (.store t x y) ty K:=fun w m=>GN hx hy hs hv (m.own i hi) hj fun w' hf hb hsz=>⟨_,_,by
  have m' :=m.perm (ao [i] X [aI e sz (.slice A n c) n xs] (X.eraseIdx i) (by simp[bN,hi]))
  exact m'.change hf hb (fun k hk=>.inl hk),k⟩
theorem yh{s:ByteArray}{td:TypeDesc}{t' :TypeId}(hx:ev ρ x=some (.string s))(ht:P.underlying t=some td)(ht' :P.underlying t' =some (.slice e))(he:P.underlying e=some (.int .u8))(hm:(bytesOf s).length≤maxLen)
  (k:∀v,K v (aI e 1 v (bytesOf s).length (aT (bytesOf s))::X) S):XH P Q N D ρ b X S (.convert t t' x) ty K:=fun w m=>Gm hx ht ht' he hm fun v w' hf ho=>⟨_,_,m.cL (r' :=aI e 1 v (bytesOf s).length (aT (bytesOf s))) hf ho.Da (fun k hk=>(ho.from hk).1),k v⟩
def cf(P:Program)(f:Nat)(args:List Value)(X0 S0:List bg)(R:Value→List bg→List bg→Prop):Prop:=
 ∀w,Mem ⟨w,c6 X0,c6 S0⟩ X0 S0 w→Calls P f args.toArray w fun e w' =>∃v X' S',e= .returned v∧R v X' S' ∧Mem ⟨w,c6 X0,c6 S0⟩ X' S' w'
def RB(b:cg)(R:Value→List bg→List bg→Prop):Ending→World→Prop:=fun e w' =>∃v X' S',e= .returned v∧R v X' S' ∧Mem b X' S' w'
theorem an{f:Nat}{l:List Operand}{vs:List Value}{tys:Array TypeId}{R:Value→List bg→List bg→Prop}(hv:mP ρ l=some vs)(hf:∀args w,(callFunc f args).run P w= .ok (.enter f args) w)
  (hc:cf P f vs X0 S0 R) (is:List Nat) (hX:bN is X=some (X0,Xr)) (js:List Nat) (hS:dh js S=some S0) (k:∀v X' S',R v X' S' →K v (X' ++Xr) (S' ++S)):XH P Q N D ρ b X S (.call ⟨.value (.func f),l.toArray,tys⟩) ty K:=fun w m=>by
 have m1:=m.perm (ao _ _ _ _ hX)
 refine jZ hv hf (hc w (m1.part (cb _ _ _ hS))) ?_
 rintro e w' ⟨v,X',S',rfl,hR,m'⟩
 exact⟨v,rfl,_,_,m1.frame (cb _ _ _ hS) m',k v X' S' hR⟩
theorem eG{f:Nat}{l:List Operand}{vs first cap:List Value}{tys:Array TypeId}{R:Value→List bg→List bg→Prop}(hx:ev ρ x=some (.func (.func f) first.toArray cap.toArray))(hv:mP ρ l=some vs)(hf:∀args w,(callFunc f args).run P w= .ok (.enter f args) w)
  (hc:cf P f (first++vs++cap) X0 S0 R) (is:List Nat) (hX:bN is X=some (X0,Xr)) (js:List Nat) (hS:dh js S=some S0) (k:∀v X' S',R v X' S' →K v (X' ++Xr) (S' ++S)):XH P Q N D ρ b X S (.call ⟨.value x,l.toArray,tys⟩) ty K:=fun w m=>by
 have m1:=m.perm (ao _ _ _ _ hX)
 refine wM hx hv hf (hc w (m1.part (cb _ _ _ hS))) ?_
 rintro e w' ⟨v,X',S',rfl,hR,m'⟩
 exact⟨v,rfl,_,_,m1.frame (cb _ _ _ hS) m',k v X' S' hR⟩
end
inductive View:bg→bg→Prop
 |own {e:TypeId} {sz n c:Nat} {A:Option Addr} {xs:List Value}:View (aI e sz (.slice A n c) n xs) (cz sz A n xs)
 |aN {g sz n:Nat} {t:TypeId} {cs:List Value} (h:cs.length=n*sz):View (aE g t cs) (cz sz (some ⟨g,0,none⟩) n cs)
 |same {r:bg}:View r r
 |of {r r' :bg} (h:∀w,r.holds w→r'.holds w) (hk:∀k,r'.db k→r.db k):View r r'
theorem View.ok{r r' :bg}(h:View r r'):(∀w,r.holds w→r'.holds w)∧∀k,r'.db k→r.db k:=by
 cases h with
 |own=>
  refine⟨fun w h=>(Own.rd h).2.2,fun k hk=> ?_⟩
  obtain⟨_,a,rfl,rfl⟩:=hk
  rfl
 |aN hl=>exact⟨fun w h=>Rd.lG h hl,fun k hk=>by obtain⟨_,a,ha,rfl⟩:=hk;cases ha;rfl⟩
 |same=>exact⟨fun _ h=>h,fun _ h=>h⟩
 |of h hk=>exact⟨h,hk⟩
inductive r8(X S:List bg):List bg→Prop
 |nil:r8 X S []
 |s {r:bg} {rest:List bg} (j:Nat) (h:S[j]? =some r) (t:r8 X S rest):r8 X S (r::rest)
 |x {r r' :bg} {rest:List bg} (i:Nat) (h:X[i]? =some r') (hv:View r' r) (t:r8 X S rest):r8 X S (r::rest)
theorem r8.ok{X S S0:List bg}(h:r8 X S S0):∀s∈S0,s∈S∨∃x∈X,View x s:=by
 induction h with
 |nil=>simp
 |s j h t ih=>
  intro s hs
  rcases List.mem_cons.1 hs with rfl|hs
  ·exact .inl (List.mem_of_getElem? h)
  ·exact ih s hs
 |x i h hv t ih=>
  intro s hs
  rcases List.mem_cons.1 hs with rfl|hs
  ·exact .inr ⟨_,List.mem_of_getElem? h,hv⟩
  ·exact ih s hs
theorem Mem.Hc{b:cg}{X0 Xr S S0:List bg}{w:World}(m:Mem b (X0++Xr) S w)(hl:r8 Xr S S0):Mem ⟨w,c6 X0,c6 S0⟩ X0 S0 w:=by
 obtain⟨h0,hr,h0r⟩:=List.pairwise_append.1 m.xx
 refine .start h0 (fun x hx s hs k hk hk' => ?_) (fun x hx=>m.hx x (List.mem_append_left _ hx)) (fun s hs=> ?_)
 ·rcases hl.ok s hs with h|⟨y,hy,hv⟩
  ·exact m.xs x (List.mem_append_left _ hx) s h k hk hk'
  ·exact h0r x hx y hy k hk (hv.ok.2 k hk')
 ·rcases hl.ok s hs with h|⟨y,hy,hv⟩
  ·exact m.hs s h
  ·exact hv.ok.1 _ (m.hx y (List.mem_append_right _ hy))
section
variable{P:Program}{Q:Exit→Act→World→Prop}{N:Nat}{D:List Deferred}{ρ:Env}{b:cg}{X X' X0 Xr S S' S0:List bg}{ty t u e:TypeId}{x y:Operand}{v:Value}{K:Value→List bg→List bg→Prop}
theorem cS{f:Nat}{l:List Operand}{vs:List Value}{tys:Array TypeId}{R:Value→List bg→List bg→Prop}(hv:mP ρ l=some vs)(hf:∀args w,(callFunc f args).run P w= .ok (.enter f args) w)
  (hc:cf P f vs X0 S0 R) (is:List Nat) (hX:bN is X=some (X0,Xr)) (hl:r8 Xr S S0) (k:∀v X' S',R v X' S' →S' =[]∧K v (X' ++Xr) S):XH P Q N D ρ b X S (.call ⟨.value (.func f),l.toArray,tys⟩) ty K:=fun w m=>by
 have m1:=m.perm (ao _ _ _ _ hX)
 refine jZ hv hf (hc w (m1.Hc hl)) ?_
 rintro e w' ⟨v,X',S',rfl,hR,m'⟩
 obtain⟨rfl,hk⟩:=k v X' S' hR
 have m2:Mem ⟨w,c6 X0,c6 []⟩ X' [] w' :=⟨m'.fr,m'.xx,by simp,m'.hx,by simp,m'.nx,by simp⟩
 exact⟨v,rfl,_,_,Mem.frame (S0:=[]) m1 (by simp) m2,hk⟩
end
theorem aK{P:Program}{f:Nat}{fn:Func}{c:Code}{vs:List Value}{R:Value→List bg→List bg→Prop}{N:Nat}{X0 S0:List bg}(hf:P.funcs[f]? =some fn)(hb:fn.body=some c)(hN:fn.ntmps=N)(hl:vs.length≤N)
  (h:∀b,HC P (bodyPost P fn (RB b R)) N [] c (fI vs 0) b X0 S0):cf P f vs X0 S0 R:=fun w m=>enter hf hb hN hl (h _ w m)
section
variable{P:Program}{fn:Func}{R:Value→List bg→List bg→Prop}{N:Nat}{ρ:Env}{b:cg}{X X' Xz S S' :List bg}{e:Exit}
theorem Mem.out{w:World}(m:Mem b X S w)(is:List Nat)(hX:bN is X=some (X',Xz))(js:List Nat)(hS:dh js S=some S'):Mem b X' S' w:=((m.perm (ao _ _ _ _ hX)).jw).iT (cb _ _ _ hS)
theorem fA(he:Leaves e)(hr:fn.results= #[])(is:List Nat)(hX:bN is X=some (X',Xz))(js:List Nat)(hS:dh js S=some S')(hR:R (.tuple #[]) X' S'):HQ (bodyPost P fn (RB b R)) N [] e ρ b X S:=
 fun w m=>FN he hr ⟨_,_,_,rfl,hR,m.out is hX js hS⟩
theorem bc{t:Nat}{v:Value}(he:Leaves e)(hr:fn.results= #[.tmp t])(hv:get ρ t=some v)(is:List Nat)(hX:bN is X=some (X',Xz))(js:List Nat)(hS:dh js S=some S')(hR:R v X' S'):HQ (bodyPost P fn (RB b R)) N [] e ρ b X S:=
 fun w m=>iY he hr hv ⟨_,_,_,rfl,hR,m.out is hX js hS⟩
theorem cQ{t t' :Nat}{v v' :Value}(he:Leaves e)(hr:fn.results= #[.tmp t,.tmp t'])(hv:get ρ t=some v)(hv' :get ρ t' =some v')(is:List Nat)(hX:bN is X=some (X',Xz))(js:List Nat)(hS:dh js S=some S')(hR:R (.tuple #[v,v']) X' S'):HQ (bodyPost P fn (RB b R)) N [] e ρ b X S:=
 fun w m=>Hy he hr hv hv' ⟨_,_,_,rfl,hR,m.out is hX js hS⟩
theorem eZ{t sz:Nat}{ty:TypeId}{p:Addr}{cs:List Value}(he:Leaves e)(hr:fn.results= #[.cell t ty])(hv:get ρ t=some (.pointer (some p)))(ha:c5 P ty=some true)(hs:fl P ty=some sz)(hl:cs.length=sz)
  (hc:∀{w},Mem b X S w→∀j u,cs[j]? =some u→w.cell? (p.add j)=some u) (is:List Nat) (hX:bN is X=some (X',Xz)) (js:List Nat) (hS:dh js S=some S') (hR:R (.agg cs.toArray) X' S'):HQ (bodyPost P fn (RB b R)) N [] e ρ b X S:=
 fun w m=>HZ he hr hv ha hs hl (hc m) ⟨_,_,_,rfl,hR,m.out is hX js hS⟩
theorem eo{t t' sz:Nat}{ty:TypeId}{p:Addr}{cs:List Value}{v' :Value}(he:Leaves e)(hr:fn.results= #[.cell t ty,.tmp t'])(hv:get ρ t=some (.pointer (some p)))(hv' :get ρ t' =some v')(ha:c5 P ty=some true)(hs:fl P ty=some sz)(hl:cs.length=sz)
  (hc:∀{w},Mem b X S w→∀j u,cs[j]? =some u→w.cell? (p.add j)=some u) (is:List Nat) (hX:bN is X=some (X',Xz)) (js:List Nat) (hS:dh js S=some S') (hR:R (.tuple #[.agg cs.toArray,v']) X' S'):HQ (bodyPost P fn (RB b R)) N [] e ρ b X S:=
 fun w m=>F1 he hr hv hv' ha hs hl (hc m) ⟨_,_,_,rfl,hR,m.out is hX js hS⟩
end
theorem jn{P:Program}{f:Nat}{vs:List Value}{S0:List bg}{R:Value→List bg→List bg→Prop}(h:∀{w b},Mem b [] S0 w→Calls P f vs.toArray w fun e w' =>∃v,e= .returned v∧R v [] []∧Fr No w w'):cf P f vs [] S0 R:=fun w m=>by
 refine Calls.mono (h m) ?_
 rintro e w' ⟨v,rfl,hR,hf⟩
 exact⟨v,[],[],rfl,hR,(m.iT (by simp)).lift hf⟩
end Go.Eng
end
section
namespace Go.Eng
open Go.RowKit
section
variable{P:Program}{ops:Array Oper}{Q:Exit→Act→World→Prop}{N:Nat}{D:List Deferred}{ρ ρ' :Env}{b:cg}{X X' X0 Xr S S' S0 X1 S1:List bg}{rest:List (Option Nat×Oper)}
 {op:Op} {ty:TypeId} {pos:String} {af:Array Edge} {d k m c:Nat} {v:Value}
theorem cA{id:Nat}{l:List (Option Nat×Oper)}(Xs:List Nat)(L:List (Nat×Option Nat))(hm:P.follows .mixedOrders=true)(hk:(Region.noSelect ops && ep ops Xs L (Array.replicate ops.size false) && decide (L.length≤ops.size))=true)
  (hp:ia ops L=some l) (c:Nat) (h:HT P ops (eP Q) (TT b X S c) N D 0 l ρ b X S):HC P Q N D (.region id ops true) ρ b X S:=fun w m=>
 Dl Xs L hm hk hp (TT b X S c) (fun _=>m.lift (Fr.drew w)) fun w' f _=>h w' (m.lift f)
theorem bV(h:∀{w},Mem b X1 S1 w→Yl P N D ρ w op ty v)(kk:HT P ops Q (TT b X1 S1 c) N D k rest ((d,v)::ρ) b X S)(hmc:m≤c:=by decide)(hd:d<N:=by decide):HT P ops Q (TT b X1 S1 c) N D k ((some m,⟨some d,op,ty,pos,af,none⟩)::rest) ρ b X S:=
 fun w mm=>tq (fun k' w' h1 h2 hT=>h (hT (Nat.le_trans h2 hmc))) (kk w mm) hd
theorem pB{g gd:Nat}{want:Bool}{o:Oper}(ho:ops[g]? =some o)(hod:o.dst=some gd)(hb:get ρ gd=some (.bool want))(h:∀{w},Mem b X1 S1 w→Yl P N D ρ w op ty v)(kk:HT P ops Q (TT b X1 S1 c) N D k rest ((d,v)::ρ) b X S)(hmc:m≤c:=by decide)(hd:d<N:=by decide):
  HT P ops Q (TT b X1 S1 c) N D k ((some m,⟨some d,op,ty,pos,af,some (g,want)⟩)::rest) ρ b X S:=
 fun w mm=>Ib ho hod hb (fun k' w' h1 h2 hT=>h (hT (Nat.le_trans h2 hmc))) (kk w mm) hd
theorem aj{T:Nat→World→Prop}(h:∀{w},Yl P N D ρ w op ty v)(kk:HT P ops Q T N D k rest ((d,v)::ρ) b X S)(hd:d<N:=by decide):HT P ops Q T N D k ((some m,⟨some d,op,ty,pos,af,none⟩)::rest) ρ b X S:=
 fun w mm=>tq (fun k' w' h1 h2 hT=>h) (kk w mm) hd
theorem cq{T:Nat→World→Prop}{g gd:Nat}{want:Bool}{o:Oper}(ho:ops[g]? =some o)(hod:o.dst=some gd)(hb:get ρ gd=some (.bool want))(h:∀{w},Yl P N D ρ w op ty v)(kk:HT P ops Q T N D k rest ((d,v)::ρ) b X S)(hd:d<N:=by decide):
  HT P ops Q T N D k ((some m,⟨some d,op,ty,pos,af,some (g,want)⟩)::rest) ρ b X S:=
 fun w mm=>Ib ho hod hb (fun k' w' h1 h2 hT=>h) (kk w mm) hd
theorem dk(h:XH P Q N D ρ b X S op ty fun v X' S' =>(k+1≤c→Wk X1 S1 X' S')∧HT P ops Q (TT b X1 S1 c) N D (k+1) rest ((d,v)::ρ) b X' S')(hd:d<N:=by decide):
  HT P ops Q (TT b X1 S1 c) N D k ((none,⟨some d,op,ty,pos,af,none⟩)::rest) ρ b X S:=fun w m=>tx (fun a dst pos af g ha=>Oper.wp_mono (by
 rintro a' w' ⟨v,rfl,X',S',m',hw,hk⟩
 exact⟨v,rfl,fun h=>(hw h).mem m',hk w' m'⟩) (h w m a dst pos af g ha)) hd
theorem gi(h:XH P Q N D ρ b X S op ty fun _ X' S' =>(k+1≤c→Wk X1 S1 X' S')∧HT P ops Q (TT b X1 S1 c) N D (k+1) rest ρ b X' S'):
  HT P ops Q (TT b X1 S1 c) N D k ((none,⟨none,op,ty,pos,af,none⟩)::rest) ρ b X S:=fun w m=>Is (fun a dst pos af g ha=>Oper.wp_mono (by
 rintro a' w' ⟨v,rfl,X',S',m',hw,hk⟩
 exact⟨v,rfl,fun h=>(hw h).mem m',hk w' m'⟩) (h w m a dst pos af g ha))
theorem HH{g gd:Nat}{want:Bool}{o:Oper}(ho:ops[g]? =some o)(hod:o.dst=some gd)(hb:get ρ gd=some (.bool want))(h:XH P Q N D ρ b X S op ty fun v X' S' =>(k+1≤c→Wk X1 S1 X' S')∧HT P ops Q (TT b X1 S1 c) N D (k+1) rest ((d,v)::ρ) b X' S')(hd:d<N:=by decide):
  HT P ops Q (TT b X1 S1 c) N D k ((none,⟨some d,op,ty,pos,af,some (g,want)⟩)::rest) ρ b X S:=fun w m=>Ip ho hod hb (fun a dst pos af g ha=>Oper.wp_mono (by
 rintro a' w' ⟨v,rfl,X',S',m',hw,hk⟩
 exact⟨v,rfl,fun h=>(hw h).mem m',hk w' m'⟩) (h w m a dst pos af g ha)) hd
theorem B5(hw:k+1≤c→Wk X1 S1 X S)(h:∀{w},Mem b X S w→Yl P N D ρ w op ty v)(kk:HT P ops Q (TT b X1 S1 c) N D (k+1) rest ((d,v)::ρ) b X S)(hd:d<N:=by decide):
  HT P ops Q (TT b X1 S1 c) N D k ((none,⟨some d,op,ty,pos,af,none⟩)::rest) ρ b X S:=fun w m=>FV (fun h=>(hw h).mem m) (h m) (kk w m) hd
theorem bj{T:Nat→World→Prop}{g gd:Nat}{want q:Bool}{o:Oper}(ho:ops[g]? =some o)(hod:o.dst=some gd)(hb:get ρ gd=some (.bool q))(hne:q≠want)(kk:HT P ops Q T N D k rest ((d,undef)::ρ) b X S)(hd:d<N:=by decide):
  HT P ops Q T N D k ((some m,⟨some d,op,ty,pos,af,some (g,want)⟩)::rest) ρ b X S:=fun w mm=>FE ho hod hb hne (kk w mm) hd
theorem CL{g gd:Nat}{want q:Bool}{o:Oper}(ho:ops[g]? =some o)(hod:o.dst=some gd)(hb:get ρ gd=some (.bool q))(hne:q≠want)(hw:k+1≤c→Wk X1 S1 X S)(kk:HT P ops Q (TT b X1 S1 c) N D (k+1) rest ((d,undef)::ρ) b X S)(hd:d<N:=by decide):
  HT P ops Q (TT b X1 S1 c) N D k ((none,⟨some d,op,ty,pos,af,some (g,want)⟩)::rest) ρ b X S:=fun w m=>DF ho hod hb hne (fun h=>(hw h).mem m) (kk w m) hd
theorem bp{T:Nat→World→Prop}(h:HQ Q N D .normal ρ b X S):HT P ops (eP Q) T N D k [] ρ b X S:=fun w m=>H4 (h w m)
theorem kP{T:Nat→World→Prop}{p:Prop}[Decidable p]{l:List (Option Nat×Oper)}(gd:Nat)(hg:get ρ gd=some (.bool (decide p)))(ht:p→HT P ops Q T N D k l ((gd,.bool true)::ρ) b X S)(hf:¬p→HT P ops Q T N D k l ((gd,.bool false)::ρ) b X S):HT P ops Q T N D k l ρ b X S:=
 fun w m=>Fc gd hg (fun h=>ht h w m) (fun h=>hf h w m)
theorem dU{T:Nat→World→Prop}{l:List (Option Nat×Oper)}(h:∀w,Mem b X S w→Mem b X' S' w)(kk:HT P ops Q T N D k l ρ b X' S'):HT P ops Q T N D k l ρ b X S:=fun w m=>kk w (h w m)
theorem bU{T:Nat→World→Prop}{l:List (Option Nat×Oper)}{p:Prop}(h:∀{w},Mem b X S w→p)(kk:p→HT P ops Q T N D k l ρ b X S):HT P ops Q T N D k l ρ b X S:=fun w m=>kk (h m) w m
theorem AM{id:Nat}{po:fM}(Xs:List Nat)(p:qn)(hm:P.follows .mixedOrders=true)(hk:(Region.noSelect ops && sI ops Xs p true (Array.replicate ops.size false) && decide (fZ p≤ops.size))=true)
  (hp:j4 ops p=some po) (c:Nat) (h:HP P ops (eP Q) (TT b X S c) N D 0 po ρ b X S):HC P Q N D (.region id ops true) ρ b X S:=fun w m=>
 Gb Xs p hm hk hp (TT b X S c) (fun _=>m.lift (Fr.drew w)) fun w' f _=>h w' (m.lift f)
theorem H8{q:fM}(h:∀{w},Mem b X1 S1 w→Yl P N D ρ w op ty v)(kk:HP P ops Q (TT b X1 S1 c) N D k q ((d,v)::ρ) b X S)(hmc:m≤c:=by decide)(hd:d<N:=by decide):HP P ops Q (TT b X1 S1 c) N D k (.take ⟨some d,op,ty,pos,af,none⟩ m q) ρ b X S:=
 fun w mm=>pq (fun k' w' h1 h2 hT=>h (hT (Nat.le_trans h2 hmc))) (kk w mm) hd
theorem ei{T:Nat→World→Prop}{q:fM}(h:∀{w},Yl P N D ρ w op ty v)(kk:HP P ops Q T N D k q ((d,v)::ρ) b X S)(hd:d<N:=by decide):HP P ops Q T N D k (.take ⟨some d,op,ty,pos,af,none⟩ m q) ρ b X S:=
 fun w mm=>pq (fun k' w' h1 h2 hT=>h) (kk w mm) hd
theorem oA{q:fM}(h:XH P Q N D ρ b X S op ty fun v X' S' =>(k+1≤c→Wk X1 S1 X' S')∧HP P ops Q (TT b X1 S1 c) N D (k+1) q ((d,v)::ρ) b X' S')(hd:d<N:=by decide):
  HP P ops Q (TT b X1 S1 c) N D k (.alt ⟨some d,op,ty,pos,af,none⟩ q .stop) ρ b X S:=fun w m=>px (fun a dst pos af g ha=>Oper.wp_mono (by
 rintro a' w' ⟨v,rfl,X',S',m',hw,hk⟩
 exact⟨v,rfl,fun h=>(hw h).mem m',hk w' m'⟩) (h w m a dst pos af g ha)) hd
theorem gP{q:fM}(h:XH P Q N D ρ b X S op ty fun _ X' S' =>(k+1≤c→Wk X1 S1 X' S')∧HP P ops Q (TT b X1 S1 c) N D (k+1) q ρ b X' S'):
  HP P ops Q (TT b X1 S1 c) N D k (.alt ⟨none,op,ty,pos,af,none⟩ q .stop) ρ b X S:=fun w m=>Ik (fun a dst pos af g ha=>Oper.wp_mono (by
 rintro a' w' ⟨v,rfl,X',S',m',hw,hk⟩
 exact⟨v,rfl,fun h=>(hw h).mem m',hk w' m'⟩) (h w m a dst pos af g ha))
theorem kD{id:Nat}{l:List (Option Nat×Oper)}(is js:List Nat)(hX:bN is X=some (X1,Xr))(hS:dh js S=some S1)(Xs:List Nat)(L:List (Nat×Option Nat))(hm:P.follows .mixedOrders=true)(hk:(Region.noSelect ops && ep ops Xs L (Array.replicate ops.size false) && decide (L.length≤ops.size))=true)
  (hp:ia ops L=some l) (c:Nat) (h:HT P ops (eP Q) (TT b X1 S1 c) N D 0 l ρ b X S):HC P Q N D (.region id ops true) ρ b X S:=fun w m=>
 Dl Xs L hm hk hp (TT b X1 S1 c) (fun _=>(wk is js hX hS).mem (m.lift (Fr.drew w))) fun w' f _=>h w' (m.lift f)
theorem jM{T:Nat→World→Prop}{o:Oper}{q q' :fM}(h:HP P ops Q T N D k (.alt o q .stop) ρ b X S)(hq:HP P ops Q T N D k q' ρ b X S):HP P ops Q T N D k (.alt o q q') ρ b X S:=fun w m=>GL (h w m) (hq w m)
theorem j2{T:Nat→World→Prop}(h:HQ Q N D .normal ρ b X S):HP P ops (eP Q) T N D k .done ρ b X S:=fun w m=>Ht (h w m)
end
end Go.Eng
end
section
namespace Go.Eng
open Go.RowKit
theorem ek{w:World}{A:Option Addr}{n:Nat}{l:List UInt8}(h:Rd w 1 A n (aT l)):l.length=n∧(0<n→A≠none):=⟨by have:=h.1;rw[aA]at this;omega,h.2.1⟩
theorem eU{w:World}{A:Option Addr}{n sz:Nat}{l:List Value}(h:Rd w sz A n l):l.length=n*sz∧(0<n→A≠none):=⟨h.1,h.2.1⟩
theorem ar{w:World}{g i:Nat}{t:TypeId}{cs:List Value}{v:Value}(h:e8 w g t cs)(hv:cs[i]? =some v):w.cell? ⟨g,i,none⟩=some v:=h.cell hv
theorem Mem.ew{b:cg}{X S:List bg}{w:World}{r r' :bg}(m:Mem b X S w)(i:Nat)(hi:S[i]? =some r)(v:View r r'):Mem b X (r' ::S) w:=m.Ii i hi (v.ok.1 w) v.ok.2
theorem View.trans{a b c:bg}(h:View a b)(k:View b c):View a c:=.of (fun w x=>k.ok.1 w (h.ok.1 w x)) (fun i x=>h.ok.2 i (k.ok.2 i x))
theorem Rd.CX{w:World}{A:Option Addr}{n:Nat}{l:List UInt8}(h:Rd w 1 A n (aT l)){k:Nat}(hk:k≤n):Rd w 1 A k (aT (l.take k)):=by
 have:=Rd.take h hk
 rwa [Nat.mul_one,←AI]at this
theorem yz{l:List UInt8}:aT l≠ []↔l≠ []:=by cases l <;> simp[aT]
theorem View.GV{A:Option Addr}{n k sz:Nat}{xs:List Value}(hk:k≤n):View (cz sz A n xs) (cz sz A k (xs.take (k*sz))):=.of (fun w h=>Rd.take h hk) (fun i h=>by
 obtain⟨hne,a,ha,hi⟩:=h
 exact⟨fun e=>by rw[e]at hne;simp at hne,a,ha,hi⟩)
theorem View.take{A:Option Addr}{n k:Nat}{l:List UInt8}(hk:k≤n):View (cz 1 A n (aT l)) (cz 1 A k (aT (l.take k))):=.of (fun w h=>Rd.CX h hk) (fun i h=>by
 obtain⟨hne,a,ha,hi⟩:=h
 exact⟨yz.2 (fun e=>by rw[e]at hne;simp[aT]at hne),a,ha,hi⟩)
theorem View.drop{A:Option Addr}{n k c:Nat}{l:List UInt8}(hc:n≤c)(hk:k≤n):View (cz 1 A n (aT l)) (cz 1 (if c=k then A else A.map (·.add (k*1))) (n-k) (aT (l.drop k))):=.of (fun w h=>by
  have h1:=Rd.cut h hk hc
  rw[Nat.mul_one,←pQ]at h1
  rw[Nat.mul_one]
  exact h1) (fun i h=>by
 obtain⟨hne,a,ha,hi⟩:=h
 refine⟨yz.2 (fun e=>by rw[e]at hne;simp[aT]at hne), ?_⟩
 split at ha
 ·exact⟨a,ha,hi⟩
 ·cases A with
  |none=>cases ha
  |some q=>
   cases ha
   exact⟨q,rfl,by rw[hi,jt]⟩)
theorem View.sub{A:Option Addr}{n k m c:Nat}{l:List UInt8}(hc:n≤c)(hk:k+m≤n):View (cz 1 A n (aT l)) (cz 1 (if c=k then A else A.map (·.add (k*1))) m (aT ((l.drop k).take m))):=
 (View.drop hc (by omega)).trans (View.take (by omega))
theorem Mem.bw{b:cg}{X S:List bg}{w:World}{r r' :bg}(m:Mem b X S w)(i:Nat)(hi:X[i]? =some r)(h:r=r'):Mem b (r' ::X.eraseIdx i) S w:=by
 subst h
 exact m.perm (ao [i] X [r] (X.eraseIdx i) (by simp[bN,hi]))
theorem Mem.G5{b:cg}{X S Xp:List bg}{w:World}{r:bg}(m:Mem b X S w)(i:Nat)(hi:X[i]? =some (eD Xp))(j:Nat)(hj:Xp[j]? =some r):r.holds w:=(m.hx _ (List.mem_of_getElem? hi)).2 _ (List.mem_of_getElem? hj)
theorem xj{P:Program}{f:Nat}{vs:List Value}{S0:List bg}{u:Value}(h:cf P f vs [] S0 (fun v X S=>v=u∧X=[]∧S=[])){w:World}(hs:∀s∈S0,s.holds w):Calls P f vs.toArray w fun e w' =>e= .returned u∧Fr No w w' :=by
 refine Calls.mono (h w (.start (by simp) (by simp) (by simp) hs)) ?_
 rintro e w' ⟨v,X',S',rfl,⟨rfl,rfl,rfl⟩,m⟩
 exact⟨rfl,m.fr.mono (fun i _ hi=>by obtain⟨r,hr,_⟩:=hi;simp at hr)⟩
theorem lU{P:Program}{f:Nat}{vs:List Value}{S0:List bg}{R:Value→List bg→List bg→Prop}(h:∀{w b},Mem b [] S0 w→Calls P f vs.toArray w fun e w' =>∃v u e_ sz n xs,e= .returned v∧R v [aI e_ sz u n xs] []∧Own w' w.heap.size e_ sz u n xs∧Fr No w w'):cf P f vs [] S0 R:=fun w m=>by
 refine Calls.mono (h m) ?_
 rintro e w' ⟨v,u,e_,sz,n,xs,rfl,hR,ho,hf⟩
 have m0:Mem ⟨w,c6 [],c6 S0⟩ [] [] w:=m.iT (by simp)
 exact⟨v,[aI e_ sz u n xs],[],rfl,hR,m0.cL (r' :=aI e_ sz u n xs) hf ho.Da (fun k hk=>(ho.from hk).1)⟩
structure bh where
 A:Option Addr
 n:Nat
 c:Nat
 l:List UInt8
def bh.val(r:bh):Value:=.slice r.A r.n r.c
def bh.res(r:bh):bg:=cz 1 r.A r.n (aT r.l)
def dI(rows:List bh):bg:=⟨fun k=>∃r∈rows,r.res.db k,fun w=>∀r∈rows,r.res.holds w∧r.n≤r.c,fun f h x r hr=>⟨r.res.gV f (fun k hk=>h k ⟨r,hr,hk⟩) (x r hr).1,(x r hr).2⟩,fun x hk=>by
 obtain⟨r,hr,hk⟩:=hk
 exact r.res.low (x r hr).1 hk⟩
theorem View.row{rows:List bh}{r:bh}{i:Nat}(h:rows[i]? =some r):View (dI rows) (cz 1 r.A r.n (aT r.l)):=
 .of (fun w x=>(x r (List.mem_of_getElem? h)).1) (fun k hk=>⟨r,List.mem_of_getElem? h,hk⟩)
theorem Mem.Ec{b:cg}{X S:List bg}{w:World}{r:bg}(m:Mem b X S w)(i:Nat)(h:S[i]? =some r):r.holds w:=m.hs _ (List.mem_of_getElem? h)
theorem Mem.H0{b:cg}{X S:List bg}{w:World}{r:bg}(m:Mem b X S w)(i:Nat)(h:X[i]? =some r):r.holds w:=m.hx _ (List.mem_of_getElem? h)
section
variable{P:Program}{N:Nat}{D:List Deferred}{ρ:Env}{w:World}{ty t t' :TypeId}{x y:Operand}
theorem so{a:Option Addr}(hx:ev ρ x=some (.pointer a))(hy:ev ρ y=some (.pointer none))(ht:P.underlying t=some (.pointer (P.pointee t))):Yl P N D ρ w (.binOp .eql t x y t') ty (.bool a.isNone):=
 fun _ _ _ _ _ ha=>by
  simp only[execOp,ha.eval hx,ha.eval hy]
  simp[eqGuard,run_eql_pointer_nil (P:=P) w t a ht]
end
section
variable{P:Program}{fn:Func}{R:Value→List bg→List bg→Prop}{N:Nat}{ρ:Env}{b:cg}{X X' Xz S S' :List bg}{e:Exit}
end
end Go.Eng
end
section
namespace Go.Eng
open Go.RowKit
open Go.ChangeMaps (setBlock)
section
variable{κ α:Type}[DecidableEq κ]
def bF:List (κ×α)→κ→Option α
 | [],_=>none
 |(k,v)::r,q=>if k=q then some v else bF r q
def cC:List (κ×α)→κ→α→List (κ×α)
 | [],q,u=>[(q,u)]
 |(k,v)::r,q,u=>if k=q then(k,u)::r else(k,v)::cC r q u
def e7:List (κ×α)→κ→List (κ×α)
 | [],_=>[]
 |(k,v)::r,q=>if k=q then r else(k,v)::e7 r q
def cT(l:List (κ×α)):List κ:=l.map (·.1)
theorem qX:∀(l:List (κ×α)) (q:κ) (u:α),cT (cC l q u)=if q∈cT l then cT l else cT l++[q]
 | [],q,u=>by simp[cT,cC]
 |(k,v)::r,q,u=>by
  have ih:=qX r q u
  unfold cC
  by_cases h:k=q
  ·simp[h,cT]
  ·have h' :¬q=k:=fun e=>h e.symm
   rw[if_neg h]
   simp only[cT,List.map_cons,List.mem_cons,h',false_or]at ih ⊢
   by_cases hm:q∈List.map (fun x=>x.fst) r <;> simp[hm,ih]
theorem lA{l:List κ}{q:κ}(h:l.Nodup)(hq:¬q∈l):(l++[q]).Nodup:=by
 rw[List.nodup_append]
 refine⟨h,by simp,fun a ha b hb e=> ?_⟩
 rcases List.mem_singleton.1 hb with rfl
 exact hq (e▸ha)
theorem fT{l:List (κ×α)}{q:κ}{u:α}(h:(cT l).Nodup):(cT (cC l q u)).Nodup:=by
 rw[qX]
 split
 ·exact h
 ·rename_i hq
  exact lA h hq
theorem qR:∀(l:List (κ×α)) (q:κ),cT (e7 l q)=(cT l).erase q
 | [],q=>by simp[cT,e7]
 |(k,v)::r,q=>by
  have ih:=qR r q
  unfold e7
  by_cases h:k=q
  ·simp[h,cT]
  ·rw[if_neg h]
   simp only[cT,List.map_cons]at ih ⊢
   rw[List.erase_cons,ih]
   simp[h]
theorem lM{l:List (κ×α)}{q:κ}(h:(cT l).Nodup):(cT (e7 l q)).Nodup:=by
 rw[qR]
 exact h.sublist List.erase_sublist
theorem kL{l:List (κ×α)}{q:κ}:bF l q=none↔¬q∈cT l:=by
 induction l with
 |nil=>simp[bF,cT]
 |cons p r ih=>
  obtain⟨k,v⟩:=p
  simp only[bF,cT,List.map_cons,List.mem_cons]at ih ⊢
  by_cases h:k=q
  ·simp[h]
  ·have h' :¬q=k:=fun e=>h e.symm
   rw[if_neg h,ih];simp[h']
theorem ji{l:List (κ×α)}{q:κ}{v:α}(h:bF l q=some v):(q,v)∈l:=by
 induction l with
 |nil=>simp[bF]at h
 |cons p r ih=>
  obtain⟨k,u⟩:=p
  simp only[bF]at h
  split at h
  ·rename_i e;cases h;simp[e]
  ·exact List.mem_cons_of_mem _ (ih h)
theorem n0{l:List (κ×α)}{q:κ}{v:α}(hn:(cT l).Nodup)(h:(q,v)∈l):bF l q=some v:=by
 induction l with
 |nil=>simp at h
 |cons p r ih=>
  obtain⟨k,u⟩:=p
  simp only[cT,List.map_cons,List.nodup_cons]at hn
  simp only[bF]
  rcases List.mem_cons.1 h with e|h
  ·cases e;simp
  ·have:k≠q:=fun e=>hn.1 (by rw[e];exact List.mem_map.2 ⟨_,h,rfl⟩)
   rw[if_neg this]
   exact ih hn.2 h
theorem kS{l:List (κ×α)}{q p:κ}{u:α}:bF (cC l q u) p=if q=p then some u else bF l p:=by
 induction l with
 |nil=>simp only[cC,bF]
 |cons x r ih=>
  obtain⟨k,v⟩:=x
  simp only[cC]
  by_cases h:k=q
  ·subst h
   rw[if_pos rfl]
   simp only[bF]
   split <;> simp_all
  ·rw[if_neg h]
   simp only[bF,ih]
   by_cases h1:k=p
   ·have:¬q=p:=fun e=>h (by rw[h1,e])
    simp[h1,this]
   ·simp[h1]
theorem xl{l:List (κ×α)}{q p:κ}(hn:(cT l).Nodup):bF (e7 l q) p=if q=p then none else bF l p:=by
 induction l with
 |nil=>simp[e7,bF]
 |cons x r ih=>
  obtain⟨k,v⟩:=x
  simp only[cT,List.map_cons,List.nodup_cons]at hn
  simp only[e7]
  by_cases h:k=q
  ·subst h
   rw[if_pos rfl]
   simp only[bF]
   by_cases h1:k=p
   ·subst h1
    rw[if_pos rfl]
    exact kL.2 hn.1
   ·rw[if_neg h1,if_neg h1]
  ·rw[if_neg h]
   simp only[bF,ih hn.2]
   by_cases h1:k=p
   ·have:¬q=p:=fun e=>h (by rw[h1,e])
    simp[h1,this]
   ·simp[h1]
end
structure oD(P:Program)(kt:TypeId){κ:Type}(enc:κ→Value):Prop where
 inj:∀a b,enc a=enc b→a=b
 check:∀w e k,(Instr.checkKey e 10000 kt (enc k)).run P w= .ok () w
 find:∀w (k:κ) (es:List MapEntry),(∀x∈es,∃q,x.key=enc q)→
  (∃i x,es[i]? =some x∧x.key=enc k∧(Instr.findKey kt (enc k) es).run P w= .ok (some (i,x.val)) w)∨((∀x∈es,x.key≠enc k)∧(Instr.findKey kt (enc k) es).run P w= .ok none w)
 stays:∀w k,(Instr.keyThatStays (enc k) (enc k)).run P w= .ok (enc k) w
def SV(s:List UInt8):Value:=.string (strOf s)
def DV(d:List UInt8):Value:=.agg (aT d).toArray
theorem yo{a b:List UInt8}(h:SV a=SV b):a=b:=by
 simp only[SV,Value.string.injEq]at h
 exact cR.1 h
theorem sA{a b:List UInt8}(h:DV a=DV b):a=b:=by
 simp only[DV,Value.agg.injEq]at h
 exact BA (List.toArray_inj h)
theorem zw(a b:ByteArray):(a == b)=decide (a=b):=by
 by_cases h:a=b
 ·subst h
  rw[decide_eq_true rfl]
  cases a with|mk d=>
  show(d == d)=true
  simp
 ·rw[decide_eq_false h]
  cases a with|mk d=>
  cases b with|mk d' =>
  show(d == d')=false
  have:d≠d' :=fun e=>h (by rw[e])
  simpa using this
theorem nN(k:List UInt8):∀(es:List MapEntry) (i:Nat),(∀x∈es,∃q,x.key=SV q)→
  (∃j x,es[j]? =some x∧x.key=SV k∧Instr.findNow .string (SV k) es i=some (some (i+j,x.val)))∨((∀x∈es,x.key≠SV k)∧Instr.findNow .string (SV k) es i=some none)
 | [],i,_=>.inr ⟨by simp,rfl⟩
 |e::es,i,h=>by
  obtain⟨q,hq⟩:=h e (by simp)
  have hs:Instr.sameNow .string (SV k) e.key=some (decide (k=q)):=by
   rw[hq,show Instr.sameNow .string (SV k) (SV q)=some (strOf k == strOf q)from rfl,zw]
   congr 1
   simp only[cR]
  by_cases hk:k=q
  ·refine .inl ⟨0,e,rfl,by rw[hq,hk], ?_⟩
   subst hk
   unfold Instr.findNow
   rw[hs]
   simp
  ·rw[decide_eq_false hk]at hs
   rcases nN k es (i+1) (fun x hx=>h x (by simp[hx]))with⟨j,x,hj,hx,hf⟩|⟨hall,hf⟩
   ·refine .inl ⟨j+1,x,by simpa using hj,hx, ?_⟩
    unfold Instr.findNow
    rw[hs]
    simp only[hf]
    rw[show i+1+j=i+(j+1) by omega]
   ·refine .inr ⟨fun x hx=> ?_, ?_⟩
    ·rcases List.mem_cons.1 hx with rfl|hx
     ·rw[hq];exact fun e=>hk (yo e).symm
     ·exact hall x hx
    ·unfold Instr.findNow
     rw[hs]
     exact hf
theorem kA{P:Program}{kt:TypeId}(ht:P.underlying kt=some .string):oD P kt SV where
 inj _ _:=yo
 check w e k:=by
  unfold Instr.checkKey
  simp[run_underlying ht,SV]
 find w k es h:=by
  rcases nN k es 0 h with⟨j,x,hj,hx,hf⟩|⟨hall,hf⟩
  ·refine .inl ⟨j,x,hj,hx, ?_⟩
   simp[Instr.findKey,run_underlying ht,hf]
  ·exact .inr ⟨hall,by simp[Instr.findKey,run_underlying ht,hf]⟩
 stays w k:=by
  have:Instr.sameBits 10000 (SV k) (SV k)=true:=by
   show(strOf k == strOf k)=true
   rw[zw];simp
  simp[Instr.keyThatStays,this]
section
variable{κ:Type}{enc:κ→Value}
def gI(enc:κ→Value)(w:World)(b:Nat)(l:List (κ×Value)):Prop:=
 ∃es clock,w.heap[b]? =some (.map es clock)∧es.toList.map (fun e=>(e.key,e.val))=l.map (fun p=>(enc p.1,p.2))∧(cT l).Nodup∧(∀e∈es.toList,e.born<clock)∧(es.toList.map (·.born)).Nodup
def dC(enc:κ→Value)(b:Nat)(l:List (κ×Value)):bg where
 db k:=k=b
 holds w:=gI enc w b l
 gV f h m:=by
  obtain⟨es,clock,hb,rest⟩:=m
  exact⟨es,clock,(f.block b (cV hb) (h b rfl)).trans hb,rest⟩
 low m hk:=by
  obtain⟨es,clock,hb,rest⟩:=m
  exact hk▸cV hb
variable{P:Program}{w:World}{b:Nat}{l:List (κ×Value)}{kt et t:TypeId}
theorem gI.keys(h:gI enc w b l):(cT l).Nodup:=by
 obtain⟨_,_,_,_,hn,_⟩:=h
 exact hn
theorem jb{es:List MapEntry}{l:List (κ×Value)}(h:es.map (fun e=>(e.key,e.val))=l.map (fun p=>(enc p.1,p.2))){i:Nat}{x:MapEntry}(hx:es[i]? =some x):∃p,l[i]? =some p∧x.key=enc p.1∧x.val=p.2:=by
 have:=congrArg (fun q:List (Value×Value)=>q[i]?) h
 simp only[List.getElem?_map,hx,Option.map_some]at this
 cases hp:l[i]? with
 |none=>rw[hp]at this;simp at this
 |some p=>
  rw[hp]at this
  simp only[Option.map_some,Option.some.injEq,Prod.mk.injEq]at this
  exact⟨p,rfl,this.1,this.2⟩
theorem tV{es:List MapEntry}{l:List (κ×Value)}(h:es.map (fun e=>(e.key,e.val))=l.map (fun p=>(enc p.1,p.2))):∀x∈es,∃q,x.key=enc q:=by
 intro x hx
 obtain⟨i,hi⟩:=List.mem_iff_getElem?.1 hx
 obtain⟨p,_,hk,_⟩:=jb h hi
 exact⟨p.1,hk⟩
variable[DecidableEq κ]
theorem Be{l:List (κ×Value)}(hn:(cT l).Nodup){i:Nat}{p:κ×Value}(h:l[i]? =some p):bF l p.1=some p.2:=n0 hn (List.mem_of_getElem? h)
theorem gI.found(h:gI enc w b l)(K:oD P kt enc)(k:κ):∃es clock,w.heap[b]? =some (.map es clock)∧es.toList.map (fun e=>(e.key,e.val))=l.map (fun p=>(enc p.1,p.2))∧
    (∀e∈es.toList,e.born<clock)∧(es.toList.map (·.born)).Nodup∧
    ((∃i x,es.toList[i]? =some x∧l[i]? =some (k,x.val)∧bF l k=some x.val∧x.key=enc k∧(Instr.findKey kt (enc k) es.toList).run P w= .ok (some (i,x.val)) w)∨
     (bF l k=none∧(Instr.findKey kt (enc k) es.toList).run P w= .ok none w)):=by
  obtain⟨es,clock,hb,hl,hn,hborn,hnb⟩:=h
  refine⟨es,clock,hb,hl,hborn,hnb, ?_⟩
  rcases K.find w k es.toList (tV hl)with⟨i,x,hi,hx,hf⟩|⟨hall,hf⟩
  · obtain⟨p,hp,hpk,hpv⟩:=jb hl hi
    have e:p.1=k:=K.inj _ _ (hpk.symm.trans hx)
    have hp' :l[i]? =some (k,x.val):=by rw[hp,hpv,←e]
    exact .inl ⟨i,x,hi,hp',by have:=Be hn hp';exact this,hx,hf⟩
  · refine .inr ⟨kL.2 fun hk=> ?_,hf⟩
    obtain⟨p,hp,e⟩:=List.mem_map.1 hk
    obtain⟨i,hi⟩:=List.mem_iff_getElem?.1 hp
    have h1:=congrArg (fun q:List (Value×Value)=>q[i]?) hl
    simp only[List.getElem?_map,hi,Option.map_some]at h1
    cases hx:es.toList[i]? with
    |none=>simp[hx]at h1
    |some x=>
      simp only[hx,Option.map_some,Option.some.injEq,Prod.mk.injEq]at h1
      exact hall x (List.mem_of_getElem? hx) (by rw[h1.1,e])
def ff(ok:Bool)(z:Value)(o:Option Value):Value:=if ok then .tuple #[o.getD z,.bool o.isSome]else o.getD z
theorem qd{z:Value}{sz bytes:Nat}(hT:TI P et z sz bytes):(zeroValue et).run P w= .ok z w:=by
 obtain⟨i,hi,hz,_,_⟩:=hT.get
 simp[zeroValue,typeInfo,hi,hz]
theorem te{z:Value}{sz bytes:Nat}{ok:Bool}(ht:P.underlying t=some (.map kt et))(hT:TI P et z sz bytes)(K:oD P kt enc)(h:gI enc w b l)(k:κ):
  (Instr.lookup t (.map (some b)) (enc k) ok).run P w= .ok (ff ok z (bF l k)) w:=by
 obtain⟨es,clock,hb,hl,hborn,hnb,hf⟩:=h.found K k
 have hg:(getObj b).run P w= .ok (.map es clock) w:=by simp[getObj,Sem.run,hb]
 have hc:=K.check w es.isEmpty k
 have hz:=qd (w:=w) hT
 rcases hf with⟨i,x,hi,hp,ha,hx,hf⟩|⟨ha,hf⟩ <;> cases ok <;> simp[Instr.lookup,run_underlying ht,hg,hc,hf,ha,hz,ff]
theorem dP{o' :Obj}:Fr (fun k=>k=b) w (setBlock w b o'):=
 ⟨rfl,rfl,rfl,by simp[setBlock],fun k hk hn=>by
  simp only[setBlock]
  rw[Array.getElem?_setIfInBounds_ne (fun e=>hn e.symm)]⟩
theorem dV{o o' :Obj}(h:w.heap[b]? =some o):(setBlock w b o').heap[b]? =some o' :=by
 have hlt:=cV h
 simp[setBlock,hlt]
theorem ey{es es' :Array MapEntry}{c c' :Nat}(hb:w.heap[b]? =some (.map es c)):(setObj b (.map es' c')).run P w= .ok () (setBlock w b (.map es' c')):=by
 simp[setObj,Sem.run,hb,setBlock]
theorem o3{l:List (κ×Value)}{k:κ}{v u:Value}:∀{i:Nat},(cT l).Nodup→l[i]? =some (k,u)→cC l k v=l.set i (k,v):=by
 induction l with
 |nil=>intro i _ h;simp at h
 |cons p r ih=>
  intro i hn h
  obtain⟨q,x⟩:=p
  simp only[cT,List.map_cons,List.nodup_cons]at hn
  cases i with
  |zero=>
   simp only[List.getElem?_cons_zero,Option.some.injEq,Prod.mk.injEq]at h
   simp[cC,h.1]
  |succ i=>
   simp only[List.getElem?_cons_succ]at h
   have hne:q≠k:=fun e=>hn.1 (by rw[e];exact List.mem_map.2 ⟨_,List.mem_of_getElem? h,rfl⟩)
   simp only[cC,hne,if_false,List.set_cons_succ]
   rw[ih hn.2 h]
theorem BT{l:List (κ×Value)}{k:κ}{u:Value}:∀{i:Nat},(cT l).Nodup→l[i]? =some (k,u)→e7 l k=l.eraseIdx i:=by
 induction l with
 |nil=>intro i _ h;simp at h
 |cons p r ih=>
  intro i hn h
  obtain⟨q,x⟩:=p
  simp only[cT,List.map_cons,List.nodup_cons]at hn
  cases i with
  |zero=>
   simp only[List.getElem?_cons_zero,Option.some.injEq,Prod.mk.injEq]at h
   simp[e7,h.1]
  |succ i=>
   simp only[List.getElem?_cons_succ]at h
   have hne:q≠k:=fun e=>hn.1 (by rw[e];exact List.mem_map.2 ⟨_,List.mem_of_getElem? h,rfl⟩)
   simp only[e7,hne,if_false,List.eraseIdx_cons_succ]
   rw[ih hn.2 h]
theorem py{l:List (κ×Value)}{k:κ}{v:Value}(h:bF l k=none):cC l k v=l++[(k,v)]:=by
 induction l with
 |nil=>rfl
 |cons p r ih=>
  obtain⟨q,x⟩:=p
  simp only[bF]at h
  split at h
  ·cases h
  ·rename_i hne
   simp only[cC,hne,if_false,ih h,List.cons_append]
theorem xh{l:List (κ×Value)}{k:κ}(h:bF l k=none):e7 l k=l:=by
 induction l with
 |nil=>rfl
 |cons p r ih=>
  obtain⟨q,x⟩:=p
  simp only[bF]at h
  split at h
  ·cases h
  ·rename_i hne
   simp only[e7,hne,if_false,ih h]
theorem tC(ht:P.underlying t=some (.map kt et))(K:oD P kt enc)(h:gI enc w b l)(k:κ)(v:Value):
  ∃w',(Instr.mapUpdate t (.map (some b)) (enc k) v).run P w= .ok () w' ∧gI enc w' b (cC l k v)∧Fr (fun i=>i=b) w w' ∧w'.heap.size=w.heap.size:=by
 have hn:=h.keys
 obtain⟨es,clock,hb,hl,hborn,hnb,hf⟩:=h.found K k
 have hg:(getObj b).run P w= .ok (.map es clock) w:=by simp[getObj,Sem.run,hb]
 have hc:=K.check w false k
 rcases hf with⟨i,x,hi,hp,ha,hx,hf⟩|⟨ha,hf⟩
 ·have hst:=K.stays w k
  have hxi:es[i]? =some x:=by simpa using hi
  refine⟨setBlock w b (.map (es.modify i fun e=>{e with key:=enc k,val:=v}) clock), ?_,⟨_,clock,dV hb, ?_,fT hn, ?_, ?_⟩,dP,by simp[setBlock]⟩
  ·simp[Instr.mapUpdate,run_underlying ht,hg,hc,hf,hxi,hx,hst,ey hb]
  ·rw[o3 hn hp,Array.toList_modify]
   apply List.ext_getElem?
   intro j
   have hj:=congrArg (fun q:List (Value×Value)=>q[j]?) hl
   simp only[List.getElem?_map]at hj
   simp only[List.getElem?_map,List.getElem?_modify,List.getElem?_set]
   by_cases hij:i=j
   ·subst hij
    have hlt:=(List.getElem?_eq_some_iff.1 hp).1
    simp[hi,hlt]
   ·simp only[hij,if_false]
    simpa using hj
  ·intro e he
   rw[Array.toList_modify]at he
   obtain⟨j,hj⟩:=List.mem_iff_getElem?.1 he
   rw[List.getElem?_modify]at hj
   cases hej:es.toList[j]? with
   |none=>rw[hej]at hj;simp at hj
   |some e0=>
    have:=hborn e0 (List.mem_of_getElem? hej)
    rw[hej]at hj
    simp only[Option.map_eq_map,Option.map_some,Option.some.injEq]at hj
    subst hj
    split <;> exact this
  ·have:(es.modify i fun e=>{e with key:=enc k,val:=v}).toList.map (·.born)=es.toList.map (·.born):=by
    apply List.ext_getElem?
    intro j
    rw[Array.toList_modify]
    simp only[List.getElem?_map,List.getElem?_modify]
    cases es.toList[j]? with
    |none=>rfl
    |some e0=>simp only[Option.map_eq_map,Option.map_some];split <;> rfl
   rw[this]
   exact hnb
 ·refine⟨setBlock w b (.map (es.push {key:=enc k,val:=v,born:=clock}) (clock+1)), ?_,⟨_,_,dV hb, ?_,fT hn, ?_, ?_⟩,dP,by simp[setBlock]⟩
  ·simp[Instr.mapUpdate,run_underlying ht,hg,hc,hf,ey hb]
  ·rw[py ha,Array.toList_push,List.map_append,hl]
   simp
  ·intro e he
   rw[Array.toList_push]at he
   rcases List.mem_append.1 he with he|he
   ·have:=hborn e he;omega
   ·rcases List.mem_singleton.1 he with rfl
    exact Nat.lt_succ_self _
  ·rw[Array.toList_push,List.map_append]
   refine lA hnb (fun hm=> ?_)
   obtain⟨e,he,hk⟩:=List.mem_map.1 hm
   have:=hborn e he
   simp only at hk
   omega
theorem map_eraseIdx{α β:Type}(f:α→β):∀(l:List α) (i:Nat),(l.eraseIdx i).map f=(l.map f).eraseIdx i
 | [],i=>by simp
 |a::r,0=>by simp
 |a::r,i+1=>by simp[map_eraseIdx f r i]
theorem sY(ht:P.underlying t=some (.map kt et))(K:oD P kt enc)(h:gI enc w b l)(k:κ)(t' ty:TypeId):
  ∃w',(Builtin.delete_ #[t,t'] ty #[.map (some b),enc k]).run P w= .ok (.tuple #[]) w' ∧gI enc w' b (e7 l k)∧Fr (fun i=>i=b) w w' ∧w'.heap.size=w.heap.size:=by
 have hn:=h.keys
 obtain⟨es,clock,hb,hl,hborn,hnb,hf⟩:=h.found K k
 have hg:(getObj b).run P w= .ok (.map es clock) w:=by simp[getObj,Sem.run,hb]
 have hc:=K.check w es.isEmpty k
 rcases hf with⟨i,x,hi,hp,ha,hx,hf⟩|⟨ha,hf⟩
 ·refine⟨setBlock w b (.map (es.eraseIdxIfInBounds i) clock), ?_,⟨_,clock,dV hb, ?_,lM hn, ?_, ?_⟩,dP,by simp[setBlock]⟩
  ·simp[Builtin.delete_,run_underlying ht,hg,hc,hf,ey hb]
  ·rw[BT hn hp]
   have e1:(es.eraseIdxIfInBounds i).toList=es.toList.eraseIdx i:=by simp
   rw[e1,map_eraseIdx,hl,map_eraseIdx]
  ·intro e he
   have e1:(es.eraseIdxIfInBounds i).toList=es.toList.eraseIdx i:=by simp
   rw[e1]at he
   exact hborn e (List.mem_of_mem_eraseIdx he)
  ·have e1:(es.eraseIdxIfInBounds i).toList=es.toList.eraseIdx i:=by simp
   rw[e1,map_eraseIdx]
   exact hnb.sublist (List.eraseIdx_sublist _ _)
 ·refine⟨setBlock w b (.map es clock), ?_,⟨es,clock,dV hb,by rw[xh ha];exact hl,lM hn,hborn,hnb⟩,dP,by simp[setBlock]⟩
  simp[Builtin.delete_,run_underlying ht,hg,hc,hf,ey hb]
end
end Go.Eng
end
section
namespace Go.Eng
open Go.RowKit
open Go.ChangeMaps (setBlock)
def tX{κ:Type}(enc:κ→Value)(w:World)(r b:Nat)(l left:List (κ×Value))(cur:Option (κ×Value)):Prop:=
 ∃es clock since seen,r≠b∧w.heap[b]? =some (.map es clock)∧w.heap[r]? =some (.mapIter (some b) since seen clock)∧since≤clock∧es.toList.map (fun e=>(e.key,e.val))=l.map (fun p=>(enc p.1,p.2))∧(cT l).Nodup∧
  (∀e∈es.toList,e.born<clock)∧(∀e∈es.toList,e.born<since)∧(es.toList.map (·.born)).Nodup∧(leftOf es seen).toList.map (fun e=>(e.key,e.val))=left.map (fun p=>(enc p.1,p.2))∧
  ∀p,cur=some p→∃(e:MapEntry) (seen' :Array Nat),e∈es.toList∧seen=seen'.push e.born∧e.key=enc p.1∧e.val=p.2
def oB{κ:Type}(enc:κ→Value)(r b:Nat)(l left:List (κ×Value))(cur:Option (κ×Value)):bg where
 db k:=k=r∨k=b
 holds w:=tX enc w r b l left cur
 gV f h m:=by
  obtain⟨es,clock,since,seen,hne,hb,hr,rest⟩:=m
  exact⟨es,clock,since,seen,hne,(f.block b (cV hb) (h b (.inr rfl))).trans hb,(f.block r (cV hr) (h r (.inl rfl))).trans hr,rest⟩
 low m hk:=by
  obtain⟨es,clock,since,seen,hne,hb,hr,rest⟩:=m
  rcases hk with rfl|rfl
  ·exact cV hr
  ·exact cV hb
theorem filter_push{α:Type}{f:α→Nat}:∀{L:List α} {j:Nat} {e:α},(L.map f).Nodup→L[j]? =some e→L.filter (fun x=>decide (f x≠f e))=L.eraseIdx j
 | [],j,e,_,h=>by simp at h
 |a::r,0,e,hn,h=>by
  simp only[List.getElem?_cons_zero,Option.some.injEq]at h
  subst h
  simp only[List.map_cons,List.nodup_cons]at hn
  rw[List.filter_cons_of_neg (by simp),List.eraseIdx_cons_zero,List.filter_eq_self]
  intro x hx
  have:f x≠f a:=fun e=>hn.1 (by rw[←e];exact List.mem_map.2 ⟨x,hx,rfl⟩)
  simpa using this
 |a::r,j+1,e,hn,h=>by
  simp only[List.getElem?_cons_succ]at h
  simp only[List.map_cons,List.nodup_cons]at hn
  have:f a≠f e:=fun e' =>hn.1 (by rw[e'];exact List.mem_map.2 ⟨e,List.mem_of_getElem? h,rfl⟩)
  rw[List.filter_cons_of_pos (by simpa using this),List.eraseIdx_cons_succ,filter_push hn.2 h]
theorem tO{es:Array MapEntry}{seen:Array Nat}{j:Nat}{e:MapEntry}(hn:(es.toList.map (·.born)).Nodup)(h:(leftOf es seen).toList[j]? =some e):(leftOf es (seen.push e.born)).toList=(leftOf es seen).toList.eraseIdx j:=by
 have hs:((leftOf es seen).toList.map (·.born)).Nodup:=by
  unfold leftOf
  rw[Array.toList_filter]
  exact hn.sublist (List.Sublist.map _ List.filter_sublist)
 rw[←filter_push (f:=(·.born)) hs h]
 unfold leftOf
 rw[Array.toList_filter,Array.toList_filter,List.filter_filter]
 congr 1
 funext x
 simp only[Array.contains_push]
 by_cases h1:x.born=e.born
 ·simp[h1]
 ·have:¬e.born=x.born:=fun e' =>h1 e'.symm
  simp[h1,this]
section
variable{P:Program}{Q:Exit→Act→World→Prop}{N:Nat}{D:List Deferred}{ρ:Env}{b:cg}{X S:List bg}{ty t t' kt et:TypeId}{x y z:Operand}{v:Value}{K:Value→List bg→List bg→Prop}
variable{κ:Type}[DecidableEq κ]{enc:κ→Value}{g:Nat}{l:List (κ×Value)}
theorem gn{w:World}{zv:Value}{sz bytes:Nat}{ok:Bool}{k:κ}(hx:ev ρ x=some (.map (some g)))(hy:ev ρ y=some (enc k))(ht:P.underlying t=some (.map kt et))(hT:TI P et zv sz bytes)(KK:oD P kt enc)(h:gI enc w g l):
  Yl P N D ρ w (.lookup t x y ok) ty (ff ok zv (bF l k)):=fun a _ _ _ _ ha=>by
 have:=te (ok:=ok) ht hT KK h k
 simp[execOp,ha.eval hx,ha.eval hy,this]
theorem Mem.mr{w:World}(m:Mem b X S w)(i:Nat)(h:X[i]? =some (dC enc g l)):gI enc w g l:=m.hx _ (List.mem_of_getElem? h)
theorem pd{k:κ}(i:Nat)(hi:X[i]? =some (dC enc g l))(hx:ev ρ x=some (.map (some g)))(hy:ev ρ y=some (enc k))(hz:ev ρ z=some v)(ht:P.underlying t=some (.map kt et))(KK:oD P kt enc)
  (k' :K undef (dC enc g (cC l k v)::X.eraseIdx i) S):XH P Q N D ρ b X S (.mapUpdate t x y z) ty K:=fun w m=>by
 obtain⟨w',hr,hm,hf,hs⟩:=tC (P:=P) ht KK (m.mr i hi) k v
 refine jK (w' :=w') (fun a _ _ _ _ ha=> ?_) ⟨_,_, ?_,k'⟩
 ·simp[execOp,ha.eval hx,ha.eval hy,ha.eval hz,hr]
 ·have m' :=m.perm (ao [i] X [dC enc g l] (X.eraseIdx i) (by simp[bN,hi]))
  exact m'.change (r' :=dC enc g (cC l k v)) hf hm (fun k hk=>.inl hk)
theorem xN{k:κ}(i:Nat)(hi:X[i]? =some (dC enc g l))(hx:ev ρ x=some (.map (some g)))(hy:ev ρ y=some (enc k))(ht:P.underlying t=some (.map kt et))(KK:oD P kt enc)
  (k' :K (.tuple #[]) (dC enc g (e7 l k)::X.eraseIdx i) S):XH P Q N D ρ b X S (.call ⟨.builtin .delete, #[x,y], #[t,t']⟩) ty K:=fun w m=>by
 obtain⟨w',hr,hm,hf,hs⟩:=sY (P:=P) ht KK (m.mr i hi) k t' ty
 refine cZ (v' :=.tuple #[]) (w' :=w') (fun a _ _ _ _ ha=> ?_) ⟨_,_, ?_,k'⟩
 ·simp[execOp,resolve,invoke,builtin,ha.eval hx,ha.eval hy,hr]
 ·have m' :=m.perm (ao [i] X [dC enc g l] (X.eraseIdx i) (by simp[bN,hi]))
  exact m'.change (r' :=dC enc g (e7 l k)) hf hm (fun k hk=>.inl hk)
theorem xv(enc:κ→Value)(w:World):gI enc (w.alloc (.map #[] 0)) w.heap.size ([]:List (κ×Value)):=⟨#[],0,heap_alloc_new w _,rfl,by simp[cT],by simp,by simp⟩
theorem mH(enc:κ→Value)(k:∀g,K (.map (some g)) (dC enc g ([]:List (κ×Value))::X) S):XH P Q N D ρ b X S (.makeMap t none) ty K:=fun w m=>by
 refine cZ (v' :=.map (some w.heap.size)) (w' :=w.alloc (.map #[] 0)) (fun a _ _ _ _ ha=> ?_) ⟨_,_,m.cL (r' :=dC enc w.heap.size ([]:List (κ×Value))) (Fr.alloc w _) (xv enc w) (fun k hk=>Nat.le_of_eq (Eq.symm hk)),k _⟩
 simp[execOp,Instr.makeMap,newObj,Sem.run]
theorem sh(es:Array MapEntry):leftOf es #[]=es:=by
 unfold leftOf
 rw[Array.filter_eq_self]
 intro e _
 simp
theorem z7(i:Nat)(hi:X[i]? =some (dC enc g l))(hx:ev ρ x=some (.map (some g)))(ht:P.underlying t=some (.map kt et))(k:∀r,K (.pointer (some ⟨r,0,none⟩)) (oB enc r g l l none::X.eraseIdx i) S):XH P Q N D ρ b X S (.range t x) ty K:=fun w m=>by
 obtain⟨es,clock,hb,hl,hn,hborn,hnb⟩:=m.mr i hi
 have hg:(getObj g).run P w= .ok (.map es clock) w:=by simp[getObj,Sem.run,hb]
 refine cZ (v' :=.pointer (some ⟨w.heap.size,0,none⟩)) (w' :=w.alloc (.mapIter (some g) clock #[] clock)) (fun a _ _ _ _ ha=> ?_) ⟨_,_, ?_,k _⟩
 ·simp[execOp,ha.eval hx,Instr.range,run_underlying ht,hg,newObj,Sem.run]
 ·have m' :=m.perm (ao [i] X [dC enc g l] (X.eraseIdx i) (by simp[bN,hi]))
  have hlt:=cV hb
  have hf:=Fr.alloc w (.mapIter (some g) clock #[] clock)
  have hb' :=(hf.block g hlt (fun e=>e)).trans hb
  refine m'.change (r' :=oB enc w.heap.size g l l none) (hf.mono (fun _ _ e=>e.elim)) ⟨es,clock,clock, #[],by omega,hb',heap_alloc_new w _,Nat.le_refl _,hl,hn,hborn,hborn,hnb,by rw[sh,hl],fun p hp=>by cases hp⟩ (fun k hk=> ?_)
  rcases hk with rfl|rfl
  ·exact .inr (Nat.le_refl _)
  ·exact .inl rfl
theorem BF{r:Nat}{left:List (κ×Value)}{cur:Option (κ×Value)}(i:Nat)(hi:X[i]? =some (oB enc r g l left cur))(hx:ev ρ x=some (.pointer (some ⟨r,0,none⟩)))
  (h0:left=[]→K (.tuple #[.bool false]) X S) (h1:∀j p,left[j]? =some p→K (.tuple #[.bool true,enc p.1,p.2]) (oB enc r g l (left.eraseIdx j) (some p)::X.eraseIdx i) S):XH P Q N D ρ b X S (.next x false) ty K:=fun w m=>by
 have hm:tX enc w r g l left cur:=m.hx _ (List.mem_of_getElem? hi)
 obtain⟨es,clock,since,seen,hne,hb,hr,hsc,hl,hn,hborn,hsince,hnb,hleft,hcur⟩:=hm
 rcases run_next_at (P:=P) w ty r g since clock seen es clock hr hb hsince hsc with⟨h0',hrun⟩|⟨e,he,w1,hw1,hrun⟩
 ·have hz:left=[]:=by
   have:=congrArg List.length hleft
   simp only[List.length_map,Array.length_toList,h0']at this
   exact List.eq_nil_of_length_eq_zero this.symm
  exact cZ (fun a _ _ _ _ ha=>by simp[execOp,ha.eval hx,hrun]) ⟨X,S,m,h0 hz⟩
 ·obtain⟨j,hj⟩:=List.mem_iff_getElem?.1 he
  obtain⟨p,hp,hpk,hpv⟩:=jb hleft hj
  have hfr:Fr No w w1:=by rcases hw1 with rfl|rfl;exact .refl _ _;exact Fr.drew w
  have m1:=m.lift hfr
  have hr1:w1.heap[r]? =some (.mapIter (some g) since seen clock):=(hfr.block r (cV hr) (fun e=>e)).trans hr
  have hb1:w1.heap[g]? =some (.map es clock):=(hfr.block g (cV hb) (fun e=>e)).trans hb
  have m' :=m1.perm (ao [i] X [oB enc r g l left cur] (X.eraseIdx i) (by simp[bN,hi]))
  have hmem:e∈es.toList:=by
   unfold leftOf at he
   rw[Array.toList_filter]at he
   exact(List.mem_filter.1 he).1
  refine cZ (v' :=.tuple #[.bool true,enc p.1,p.2]) (w' :=setBlock w1 r (.mapIter (some g) since (seen.push e.born) clock)) (fun a _ _ _ _ ha=>by simp[execOp,ha.eval hx,hrun,hpk,hpv]) ⟨_,_, ?_,h1 j p hp⟩
  have hb2:=(dP (w:=w1) (b:=r) (o' :=.mapIter (some g) since (seen.push e.born) clock)).block g (cV hb1) (fun e=>hne e.symm)
  have hl2:(leftOf es (seen.push e.born)).toList.map (fun e=>(e.key,e.val))=(left.eraseIdx j).map (fun p=>(enc p.1,p.2)):=by rw[tO hnb hj,map_eraseIdx,hleft,map_eraseIdx]
  refine m'.change (r' :=oB enc r g l (left.eraseIdx j) (some p)) (dP.mono (fun k _ hk=>.inl hk)) ⟨es,clock,since,seen.push e.born,hne,hb2.trans hb1,dV hr1,hsc,hl,hn,hborn,hsince,hnb,hl2,fun q hq=> ?_⟩ (fun k hk=>.inl hk)
  cases hq
  exact⟨e,seen,hmem,rfl,hpk,hpv⟩
theorem Mem.Hz{w:World}{r:Nat}{left:List (κ×Value)}{cur:Option (κ×Value)}(m:Mem b X S w)(i:Nat)(h:X[i]? =some (oB enc r g l left cur)):tX enc w r g l left cur:=m.hx _ (List.mem_of_getElem? h)
theorem yr{w:World}{r:Nat}{left:List (κ×Value)}{p:κ×Value}(hx:ev ρ x=some (.pointer (some ⟨r,0,none⟩)))(h:tX enc w r g l left (some p)):Yl P N D ρ w (.entry x) ty (.tuple #[enc p.1,p.2]):=fun a _ _ _ _ ha=>by
 obtain⟨es,clock,since,seen,hne,hb,hr,hsc,hl,hn,hborn,hsince,hnb,hleft,hcur⟩:=h
 obtain⟨e,seen',he,rfl,hk,hv⟩:=hcur p rfl
 have:=run_entry_at (P:=P) w r g since seen' es clock e hr hb he hnb
 simp[execOp,ha.eval hx,this,hk,hv]
theorem Bz{w:World}{r:Nat}{left:List (κ×Value)}{cur:Option (κ×Value)}(h:tX enc w r g l left cur):gI enc w g l:=by
 obtain⟨es,clock,since,seen,hne,hb,hr,hsc,hl,hn,hborn,hsince,hnb,hleft,hcur⟩:=h
 exact⟨es,clock,hb,hl,hn,hborn,hnb⟩
theorem Mem.Ds{w:World}{r:Nat}{left:List (κ×Value)}{cur:Option (κ×Value)}(m:Mem b X S w)(i:Nat)(h:X[i]? =some (oB enc r g l left cur)):Mem b (dC enc g l::X.eraseIdx i) S w:=by
 have m' :=m.perm (ao [i] X [oB enc r g l left cur] (X.eraseIdx i) (by simp[bN,h]))
 exact m'.G8 (r' :=dC enc g l) Bz (fun k hk=>.inr hk)
end
abbrev Dg:={l:List UInt8//l.length=32}
def DK(d:Dg):Value:=DV d.1
theorem pr(n:Nat):∀l:List UInt8,((aT l).zip (aT l)).all (fun(x,y)=>Instr.sameBits n x y)=true
 | []=>rfl
 |a::r=>by
  have:=pr n r
  simp only[aT,List.map_cons,List.zip_cons_cons,List.all_cons,Bool.and_eq_true]at this ⊢
  refine⟨?_,this⟩
  cases n <;> simp[Instr.sameBits,B8]
theorem sf{P:Program}{kt e:TypeId}{n:Nat}(hn:n=32)(ht:P.underlying kt=some (.array n e))(he:P.underlying e=some (.int .u8))(hs:P.cellsOf kt=n)(hse:P.cellsOf e=1)(hk:P.keyTypeAt 2 kt=true):oD P kt DK where
 inj a b h:=Subtype.ext (sA h)
 check w em d:=by
  subst hn
  have h1:(DK d).formed P kt=true:=by simp[Value.formed,DK,DV,ht,aA,d.2,hs]
  have h2:=fk (P:=P) (D:=0) (l:=d.1) ht he hs hse d.2
  exact run_checkKey_deep em 9998 2 kt hk w 2 (DK d) _ h1 (by simpa[DK,DV,Value.cells]using h2)
 find w k es h:=by
  subst hn
  have hag:c5 P kt=some true:=by simp[c5,ht]
  have heq:∀q:Dg,(Op.equal kt (DK k) (DK q)).run P w= .ok (decide (k=q)) w:=fun q=>by
   have h2:=fk (P:=P) (D:=0) (l:=k.1) ht he hs hse k.2
   have h3:=fk (P:=P) (D:=0) (l:=q.1) ht he hs hse q.2
   exact lW (m:=2) (p:=k=q) (by decide) hk hag (by rw[aA,hs];exact k.2) (by rw[aA,hs];exact q.2) h2 h3 (by rw[iI];exact⟨fun e=>Subtype.ext e,fun e=>by rw[e]⟩)
  have hnow:∀(es:List MapEntry) (i:Nat),es≠ []→Instr.findNow (.array 32 e) (DK k) es i=none:=fun es i hne=>by
   cases es with
   |nil=>exact absurd rfl hne
   |cons x r=>rfl
  have hask:∀(es:List MapEntry) (i:Nat),(∀x∈es,∃q,x.key=DK q)→(∃j x,es[j]? =some x∧x.key=DK k∧(Instr.findAsking kt (DK k) es i).run P w= .ok (some (i+j,x.val)) w)∨((∀x∈es,x.key≠DK k)∧(Instr.findAsking kt (DK k) es i).run P w= .ok none w):=by
   intro es
   induction es with
   |nil=>intro i _;exact .inr ⟨by simp,rfl⟩
   |cons x r ih=>
    intro i h
    obtain⟨q,hq⟩:=h x (by simp)
    have hx:=heq q
    rw[←hq]at hx
    by_cases hkq:k=q
    ·rw[decide_eq_true hkq]at hx
     exact .inl ⟨0,x,rfl,by rw[hq,hkq],by simp[Instr.findAsking,hx]⟩
    ·rw[decide_eq_false hkq]at hx
     rcases ih (i+1) (fun y hy=>h y (by simp[hy]))with⟨j,y,hj,hy,hf⟩|⟨hall,hf⟩
     ·refine .inl ⟨j+1,y,by simpa using hj,hy, ?_⟩
      simp[Instr.findAsking,hx,hf]
      omega
     ·refine .inr ⟨fun y hy=> ?_,by simp[Instr.findAsking,hx,hf]⟩
      rcases List.mem_cons.1 hy with rfl|hy
      ·rw[hq];exact fun e=>hkq (Subtype.ext (sA e)).symm
      ·exact hall y hy
  cases es with
  |nil=>exact .inr ⟨by simp,by simp[Instr.findKey,run_underlying ht,Instr.findNow]⟩
  |cons x r=>
   have h0:=hnow (x::r) 0 (by simp)
   rcases hask (x::r) 0 h with⟨j,y,hj,hy,hf⟩|⟨hall,hf⟩
   ·refine .inl ⟨j,y,hj,hy, ?_⟩
    simp[Instr.findKey,run_underlying ht,h0,hf]
   ·exact .inr ⟨hall,by simp[Instr.findKey,run_underlying ht,h0,hf]⟩
 stays w k:=by
  have:Instr.sameBits 10000 (DK k) (DK k)=true:=by
   show((aT k.1).toArray.size == (aT k.1).toArray.size && ((aT k.1).toArray.toList.zip (aT k.1).toArray.toList).all fun(x,y)=>Instr.sameBits 9999 x y)=true
   simp only[beq_self_eq_true,Bool.true_and]
   exact pr 9999 k.1
  simp[Instr.keyThatStays,this]
theorem El {P : Program} {Q : Exit → Act → World → Prop} {N : Nat} {D : List Deferred} {ρ : Env} {b : cg} {X S : List bg} {ty : TypeId} {K : Value → List bg → List bg → Prop} {f : Nat} {fn : Func} {l : List Operand} {vs : List Value} {tys : Array TypeId} {g : Array Value → Sem Value} (hv : mP ρ l = some vs) (hf : P.funcs[f]? = some fn) (hname : (fn.name == "runtime.NumGoroutine") = false)
    (hb:fn.body.isNone=true) (hn:Extern.findNext fn=none) (he:Extern.find fn=some g) (hr:∀w,Mem b X S w→∃v w' X' S',(g vs.toArray).run P w= .ok v w' ∧Mem b X' S' w' ∧K v X' S'):XH P Q N D ρ b X S (.call ⟨.value (.func f),l.toArray,tys⟩) ty K:=fun w m=>by
  obtain⟨v,w',X',S',hrun,m',k⟩:=hr w m
  refine cZ (v' :=v) (w' :=w') (fun a _ _ _ _ ha=> ?_) ⟨X',S',m',k⟩
  simp[execOp,resolve,Deferred.ofValue,Act.eval,invoke,ha.gM hv,run_callFunc_extern hf hname hb hn he,hrun]
theorem An{P:Program}{κ:Type}[DecidableEq κ]{enc:κ→Value}{b:cg}{X S:List bg}{w:World}{g:Nat}{l:List (κ×Value)}{t:TypeId}(m:Mem b X S w)(i:Nat)(hi:X[i]? =some (dC enc g l)):
    ∃g' w',(Extern.MapsClone.clone #[.iface t (.map (some g))]).run P w= .ok (.iface t (.map (some g'))) w' ∧Mem b (dC enc g' l::X) S w' :=by
  obtain⟨es,clock,hb,rest⟩:=m.mr i hi
  have hg:(getObj g).run P w= .ok (.map es clock) w:=by simp[getObj,Sem.run,hb]
  refine⟨w.heap.size,w.alloc (.map es clock), ?_,m.cL (r' :=dC enc w.heap.size l) (Fr.alloc w _) ⟨es,clock,heap_alloc_new w _,rest⟩ (fun k hk=>Nat.le_of_eq (Eq.symm hk))⟩
  have e:Extern.MapsClone.clone #[.iface t (.map (some g))]=(do
    let .map entries clock ← getObj g | stuck "maps.clone: a map expected"
    pure (.iface t (.map (some (←newObj (.map entries clock)))))):=rfl
  rw[e]
  simp[hg,newObj,Sem.run]
theorem Mem.yD{b:cg}{X S:List bg}{w:World}(m:Mem b X S w):Mem b (dI []::X) S w:=m.cL (r' :=dI []) (.refl _ _) (fun r hr=>by cases hr) (fun k hk=>by obtain⟨r,hr,_⟩:=hk;cases hr)
theorem Mem.zR{b:cg}{X S:List bg}{w:World}{rows rows' :List bh}{e:TypeId}{A:Option Addr}{n c:Nat}{l:List UInt8}(m:Mem b (dI rows::aI e 1 (.slice A n c) n (aT l)::X) S w)(h:∀r∈rows',r∈rows∨r=⟨A,n,c,l⟩):Mem b (dI rows' ::X) S w:=by
 refine m.merge (r:=dI rows') (fun h1 h2 r hr=> ?_) (fun k hk=> ?_)
 ·rcases h r hr with h' |rfl
  ·exact h1 r h'
  ·obtain⟨_,h3,h4⟩:=Own.rd h2
   exact⟨h4,h3⟩
 ·obtain⟨r,hr,hk⟩:=hk
  rcases h r hr with h' |rfl
  ·exact .inl ⟨r,h',hk⟩
  ·exact .inr (View.own.ok.2 k hk)
theorem Mem.yp{b:cg}{X S:List bg}{w:World}{rows rows' :List bh}(m:Mem b (dI rows::X) S w)(h:∀r∈rows',r∈rows):Mem b (dI rows' ::X) S w:=
 m.G8 (r' :=dI rows') (fun h1 r hr=>h1 r (h r hr)) (fun k hk=>by
  obtain⟨r,hr,hk⟩:=hk
  exact⟨r,h r hr,hk⟩)
theorem xw {P : Program} {Q : Exit → Act → World → Prop} {N : Nat} {D : List Deferred} {ρ : Env} {b : cg} {X S : List bg} {ty t : TypeId} {K : Value → List bg → List bg → Prop} {κ : Type} [DecidableEq κ] {enc : κ → Value} {g : Nat} {l : List (κ × Value)} {f : Nat} {fn : Func} {x : Operand} {tys : Array TypeId} (i : Nat) (hi : X[i]? = some (dC enc g l)) (hx : ev ρ x = some (.iface t (.map (some g)))) (hf : P.funcs[f]? = some fn) (hname : (fn.name == "runtime.NumGoroutine") = false)
    (hb:fn.body.isNone=true) (hn:Extern.findNext fn=none) (he:Extern.find fn=some Extern.MapsClone.clone) (k:∀g',K (.iface t (.map (some g'))) (dC enc g' l::X) S):XH P Q N D ρ b X S (.call ⟨.value (.func f), #[x],tys⟩) ty K:=
  El (l:=[x]) (vs:=[.iface t (.map (some g))]) (by simp[mP,hx]) hf hname hb hn he fun w m=>by
    obtain⟨g',w',hrun,m'⟩:=An (P:=P) (t:=t) m i hi
    exact⟨_,w',_,_,hrun,m',k g'⟩
theorem Et{P:Program}{N:Nat}{D:List Deferred}{ρ:Env}{w:World}{ty t t' kt et:TypeId}{x y:Operand}{r:Option Nat}(hx:ev ρ x=some (.map r))(hy:ev ρ y=some (.map none))(ht:P.underlying t=some (.map kt et)):Yl P N D ρ w (.binOp .eql t x y t') ty (.bool r.isNone):=fun _ _ _ _ _ ha=>by
 simp only[execOp,ha.eval hx,ha.eval hy]
 simp[eqGuard,run_eql_map_nil w t kt et r ht]
theorem yj{P:Program}{Q:Exit→Act→World→Prop}{N:Nat}{D:List Deferred}{ρ:Env}{b:cg}{X S:List bg}{ty t e0 e:TypeId}{K:Value→List bg→List bg→Prop}{g n c sz:Nat}{xs:List Value}{x:Operand}(i:Nat)(hi:X[i]? =some (aI e sz (.slice (some ⟨g,0,none⟩) n c) n xs))(hx:ev ρ x=some (.slice (some ⟨g,0,none⟩) n c))(ht:P.underlying t=some (.slice e0))(he:P.underlying e0=some (.int .u8))
  (k:K (.slice (some ⟨g,0,none⟩) n c) (aI e sz (.slice (some ⟨g,0,none⟩) n c) n xs::X.eraseIdx i) S):XH P Q N D ρ b X S (.convert t t x) ty K:=fun w m=>by
 have ho:=m.own i hi
 rcases ho with⟨hl,⟨h1,_⟩|⟨g',o,cap,cur,h1,hb,hg,hn,hm,hc,hxs⟩⟩
 ·cases h1
 ·cases h1
  refine FY hx ht he hg fun w' hf hb' hsz=>⟨_,_, ?_,k⟩
  have m' :=m.perm (ao [i] X [aI e sz (.slice (some ⟨g,0,none⟩) n c) n xs] (X.eraseIdx i) (by simp[bN,hi]))
  exact m'.change (r' :=aI e sz (.slice (some ⟨g,0,none⟩) n c) n xs) hf ⟨hl,.inr ⟨g,0,c,cur,rfl,Nat.zero_le _,hb',hn,hm,hc,hxs⟩⟩ (fun k hk=>.inl hk)
section
variable{P:Program}{Q:Exit→Act→World→Prop}{N:Nat}{D:List Deferred}{ρ:Env}{b:cg}{X X' X0 Xr S S' S0:List bg}{ty dt:TypeId}{x:Operand}{v recv:Value}{m' :String}{f:Nat}{l:List Operand}{vs:List Value}{tys:Array TypeId}{R:Value→List bg→List bg→Prop}{K:Value→List bg→List bg→Prop}
theorem GQ{w:World}{R:Ending→World→Prop}{K:Value→World→Prop}(hx:ev ρ x=some (.iface dt v))(hv:mP ρ l=some vs)(hm:∀w,(Go.method (P.types.size+Made.depth) dt v m').run P w= .ok (f,recv) w)(hf:∀args w,(callFunc f args).run P w= .ok (.enter f args) w)
  (hc:Calls P f (recv::vs).toArray w R) (hR:∀e w',R e w' →∃v,e= .returned v∧K v w'):XW P Q N D ρ w (.call ⟨.invoke x m',l.toArray,tys⟩) ty K:=by
 intro a dst pos af g ha
 unfold Oper.wp
 have h0:(program).run P w= .ok P w:=rfl
 have:(execOp a.eval ⟨dst,.call ⟨.invoke x m',l.toArray,tys⟩,ty,pos,af,g⟩).run P w= .ok (.enter f (recv::vs).toArray) w:=by
  have e:(#[recv]++vs.toArray)=(recv::vs).toArray:=by simp
  have:=hf (#[recv]++vs.toArray) w
  simp[execOp,resolve,invoke,callMethod,h0,ha.gM hv,ha.eval hx,hm]
  simpa using this
 rw[this]
 refine Calls.mono hc ?_
 intro e w' he
 obtain⟨v,rfl,hk⟩:=hR e w' he
 exact⟨v,rfl,hk⟩
theorem yG(hx:ev ρ x=some (.iface dt v))(hv:mP ρ l=some vs)(hm:∀w,(Go.method (P.types.size+Made.depth) dt v m').run P w= .ok (f,v) w)(hf:∀args w,(callFunc f args).run P w= .ok (.enter f args) w)
  (hc:cf P f (v::vs) X0 S0 R) (is:List Nat) (hX:bN is X=some (X0,Xr)) (js:List Nat) (hS:dh js S=some S0) (k:∀v X' S',R v X' S' →K v (X' ++Xr) (S' ++S)):XH P Q N D ρ b X S (.call ⟨.invoke x m',l.toArray,tys⟩) ty K:=fun w m=>by
 have m1:=m.perm (ao _ _ _ _ hX)
 refine GQ hx hv hm hf (hc w (m1.part (cb _ _ _ hS))) ?_
 rintro e w' ⟨v,X',S',rfl,hR,m'⟩
 exact⟨v,rfl,_,_,m1.frame (cb _ _ _ hS) m',k v X' S' hR⟩
theorem zy{w:World}{name:String}{t:TypeId}{u:Value}{c:Array Value}(hx:ev ρ x=some (.func (.method name) #[.iface t u] c))(hn:(nilAhead (P.types.size+Made.depth) t u name).run P w= .ok (some false) w):Yl P N D ρ w (.nilCheck x) ty (.func (.method name) #[.iface t u] c):=fun _ _ _ _ _ ha=>by
 have h0:(program).run P w= .ok P w:=rfl
 simp[execOp,ha.eval hx,h0,hn]
end
section
variable{P:Program}{ops:Array Oper}{Q:Exit→Act→World→Prop}{N:Nat}{D:List Deferred}{ρ:Env}{b:cg}{X X' Xr S S' :List bg}{rest:List Oper}{ty:TypeId}{pos:String}{af:Array Edge}
theorem Ad{f:Nat}{l:List Operand}{vs:List Value}{tys:Array TypeId}(hv:mP ρ l=some vs)(k:HL P ops Q N (⟨.fn (.func f) #[],vs.toArray⟩::D) rest ρ b X S):HL P ops Q N D (⟨none,.defer ⟨.value (.func f),l.toArray,tys⟩,ty,pos,af,none⟩::rest) ρ b X S:=fun w m a ha=>by
 unfold wpList
 rw[if_pos (by simp[Region.wanted])]
 refine .inl ?_
 unfold Oper.wp
 have:(execOp a.eval ⟨none,.defer ⟨.value (.func f),l.toArray,tys⟩,ty,pos,af,none⟩).run P w= .ok (.defer ⟨.fn (.func f) #[],vs.toArray⟩) w:=by
  simp[execOp,resolve,Deferred.ofValue,Act.eval,ha.gM hv]
 rw[this]
 refine k w m _ ⟨ha.sz, ?_,ha.gt⟩
 show _::a.defers=_
 rw[ha.df]
theorem vL{f:Nat}{x:Operand}{l:List Operand}{vs first cap:List Value}{tys:Array TypeId}(hx:ev ρ x=some (.func (.func f) first.toArray cap.toArray))(hv:mP ρ l=some vs)(k:HL P ops Q N (⟨.fn (.func f) cap.toArray,(first++vs).toArray⟩::D) rest ρ b X S):
  HL P ops Q N D (⟨none,.defer ⟨.value x,l.toArray,tys⟩,ty,pos,af,none⟩::rest) ρ b X S:=fun w m a ha=>by
 unfold wpList
 rw[if_pos (by simp[Region.wanted])]
 refine .inl ?_
 unfold Oper.wp
 have:(execOp a.eval ⟨none,.defer ⟨.value x,l.toArray,tys⟩,ty,pos,af,none⟩).run P w= .ok (.defer ⟨.fn (.func f) cap.toArray,(first++vs).toArray⟩) w:=by
  simp[execOp,resolve,Deferred.ofValue,ha.eval hx,ha.gM hv]
 rw[this]
 refine k w m _ ⟨ha.sz, ?_,ha.gt⟩
 show _::a.defers=_
 rw[ha.df]
end
theorem wb{P:Program}{f:Nat}{fn:Func}{c:Code}{vs:List Value}{R:Value→List bg→List bg→Prop}{N:Nat}{X0 S0:List bg}(hf:P.funcs[f]? =some fn)(hb:fn.body=some c)(hN:fn.ntmps=N)(hl:vs.length≤N)
  (h:∀b,HC P (bodyPostD P fn (RB b R)) N [] c (fI vs 0) b X0 S0):cf P f vs X0 S0 R:=fun w m=>by
 refine calls_of_wp_defers hf hb (h _ w m _ ⟨?_,rfl,fun t v ht=> ?_⟩)
 ·simp[hN];omega
 ·obtain⟨_,h2⟩:=gE vs 0 t v ht
  have hlt:=(List.getElem?_eq_some_iff.1 h2).1
  rw[Array.getElem?_append_left (by simpa using hlt)]
  simpa using h2
def HE(P:Program)(fn:Func)(b:cg)(R:Value→List bg→List bg→Prop)(N:Nat)(D:List Deferred)(ρ:Env)(X S:List bg):Prop:=∀w,Mem b X S w→∀tmps:Array Value,(∀t v,get ρ t=some v→tmps[t]? =some v)→Go.Leaves P fn tmps (RB b R) D .returning w
section
variable{P:Program}{fn:Func}{R:Value→List bg→List bg→Prop}{N:Nat}{D:List Deferred}{ρ:Env}{b:cg}{X X' Xz Xr S S' :List bg}{e:Exit}
theorem ya(he:Leaves e)(h:HE P fn b R N D ρ X S):HQ (bodyPostD P fn (RB b R)) N D e ρ b X S:=fun w m a ha=>by
 have:=h w m a.tmps ha.gt
 cases e <;> first|exact he.elim|(show Go.Leaves P fn a.tmps (RB b R) a.defers .returning w;rw[ha.df];exact this)
theorem mz{v:Value}(hr:∀tmps:Array Value,(∀t v,get ρ t=some v→tmps[t]? =some v)→∀w,(results fn tmps).run P w= .ok v w)(is:List Nat)(hX:bN is X=some (X',Xz))(js:List Nat)(hS:dh js S=some S')(hR:R v X' S'):HE P fn b R N [] ρ X S:=fun w m tmps ht=>
 ⟨v,hr tmps ht w,_,_,_,rfl,hR,m.out is hX js hS⟩
theorem qG{tmps:Array Value}(h:∀t v,get ρ t=some v→tmps[t]? =some v){t:Nat}{v:Value}(hv:get ρ t=some v):tmps.getD t undef=v:=by
 have:=h t v hv
 simp[this]
theorem BE{L:Conc.Locks.MuLink}(H:Conc.Locks.MuLib P L){g o:Nat}{t:TypeId}{cs:List Value}(i:Nat)(hi:X[i]? =some (aE g t cs))(hc:cs[o]? =some (.int .i32 1))(hcall:∀args w,(callFunc L.unlock args).run P w= .ok (.enter L.unlock args) w)
  (k:HE P fn b R N D ρ (aE g t (cs.set o (.int .i32 0))::X.eraseIdx i) S):HE P fn b R N (⟨.fn (.func L.unlock) #[], #[.pointer (some ⟨g,o,none⟩)]⟩::D) ρ X S:=fun w m tmps ht=>by
 have hb:=m.aN i hi
 have hlt:=(List.getElem?_eq_some_iff.1 hc).1
 refine⟨by simp,.func L.unlock, #[],L.unlock, #[.pointer (some ⟨g,o,none⟩)],rfl, ?_, ?_⟩
 ·simp[invoke,hcall]
 ·refine CallsD.mono (Go.MuLone.unlock_deferred H ⟨g,o,none⟩ .returning w (hb.cell hc) (hb.frozen hlt)) ?_
  rintro e u' w' ⟨rfl,rfl,rfl⟩
  have m' :=m.perm (ao [i] X [aE g t cs] (X.eraseIdx i) (by simp[bN,hi]))
  exact k _ (m'.change (r' :=aE g t (cs.set o (.int .i32 0))) (Fr.setCell w ⟨g,o,none⟩ _) (hb.set o _) (fun k hk=>.inl hk)) tmps ht
end
section
variable{P:Program}{Q:Exit→Act→World→Prop}{N:Nat}{D:List Deferred}{ρ:Env}{b:cg}{X S:List bg}{ty:TypeId}{K:Value→List bg→List bg→Prop}
theorem GK{L:Conc.Locks.MuLink}(H:Conc.Locks.MuLib P L){g o:Nat}{t:TypeId}{cs:List Value}(hc:cs[o]? =some (.int .i32 0)):cf P L.lock [.pointer (some ⟨g,o,none⟩)] [aE g t cs] [] fun v X S=>v= .tuple #[]∧X=[aE g t (cs.set o (.int .i32 1))]∧S=[]:=fun w m=>by
 have hb:=m.aN 0 rfl
 have hlt:=(List.getElem?_eq_some_iff.1 hc).1
 refine Calls.mono (Go.MuLone.lock_free H ⟨g,o,none⟩ w (hb.cell hc) (hb.frozen hlt)) ?_
 rintro e w' ⟨rfl,rfl⟩
 exact⟨_,_,_,rfl,⟨rfl,rfl,rfl⟩,m.change (r' :=aE g t (cs.set o (.int .i32 1))) (Fr.setCell w ⟨g,o,none⟩ _) (hb.set o _) (fun k hk=>.inl hk)⟩
end
end Go.Eng
end
section
namespace Go.Eng
section
variable{P:Program}{Q:Exit→Act→World→Prop}{N:Nat}{D:List Deferred}{ρ:Env}{b:cg}{X S:List bg}{x y:Operand}{ty t t' e:TypeId}{K:Value→List bg→List bg→Prop}
theorem CG{z:Value}{bytes n:Nat}(ht:P.underlying t=some (.slice e))(hT:TI P e z 1 bytes)(hz:z.cells= #[z])(hx:ev ρ x=some (.int .i64 (n:Int)))(hy:ev ρ y=some (.int .i64 (n:Int)))(hb:n*bytes≤140737488351232)(hn:n≤140737488351232)
  (k:∀g,K (.slice (some ⟨g,0,none⟩) n n) (aE g e (List.replicate n z)::X) S):XH P Q N D ρ b X S (.makeSlice t x y) ty K:=fun w m=>by
 obtain⟨ie,hi',hzero,hsize,hby⟩:=hT.get
 have hbn:(ie.bytes:Int)*(n:Int)≤281474976710656:=by
  have h1:(ie.bytes:Int)*(n:Int)=((n*bytes:Nat):Int):=by rw[hby,Nat.mul_comm];rfl
  rw[h1];omega
 have hr:=run_make w t e ie z ht hi' hzero .i64 .i64 (n:Int) (n:Int) (by omega) (by omega) hbn (by omega)
 rw[hsize,hz]at hr
 have hc:madeCells #[z] ((n:Int).toNat*1)=(List.replicate n z).toArray:=by
  apply Array.ext'
  simp[madeCells]
  apply List.ext_getElem <;> simp[Nat.mod_one]
 rw[hc]at hr
 refine cZ (v' :=.slice (some ⟨w.heap.size,0,none⟩) n n) (w' :=w.alloc (.cells (List.replicate n z).toArray e)) (fun a _ _ _ _ ha=> ?_) ⟨_,_,m.cL (r' :=aE w.heap.size e (List.replicate n z)) (Fr.alloc w _) (e8.new w e _) (fun i hi=>Nat.le_of_eq (Eq.symm hi)),k _⟩
 simp[execOp,ha.eval hx,ha.eval hy,hr]
end
end Go.Eng
end
section
namespace Go.Eng
open Go.RowKit
def fB(L:List bg):bg where
 db:=c6 L
 holds w:=∀x∈L,x.holds w
 gV f h p:=fun x hx=>x.gV f (fun k hk=>h k ⟨x,hx,hk⟩) (p x hx)
 low p hk:=by
  obtain⟨x,hx,hk⟩:=hk
  exact x.low (p x hx) hk
theorem View.oH{L:List bg}{r:bg}(i:Nat)(h:L[i]? =some r):View (fB L) r:=.of (fun w x=>x r (List.mem_of_getElem? h)) (fun k hk=>⟨r,List.mem_of_getElem? h,hk⟩)
def sg(S S' :List bg):Prop:=∀s∈S',(∀w,(∀t∈S,t.holds w)→s.holds w)∧∀k,s.db k→∃t∈S,t.db k
theorem Mem.Hv{b:cg}{X S S' :List bg}{w:World}(m:Mem b X S w)(h:sg S S'):Mem b X S' w:=by
 refine⟨m.fr,m.xx,fun x hx s hs k hk hk' => ?_,m.hx,fun s hs=>(h s hs).1 w m.hs,m.nx,fun s hs k hk=> ?_⟩
 ·obtain⟨t,ht,htk⟩:=(h s hs).2 k hk'
  exact m.xs x hx t ht k hk htk
 ·obtain⟨t,ht,htk⟩:=(h s hs).2 k hk
  exact m.ns t ht k htk
theorem sg.all{S L:List bg}(h:∀s∈L,s∈S):sg S (fB L::S):=by
 intro s hs
 rcases List.mem_cons.1 hs with rfl|hs
 ·exact⟨fun w hw x hx=>hw x (h x hx),fun k hk=>by obtain⟨x,hx,hk⟩:=hk;exact⟨x,h x hx,hk⟩⟩
 ·exact⟨fun w hw=>hw s hs,fun k hk=>⟨s,hs,hk⟩⟩
theorem Mem.nA{b:cg}{X S L:List bg}{w:World}(m:Mem b X S w)(js:List Nat)(h:dh js S=some L):Mem b X (fB L::S) w:=m.Hv (sg.all (cb _ _ _ h))
theorem sg.nil{S:List bg}:sg S []:=fun s hs=>by cases hs
theorem sg.cons{S S' :List bg}{L:List bg}(h:∀s∈L,(∃t∈S,View t s))(k:sg S S'):sg S (fB L::S'):=by
 intro s hs
 rcases List.mem_cons.1 hs with rfl|hs
 ·refine⟨fun w hw x hx=> ?_,fun i hi=> ?_⟩
  ·obtain⟨t,ht,hv⟩:=h x hx
   exact hv.ok.1 w (hw t ht)
  ·obtain⟨x,hx,hk⟩:=hi
   obtain⟨t,ht,hv⟩:=h x hx
   exact⟨t,ht,hv.ok.2 i hk⟩
 ·exact k s hs
theorem cf.uO{P:Program}{f:Nat}{vs:List Value}{X0 S0 T0:List bg}{R R' :Value→List bg→List bg→Prop}(h:cf P f vs X0 S0 R)(hS:∀s∈S0,∃t∈T0,View t s)
  (hR:∀v X S,R v X S→∃S',R' v X S' ∧sg (S++T0) S'):cf P f vs X0 T0 R' :=fun w m=>by
 have hd:sg T0 (S0++T0):=by
  intro s hs
  rcases List.mem_append.1 hs with hs|hs
  ·obtain⟨t,ht,hv⟩:=hS s hs
   exact⟨fun w hw=>hv.ok.1 w (hw t ht),fun k hk=>⟨t,ht,hv.ok.2 k hk⟩⟩
  ·exact⟨fun w hw=>hw s hs,fun k hk=>⟨s,hs,hk⟩⟩
 have m1:Mem ⟨w,c6 X0,c6 T0⟩ (X0++[]) (S0++T0) w:=by rw[List.append_nil];exact m.Hv hd
 refine Calls.mono (h w (m1.part (fun s hs=>List.mem_append_left _ hs))) ?_
 rintro e w' ⟨v,X',S',rfl,hr,m'⟩
 obtain⟨S2,hr2,hd2⟩:=hR v X' S' hr
 have m2:=Mem.frame m1 (fun s hs=>List.mem_append_left _ hs) m'
 rw[List.append_nil]at m2
 refine⟨v,X',S2,rfl,hr2,m2.Hv ?_⟩
 intro s hs
 refine⟨fun w hw=>(hd2 s hs).1 w (fun t ht=>hw t ?_),fun k hk=> ?_⟩
 ·rcases List.mem_append.1 ht with ht|ht
  ·exact List.mem_append_left _ ht
  ·exact List.mem_append_right _ (List.mem_append_right _ ht)
 ·obtain⟨t,ht,hk⟩:=(hd2 s hs).2 k hk
  rcases List.mem_append.1 ht with ht|ht
  ·exact⟨t,List.mem_append_left _ ht,hk⟩
  ·exact⟨t,List.mem_append_right _ (List.mem_append_right _ ht),hk⟩
theorem cf.mono{P:Program}{f:Nat}{vs:List Value}{X0 S0:List bg}{R R' :Value→List bg→List bg→Prop}(h:cf P f vs X0 S0 R)(hR:∀v X S,R v X S→R' v X S):cf P f vs X0 S0 R' :=fun w m=>by
 refine Calls.mono (h w m) ?_
 rintro e w' ⟨v,X',S',rfl,hr,m'⟩
 exact⟨v,X',S',rfl,hR _ _ _ hr,m'⟩
end Go.Eng
end
