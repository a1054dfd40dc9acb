/- Part. -/
import Derived.Test.YtmibdabdlgmafaaGreatDoorSLX3
import Derived.OrdersIn
import Derived.RangeFuncNested
import Derived.RangeFuncLeaves
import Derived.RangeFuncCalls
import Derived.RangeFuncBox
import Derived.Shelf.Abstract
import Derived.WalkKit
import Derived.OwnWalkIn
import Derived.TacticsInMore
import Derived.LoopNIn
import Derived.LoopIn
import Derived.ScopeJumps
import Derived.Shelf.Sort.Plain
import Derived.Test.YtmibdabdlgmafaaGreatDoorProg
import Derived.Sort.OwnSorted
set_option linter.all false
section
namespace Go.Eng
open Go.RowKit
def pB:Op→Bool
 | .defer _=>true
 |_=>false
abbrev mu(l:Nat):Fence:=Fence.wide.inRound l
section
variable{P:Program}{Q:Exit→Act→World→Prop}{a:Act}{w:World}{l n:Nat}
theorem Dc{o:Oper}{next next' :Act→World→Prop}(h:o.wp P a w next Q)(hd:pB o.op=false)(hn:∀a w,next a w→next' a w):o.wpIn (mu l) n P a w next' Q:=by
 refine⟨fun _ _=>trivial, ?_⟩
 have e:o.semAt (mu l).round a.eval=execOp a.eval o:=Oper.semAt_eq _ _ _ (fun c hc=>by rw[hc]at hd;cases hd)
 rw[e]
 unfold Oper.wp at h
 generalize(execOp a.eval o).run P w=r at h
 match r,h with
 | .ok (.value v) w',h=>exact hn _ _ h
 | .ok .skip w',h=>exact hn _ _ h
 | .ok (.defer d) w',h=>exact hn _ _ h
 | .ok (.enter f args) w',h=>
  refine⟨fun h=>by simp[Fence.wide]at h,CallsIn.inRound l (callsIn_wide.2 (Calls.mono h ?_))⟩
  intro e w'' q
  cases e with
  |returned v=>exact hn _ _ q
  |panicked c=>exact q
  |outgrown=>exact q
 | .ok (.row row args) w',h=>exact⟨fun h=>by simp[Fence.wide]at h,fun c cs _=>let⟨v,w'',r,s⟩:=h c cs;⟨v,w'',hn _ _ r,stepsIn_wide.2 s⟩⟩
 | .halt (.panic v) w',h=>exact h
theorem mo{ops:Array Oper}(hQ:¬LetsOut Q)(hd:ops.toList.all (fun o=> !pB o.op)=true):∀(il:List Nat) (a:Act) (w:World),wpOps P ops Q il a w→wpOpsIn (mu l) n P ops Q il a w
 | [],a,w,h=>h
 |i::rest,a,w,h=>by
  unfold wpOps at h
  unfold wpOpsIn
  cases ho:ops[i]? with
  |none=>simp only[ho]at h ⊢;exact mo hQ hd rest a w h
  |some o=>
   simp only[ho]at h ⊢
   have hod:pB o.op=false:=by
    have h1:=List.all_eq_true.1 hd o (by obtain⟨hi,he⟩:=Array.getElem?_eq_some_iff.1 ho;rw[←he];exact Array.getElem_mem_toList ..)
    simpa using h1
   split
   ·rename_i hw
    rw[if_pos hw]at h
    rcases h with h|⟨_,h⟩
    ·exact Dc h hod (fun a w h=>mo hQ hd rest a w h)
    ·exact absurd h hQ
   ·rename_i hw
    rw[if_neg hw]at h
    exact⟨fun _ _=>trivial,mo hQ hd rest _ w h⟩
end
def tE(l n:Nat)(P:Program)(Q:Exit→Act→World→Prop)(N:Nat)(D:List Deferred)(c:Code)(ρ:Env)(b:cG)(X S:List bf):Prop:=
 ¬LetsOut Q→∀w,Mem b X S w→∀a,Ag N D ρ a→c.wpIn (mu l) n P Q a w
section
variable{P:Program}{Q:Exit→Act→World→Prop}{N:Nat}{D:List Deferred}{ρ ρ' :Env}{b:cG}{X X' X1 Xr S S' S1:List bf}{c c' :Code}{l n:Nat}{ops:Array Oper}
theorem qk{K:Act→World→Prop}:LetsOut (Exit.then K Q)→LetsOut Q:=fun⟨a,w,h⟩=>⟨a,w,h⟩
theorem pd{id:Nat}:LetsOut (Exit.inBlock id Q)→LetsOut Q:=fun⟨a,w,h⟩=>⟨a,w,h⟩
theorem kT:LetsOut (eQ Q)→LetsOut Q:=fun⟨a,w,h⟩=>⟨a,w,by first|exact h|exact h.elim⟩
theorem na(h:tE l n P (Exit.then (fun a w=>¬LetsOut Q→c'.wpIn (mu l) n P Q a w) Q) N D c ρ b X S):tE l n P Q N D (.seq c c') ρ b X S:=fun hQ w m a ha=>
 wpIn_seq (wpIn_mono (h (fun k=>hQ (qk k)) w m a ha) (fun e a w q=>by cases e <;> first|exact q hQ|exact q))
theorem pk{id:Nat}{il:List Oper}(h:HL P il.toArray Q N D il ρ b X S)(hd:il.all (fun o=> !pB o.op)=true:=by rfl):tE l n P Q N D (.region id il.toArray false) ρ b X S:=fun hQ w m a ha=>by
 refine wpIn_region (mo hQ (by simpa using hd) _ _ _ ?_)
 have h1:=h w m a ha
 rw[List.range_eq_range',←Array.length_toList,wpOps_eq_wpList il.toArray.toList 0 (by simp)]
 simpa using h1
theorem nH(h:HQ Q N D .normal ρ b X S):tE l n P Q N D .skip ρ b X S:=fun hQ w m a ha=>wpIn_skip (h w m a ha)
theorem xo{id:Nat}(h:HQ Q N D (.exit id) ρ b X S):tE l n P Q N D (.exit id) ρ b X S:=fun hQ w m a ha=>wpIn_exit (h w m a ha)
theorem ur{id:Nat}(h:tE l n P (Exit.inBlock id Q) N D c ρ b X S):tE l n P Q N D (.block id c) ρ b X S:=fun hQ w m a ha=>wpIn_block (h (fun k=>hQ (pd k)) w m a ha)
theorem zK{p:Prop}[Decidable p]{x:Operand}(hc:ev ρ x=some (.bool (decide p)))(ht:p→tE l n P Q N D c ρ b X S)(he:¬p→tE l n P Q N D c' ρ b X S):tE l n P Q N D (.cond x c c') ρ b X S:=
 fun hQ w m a ha=>wpIn_cond_split (ha.eval hc) (fun h=>ht (of_decide_eq_true h) hQ w m a ha) (fun h=>he (of_decide_eq_false h) hQ w m a ha)
theorem jX(h:tE l n P Q N D c ρ b X S):HQ (Exit.then (fun a w=>¬LetsOut Q→c.wpIn (mu l) n P Q a w) Q) N D .normal ρ b X S:=fun w m a ha hQ=>h hQ w m a ha
theorem Be{id:Nat}{il:List (Option Nat×Oper)}(Xs:List Nat)(L:List (Nat×Option Nat))(hm:P.follows .mixedOrders=true)(hk:(Region.noSelect ops && ew ops Xs L (Array.replicate ops.size false) && decide (L.length≤ops.size))=true)
  (hp:ix ops L=some il) (cc:Nat) (h:HT P ops (eQ Q) (TT b X S cc) N D 0 il ρ b X S) (hd:ops.toList.all (fun o=> !pB o.op)=true:=by rfl):tE l n P Q N D (.region id ops true) ρ b X S:=fun hQ w m a ha=>by
 simp only[Bool.and_eq_true,decide_eq_true_eq]at hk
 refine wpIn_mono (Q:=eQ Q) ?_ (fun e a w q=>by cases e <;> first|exact q|exact q.elim)
 refine wpIn_region_draw fun t=>mo (fun k=>hQ (kT k)) hd _ _ _ ?_
 simp only[Region.schedule,hm,Bool.true_or,if_true]
 refine wpAny_sound ops.size t _ a _ ?_
 refine eI _ _ _ _ (fV (X:=Xs) hk.1.1 (fun c a d v w q=>q.elim) L il _ a _ _ 0 hp hk.1.2 hk.2 ?_ ?_ (T:=TT b X S cc) (fun _=>m.lift (Fr.drew w)) (h _ (m.lift (Fr.drew w)) a ha))
 ·intro j hj
  simp[Array.getElem?_replicate]at hj
  split at hj <;> cases hj
 ·unfold iU
  rw[List.countP_eq_zero]
  intro x _
  simp[Array.getElem?_replicate]
  split <;> rfl
theorem xm{id:Nat}{il:List (Option Nat×Oper)}(is js:List Nat)(hX:bO is X=some (X1,Xr))(hS:dB js S=some S1)(Xs:List Nat)(L:List (Nat×Option Nat))(hm:P.follows .mixedOrders=true)(hk:(Region.noSelect ops && ew ops Xs L (Array.replicate ops.size false) && decide (L.length≤ops.size))=true)
  (hp:ix ops L=some il) (cc:Nat) (h:HT P ops (eQ Q) (TT b X1 S1 cc) N D 0 il ρ b X S) (hd:ops.toList.all (fun o=> !pB o.op)=true:=by rfl):tE l n P Q N D (.region id ops true) ρ b X S:=fun hQ w m a ha=>by
 simp only[Bool.and_eq_true,decide_eq_true_eq]at hk
 refine wpIn_mono (Q:=eQ Q) ?_ (fun e a w q=>by cases e <;> first|exact q|exact q.elim)
 refine wpIn_region_draw fun t=>mo (fun k=>hQ (kT k)) hd _ _ _ ?_
 simp only[Region.schedule,hm,Bool.true_or,if_true]
 refine wpAny_sound ops.size t _ a _ ?_
 refine eI _ _ _ _ (fV (X:=Xs) hk.1.1 (fun c a d v w q=>q.elim) L il _ a _ _ 0 hp hk.1.2 hk.2 ?_ ?_ (T:=TT b X1 S1 cc) (fun _=>(wk is js hX hS).mem (m.lift (Fr.drew w))) (h _ (m.lift (Fr.drew w)) a ha))
 ·intro j hj
  simp[Array.getElem?_replicate]at hj
  split at hj <;> cases hj
 ·unfold iU
  rw[List.countP_eq_zero]
  intro x _
  simp[Array.getElem?_replicate]
  split <;> rfl
end
end Go.Eng
end
section
namespace Go.Eng
open Go.RowKit
def vz(D:Nat):bf where
 dj k:=k=D
 holds w:=w.heap[D]? =some (.deferred (some []))
 ia:=fun{S w w'} f h e=>by
  have hlt:=(Array.getElem?_eq_some_iff.1 e).1
  exact(f.block D hlt (h D rfl)).trans e
 low:=fun{w k} e hk=>by
  have hk' :k=D:=hk
  rw[hk'];exact(Array.getElem?_eq_some_iff.1 e).1
theorem Mem.grown{b:cG}{X S:List bf}{w w' :World}{R:Nat→Prop}(m:Mem b X S w)(f:Fr R w w')(h1:∀k,R k→b.w.heap.size≤k)(h2:∀k,R k→∀x∈X,¬x.dj k)(h3:∀k,R k→∀s∈S,¬s.dj k):Mem b X S w' :=
 ⟨m.fr.trans f (fun _ e=>e) (fun i hi e=>absurd (h1 i e) (by omega)),m.xx,m.xs,fun x hx=>x.ia f (fun k hk hr=>h2 k hr x hx hk) (m.hx x hx),fun s hs=>s.ia f (fun k hk hr=>h3 k hr s hs hk) (m.hs s hs),m.nx,m.ns⟩
theorem rG{w w' :World}{row:Option Nat}(h:w.grownBy w' row):Fr (fun k=>row=some k) w w' :=⟨h.os,h.tape,h.output,h.size,fun k hk hn=>h.block k hk (fun e=>hn e.symm)⟩
def Da(B:Nat)(M:Nat→Prop)(W W' :World):Prop:=∀k,k<B→¬M k→W'.heap[k]? =W.heap[k]?
def zj(ps:Array Tmp)(vs:List Value):Env:=(ps.toList.zip vs)
theorem Mem.xE{b:cG}{X S:List bf}{w:World}{D B:Nat}(m:Mem b X S w)(hb:b.w.heap.size≤B)(hD:B≤D)(hx:∀x∈X,∀k,x.dj k→k<B)(hs:∀s∈S,∀k,s.dj k→k<B)(h:w.heap[D]? =some (.deferred (some []))):Mem b (vz D::X) S w:=by
 refine⟨m.fr,List.pairwise_cons.2 ⟨fun y hy k hk hy' => ?_,m.xx⟩,fun x hx' s hs' k hk hk' => ?_,fun x hx' => ?_,m.hs,fun x hx' k hk=> ?_,m.ns⟩
 ·have hk' :k=D:=hk
  have:=hx y hy k hy'
  omega
 ·rcases List.mem_cons.1 hx' with rfl|hx'
  ·have h1:k=D:=hk
   have:=hs s hs' k hk'
   omega
  ·exact m.xs x hx' s hs' k hk hk'
 ·rcases List.mem_cons.1 hx' with rfl|hx'
  ·exact h
  ·exact m.hx x hx'
 ·rcases List.mem_cons.1 hx' with rfl|hx'
  ·have h1:k=D:=hk
   exact .inr (by omega)
  ·exact m.nx x hx' k hk
theorem Mem.off{b:cG}{X S X1 Xr:List bf}{w:World}{is:List Nat}(m:Mem b X S w)(hX:bO is X=some (X1,Xr))(j:Nat){r:bf}(hj:Xr[j]? =some r){k:Nat}(hk:r.dj k):¬dz X1 k:=by
 have m1:=m.perm (az _ _ _ _ hX)
 rintro⟨x,hx,hxk⟩
 exact(List.pairwise_append.1 m1.xx).2.2 x hx r (List.mem_of_getElem? hj) k hxk hk
def RQ{α σ:Type}(b:cG)(X1:σ→List bf)(Sb:List bf)(id:Nat)(step:σ→α→σ)(brk:σ→α→Prop)(s:σ)(x:α):Exit→Act→World→Prop
 | .normal,_,w=>Mem b (X1 (step s x)) Sb w
 | .exit i,_,w=>i=id∧Mem b (X1 s) Sb w∧brk s x
 |_,_,_=>False
theorem km{α σ:Type}{b:cG}{X1:σ→List bf}{Sb:List bf}{id:Nat}{step:σ→α→σ}{brk:σ→α→Prop}{s:σ}{x:α}{N:Nat}{D:List Deferred}{ρ:Env}{X S Xz:List bf}(s' :σ)(he:step s x=s')(is:List Nat)(hX:bO is X=some (X1 s',Xz))(js:List Nat)(hS:dB js S=some Sb):
  HQ (RQ b X1 Sb id step brk s x) N D .normal ρ b X S:=fun w m a ha=>by
 show Mem b (X1 (step s x)) Sb w
 rw[he]
 exact m.out is hX js hS
theorem pX{α σ:Type}{b:cG}{X1:σ→List bf}{Sb:List bf}{id:Nat}{step:σ→α→σ}{brk:σ→α→Prop}{s:σ}{x:α}{N:Nat}{D:List Deferred}{ρ:Env}{X S Xz:List bf}(is:List Nat)(hX:bO is X=some (X1 s,Xz))(js:List Nat)(hS:dB js S=some Sb)(hb:brk s x):
  HQ (RQ b X1 Sb id step brk s x) N D (.exit id) ρ b X S:=fun w m a ha=>⟨rfl,m.out is hX js hS,hb⟩
section
variable{P:Program}{Q:Exit→Act→World→Prop}{N:Nat}{D:List Deferred}{ρ ρ' :Env}{b:cG}{X X' Xr S S' Sb:List bf}
theorem yf{α σ:Type}{g gf id:Nat}{ps:Array Tmp}{assign body:Code}{lb:List Value}(X1:σ→List bf)(s0:σ)(step:σ→α→σ)(brk:σ→α→Prop)(encs:α→List Value)(xs:List α)(ρx:α→Env)(ρk:Env)(hk:eT ρk ρ)
  (hv:get ρ g=some (.func (.func gf) #[] lb.toArray)) (heg:∀args w,(callFunc gf args).run P w= .ok (.enter gf args) w)
  (is:List Nat) (hX:bO is X=some (X1 s0,Xr)) (hft:∀s k,dz (X1 s) k↔dz (X1 s0) k) (js:List Nat) (hS:dB js S=some Sb)
  (ah:∀w,Mem b X S w→SeqStopsK Fence.wide 2 P gf lb.toArray (fun x=>(encs x).toArray) (Da w.heap.size (dz (X1 s0))) (fun ys=>ys=xs) (fun pre=>pre<+:xs) xs.length w)
  (hps:∀x,(encs x).length=ps.size) (hpn:∀p∈ps.toList,p<N) (hnd:∀x (a:Act),Ag N D ρ a→Ag N [] (ρ' ++zj ps (encs x)++ρ) {tmps:=(ps.zip (encs x).toArray).foldl (fun t (p,v)=>t.setIfInBounds p v) a.tmps,defers:=[]})
  (hasg:∀(l:Nat) (b' :cG) (s:σ) (x:α) (Q' :Exit→Act→World→Prop),HQ Q' N [] .normal (ρx x++ρk) b' (X1 s) Sb→tE l 1 P Q' N [] assign (ρ' ++zj ps (encs x)++ρ) b' (X1 s) Sb)
  (hbody:∀(l:Nat) (b' :cG) (s:σ) (x:α),tE l 1 P (RQ b' X1 Sb id step brk s x) N [] body (ρx x++ρk) b' (X1 s) Sb)
  (k:∀(Dk:Nat) (s:σ),(s=xs.foldl step s0∨∃pre x rest,xs=pre++x::rest∧s=pre.foldl step s0∧brk s x)→HQ Q N (⟨.collected Dk, #[]⟩::D) .normal ρ b (vz Dk::(X1 s++Xr)) S):
  HC P Q N D (.block id (.rangeFunc (.tmp g) ps assign body)) ρ b X S:=by
 intro w m a ha
 have m1:=m.perm (az _ _ _ _ hX)
 have hSb:=cm _ _ _ hS
 obtain⟨M,hM⟩:∃M,M=dz (X1 s0):=⟨_,rfl⟩
 have hbz:b.w.heap.size≤w.heap.size:=m.fr.size
 have lowM:∀k,M k→k<w.heap.size:=by
  rw[hM]
  rintro k ⟨x,hx,hk⟩
  exact x.low (m1.hx x (List.mem_append_left _ hx)) hk
 have lowX:∀s x,x∈X1 s++Xr→∀k,x.dj k→k<w.heap.size:=by
  intro s x hx k hk
  rcases List.mem_append.1 hx with hx|hx
  ·exact lowM k (by rw[hM];exact(hft s k).1 ⟨x,hx,hk⟩)
  ·exact x.low (m1.hx x (List.mem_append_right _ hx)) hk
 have lowS:∀s∈S,∀k,s.dj k→k<w.heap.size:=fun s hs k hk=>s.low (m.hs s hs) hk
 refine wpIn_wide (n:=3).1 (wpIn_block ?_)
 have hown:∀{s:σ} {W W' :World} {row:Option Nat},Mem b (X1 s++Xr) S W→W.grownBy W' row→(∀r,row=some r→w.heap.size≤r∧∃o:Obj,W.heap[r]? =some o∧o.isCells=false)→Mem b (X1 s++Xr) S W' :=by
  intro s W W' row mW hg hr
  refine mW.grown (rG hg) (fun k e=>Nat.le_trans hbz (hr k e).1) (fun k e x hx hk=> ?_) (fun k e x hx hk=> ?_)
  ·have h1:=lowX s x hx k hk
   have h2:=(hr k e).1
   omega
  ·have h1:=lowS x hx k hk
   have h2:=(hr k e).1
   omega
 have hround:∀{s:σ} {W W' :World} {Y:List bf},Mem b (X1 s++Xr) S W→w.heap.size≤W.heap.size→Mem ⟨W,dz (X1 s),dz Sb⟩ Y Sb W' →KeepsFrom w.heap.size W W' ∧Da w.heap.size M W W' ∧Mem b (Y++Xr) S W' :=by
  intro s W W' Y mW hsz mY
  have e:∀k,dz (X1 s) k↔M k:=fun k=>by rw[hM];exact hft s k
  refine⟨⟨mY.fr.size,fun k o hk ho _=> ?_⟩,fun k hk hn=> ?_,(mW.frame hSb mY).ll (fun x hx=>List.mem_append_right _ hx)⟩
  ·have hlt:=(Array.getElem?_eq_some_iff.1 ho).1
   exact(mY.fr.block k hlt (fun q=>by have:=lowM k ((e k).1 q);omega)).trans ho
  ·exact mY.fr.block k (by show k<W.heap.size;omega) (fun q=>hn ((e k).1 q))
 refine wpIn_rangeFunc_ownH (n:=3) (α:=α) (gf:=gf) (lb:=lb.toArray) rfl (by decide) (ha.eval hv) trivial heg (ah w m)
  (fun{A B C} h1 h2 k hk hn=>(h2 k hk hn).trans (h1 k hk hn)) (fun W l o o' hl ho _ _ k hk hn=>World.putObj_heap_other (by omega)) (Below.refl _ w) (fun x=>by simpa using hps x)
  (fun pre W=>w.heap.size≤W.heap.size∧Mem b (X1 (pre.foldl step s0)++Xr) S W) (fun c pre W=>c= .exit id∧∃pre' x,pre=pre' ++[x]∧Mem b (X1 (pre'.foldl step s0)++Xr) S W∧brk (pre'.foldl step s0) x)
  (fun pre W W' row h hg hr=>⟨Nat.le_trans h.1 hg.size,hown h.2 hg hr⟩)
  (fun c pre W W' row h hg hr=>by
   obtain⟨hc,pre',x,e,h1,h2⟩:=h
   exact⟨hc,pre',x,e,hown h1 hg hr,h2⟩)
  ⟨Nat.le_refl _,m1⟩ (fun x a' _=>Ag N [] (ρx x++ρk) a') (fun x a' =>ownFrom_pure _ (fun _=>Ag N [] (ρx x++ρk) a')) ?_ ?_ ?_ ?_
 ·rintro l pre x W K ⟨hsz,mW⟩ hK
  refine hasg l ⟨W,dz (X1 (pre.foldl step s0)),dz Sb⟩ (pre.foldl step s0) x _ (fun W' m' a' ha' => ?_) (fun⟨_,_,h⟩=>h) W (mW.part hSb) _ (hnd x a ha)
  obtain⟨h1,h2,h3⟩:=hround mW hsz m'
  exact hK a' W' h1 (by rw[←hM];exact h2) ⟨Nat.le_trans hsz h1.size,h3⟩ ha'
 ·rintro l pre x a' W _ _ ⟨hsz,mW⟩ hax _
  refine wpIn_mono (hbody l ⟨W,dz (X1 (pre.foldl step s0)),dz Sb⟩ (pre.foldl step s0) x (fun⟨_,_,h⟩=>h) W (mW.part hSb) a' hax) ?_
  intro e a2 W2 q
  cases e with
  |normal=>
   have q' :Mem _ (X1 (step (pre.foldl step s0) x)) Sb W2:=q
   obtain⟨h1,h2,h3⟩:=hround mW hsz q'
   refine⟨h1,by rw[←hM];exact h2,Nat.le_trans hsz h1.size, ?_⟩
   rw[List.foldl_append]
   exact h3
  |exit i=>
   obtain⟨rfl,q1,q2⟩:=q
   obtain⟨h1,h2,h3⟩:=hround mW hsz q1
   exact⟨h1,rfl,pre,x,rfl,h3,q2⟩
  |ret=>exact q.elim
  |goto t=>exact q.elim
  |panic c=>exact q.elim
  |outgrown=>exact q.elim
 ·rintro Dk ys W hD rfl ⟨hsz,mW⟩ hdef
  exact k Dk _ (.inl rfl) W (mW.xE hbz hD (lowX _) lowS hdef) _ ⟨ha.sz,by rw[ha.df],ha.gt⟩
 ·rintro Dk c pre W hD hpre ⟨rfl,pre',x,rfl,mW,hb⟩ hdef
  obtain⟨rest,hr⟩:=hpre
  refine wpIn_exit ?_
  have hq:=k Dk _ (.inr ⟨pre',x,rest,by rw[←hr];simp,rfl,hb⟩) W (mW.xE hbz hD (lowX _) lowS hdef) {a with defers:=⟨.collected Dk, #[]⟩::a.defers} ⟨ha.sz,by show _::a.defers=_;rw[ha.df],ha.gt⟩
  show(Exit.inBlock id Q) (.exit id) _ W
  simp only[Exit.inBlock,if_pos]
  exact hq
end
theorem yD{N p q:Nat}{D:List Deferred}{ρ:Env}{a:Act}{u v:Value}(hpq:(p == q)=false)(hp:p<N)(hq:q<N)(ha:Ag N D ρ a):
  Ag N [] ([]++zj #[p,q] [u,v]++ρ) {tmps:=((#[p,q]:Array Tmp).zip [u,v].toArray).foldl (fun t (p,v)=>t.setIfInBounds p v) a.tmps,defers:=[]}:=by
 have hne:p≠q:=by simpa using hpq
 have e:(((#[p,q]:Array Tmp).zip [u,v].toArray).foldl (fun t (p,v)=>t.setIfInBounds p v) a.tmps)=(a.tmps.setIfInBounds p u).setIfInBounds q v:=by simp
 rw[e]
 have hsz:=ha.sz
 refine⟨by simpa using hsz,rfl,fun t z ht=> ?_⟩
 simp only[zj,List.nil_append,List.zip_cons_cons,List.zip_nil_right,List.cons_append,get]at ht
 show((a.tmps.setIfInBounds p u).setIfInBounds q v)[t]? =some z
 cases h1:Nat.beq p t with
 |true=>
  rw[h1]at ht
  have h1' :p=t:=Nat.eq_of_beq_eq_true h1
  simp only[cond_true,Option.some.injEq]at ht
  subst h1';subst ht
  rw[Array.getElem?_setIfInBounds_ne (Ne.symm hne),Array.getElem?_setIfInBounds_self_of_lt (by omega)]
 |false=>
  rw[h1]at ht
  simp only[cond_false]at ht
  have h1' :p≠t:=Nat.ne_of_beq_eq_false h1
  cases h2:Nat.beq q t with
  |true=>
   rw[h2]at ht
   have h2' :q=t:=Nat.eq_of_beq_eq_true h2
   simp only[cond_true,Option.some.injEq]at ht
   subst h2';subst ht
   rw[Array.getElem?_setIfInBounds_self_of_lt (by simp;omega)]
  |false=>
   rw[h2]at ht
   have h2' :q≠t:=Nat.ne_of_beq_eq_false h2
   rw[Array.getElem?_setIfInBounds_ne h2',Array.getElem?_setIfInBounds_ne h1']
   exact ha.gt t z (by simpa using ht)
theorem zD{P:Program}{f:Nat}{fn:Func}{c:Code}{vs:List Value}{R:Value→List bf→List bf→Prop}{N:Nat}{X0 S0:List bf}(hf:P.funcs[f]? =some fn)(hb:fn.body=some c)(hN:fn.ntmps=N)(hl:vs.length≤N)
  (h:∀b,HC P (bodyPostM Fence.wide 3 P fn (RB b R)) N [] c (fZ vs 0) b X0 S0):cj P f vs X0 S0 R:=fun w m=>by
 refine callsIn_wide (n:=3).1 (callsIn_of_wp_marks hf hb trivial (wpIn_wide.2 (h _ w m _ ⟨?_,rfl,fun t v ht=> ?_⟩)))
 ·simp[hN];omega
 ·obtain⟨_,h2⟩:=gv vs 0 t v ht
  have hlt:=(List.getElem?_eq_some_iff.1 h2).1
  rw[Array.getElem?_append_left (by simpa using hlt)]
  simpa using h2
section
variable{P:Program}{fn:Func}{R:Value→List bf→List bf→Prop}{N n:Nat}{D:List Deferred}{ρ:Env}{b:cG}{X X' Xz S S' :List bf}{e:Exit}
theorem D0{Dk:Nat}(he:Leaves e)(is:List Nat)(hX:bO is X=some ([vz Dk],X'))(k:HQ (bodyPostM Fence.wide n P fn (RB b R)) N D e ρ b X' S):HQ (bodyPostM Fence.wide n P fn (RB b R)) N (⟨.collected Dk, #[]⟩::D) e ρ b X S:=by
 intro w m a ha
 have m1:=m.perm (az _ _ _ _ hX)
 have hc:w.heap[Dk]? =some (.deferred (some [])):=m1.hx (vz Dk) (by simp)
 have hx1:=(List.pairwise_cons.1 m1.xx).1
 have hr:=run_takeDeferred (P:=P) hc
 have hf:Fr (fun k=>k=Dk) w (w.putObj Dk (.deferred none)):=⟨rfl,rfl,rfl,by simp,fun k _ hk=>World.putObj_heap_other hk⟩
 have hbz:b.w.heap.size≤Dk∨b.M Dk:=(m1.nx (vz Dk) (by simp) Dk rfl).symm
 have m2:Mem b X' S (w.putObj Dk (.deferred none)):=by
  refine⟨m1.fr.trans hf (fun _ e=>e) (fun i hi e=> ?_),(List.pairwise_cons.1 m1.xx).2,fun x hx=>m1.xs x (List.mem_cons_of_mem _ hx),fun x hx=>x.ia hf (fun k hk e=> ?_) (m1.hx x (List.mem_cons_of_mem _ hx)),fun s hs=>s.ia hf (fun k hk e=> ?_) (m1.hs s hs),fun x hx=>m1.nx x (List.mem_cons_of_mem _ hx),m1.ns⟩
  ·subst e
   rcases hbz with h|h
   ·omega
   ·exact h
  ·exact hx1 x hx k e hk
  ·exact m1.xs (vz Dk) (by simp) s hs k e hk
 have hk:=k _ m2 {a with defers:=D} ⟨ha.sz,rfl,ha.gt⟩
 cases e with
 |normal=>
  show LeavesInM Fence.wide n P fn a.tmps _ a.defers .returning w
  rw[ha.df]
  exact⟨by simp,.inl ⟨Dk,_,rfl,hr,hk⟩⟩
 |ret=>
  show LeavesInM Fence.wide n P fn a.tmps _ a.defers .returning w
  rw[ha.df]
  exact⟨by simp,.inl ⟨Dk,_,rfl,hr,hk⟩⟩
 |_=>exact he.elim
theorem Df{v:Value}(he:Leaves e)(h:∀a,Ag N [] ρ a→∀w,(results fn a.tmps).run P w= .ok v w)(is:List Nat)(hX:bO is X=some (X',Xz))(js:List Nat)(hS:dB js S=some S')(hR:R v X' S'):HQ (bodyPostM Fence.wide n P fn (RB b R)) N [] e ρ b X S:=by
 intro w m a ha
 have hm:=m.out is hX js hS
 cases e with
 |normal=>
  show LeavesInM Fence.wide n P fn a.tmps _ a.defers .returning w
  rw[ha.df]
  exact⟨v,h a ha w,_,_,_,rfl,hR,hm⟩
 |ret=>
  show LeavesInM Fence.wide n P fn a.tmps _ a.defers .returning w
  rw[ha.df]
  exact⟨v,h a ha w,_,_,_,rfl,hR,hm⟩
 |_=>exact he.elim
theorem tr{t t' :Nat}{v v' :Value}(he:Leaves e)(hr:fn.results= #[.tmp t,.tmp t'])(hv:get ρ t=some v)(hv' :get ρ t' =some v')(is:List Nat)(hX:bO is X=some (X',Xz))(js:List Nat)(hS:dB js S=some S')(hR:R (.tuple #[v,v']) X' S'):HQ (bodyPostM Fence.wide n P fn (RB b R)) N [] e ρ b X S:=
 Df he (fun a ha w=>by have h1:=ha.getD hv;have h2:=ha.getD hv';simp at h1 h2;simp[results,hr,h1,h2]) is hX js hS hR
end
end Go.Eng
end
section
namespace Go.Proofs.YtmibdabdlgmafaaGreatDoor
open Go.Eng Go.RowKit Go.Shelf
attribute [local go_sem] Oper.semAt_some
set_option maxRecDepth 100000 in
set_option maxHeartbeats 4000000 in
theorem xF(F:Fence)(n:Nat)(h7:F.fn 297)(hro:F.round=none)(hn:1≤n)(l Bs B b off cap:Nat)(M:Nat→Prop)(zs:List Int){α:Type}(L:List α)(encs:α→List Value)(hL:L.length=zs.length)(henc:∀(k:Nat) (x:α),L[k]? =some x→encs x=[.int .i64 ((zs.length-1-k:Nat):Int),.int .i64 (zs[zs.length-1-k]?.getD 0)])(hreach:zs.length*8≤140737488351232)(hbs:Bs<B∧¬M Bs)(hb:b<B∧¬M b)(J Jx:List α→World→Prop)
  (hY:∀pre x W,J pre W→pre.length<L.length→YieldAt F (n-1) Tryz.prog l (encs x).toArray W fun e W' =>
   (e= .returned (.bool true)∧J (pre++[x]) W' ∧Da B M W W')∨(e= .returned (.bool false)∧Jx (pre++[x]) W'))
  (W:World) (hBs:W.cell? ⟨Bs,0,none⟩=some (.slice (some ⟨b,off,none⟩) zs.length cap)) (hc:∀j,j<zs.length→W.cell? ⟨b,off+j,none⟩=some (.int .i64 (zs[j]?.getD 0))) (h0:J [] W):
  CallsIn F n Tryz.prog 297 #[.func (.yield l) #[] #[],.pointer (some ⟨Bs,0,none⟩)] W fun e W' =>(∃v,e= .returned v)∧
   ((∃ys,ys=L∧J ys W')∨(∃pre,pre<+:L∧Jx pre W')):=by
 refine callsIn_of_wp Tryz.func297 rfl h7 ?_ hro
 simp only[Tryz.ntmps297,List.size_toArray,List.length_cons,List.length_nil,Nat.reduceAdd,Nat.reduceSub,Array.replicate_succ,Array.replicate_zero,List.push_toArray,List.append_toArray,List.nil_append,List.cons_append]
 gi_wp2
 gi_loopw [3] (fun i wr=>∃k:Nat,k≤zs.length∧i= .int .i64 ((zs.length:Int)-1-(k:Int))∧J (L.take k) wr∧Da B M W wr)
  (fun i _=>(intOf i+1).toNat)
 case atStart=>exact⟨0,Nat.zero_le _,by simp,h0,fun _ _ _=>rfl⟩
 case round=>
  obtain⟨k,hk,rfl,hJs,hnx⟩:=hrel
  have hBs' :wr.cell? ⟨Bs,0,none⟩=some (.slice (some ⟨b,off,none⟩) zs.length cap):=by rw[←hBs];simp only[World.cell?,hnx Bs hbs.1 hbs.2]
  have hcx:∀j,j<zs.length→wr.cell? ⟨b,off+j,none⟩=some (.int .i64 (zs[j]?.getD 0)):=fun j h=>by rw[←hc j h];simp only[World.cell?,hnx b hb.1 hb.2]
  by_cases hlt:k<zs.length
  ·obtain⟨j,hj⟩:∃j:Nat,j+1+k=zs.length:=⟨zs.length-1-k,by omega⟩
   have hjk:zs.length-1-k=j:=by omega
   have hji:(zs.length:Int)-1-(k:Int)=(j:Int):=by omega
   obtain⟨x,hx⟩:∃x,L[k]? =some x:=⟨_,List.getElem?_eq_getElem (by omega)⟩
   have htk:L.take (k+1)=L.take k++[x]:=by rw[List.take_add_one,hx];rfl
   obtain⟨fn,tmps,assign,body,hy,hR⟩:=hY _ x wr hJs (by rw[List.length_take];omega)
   rw[henc k x hx,hjk]at hy
   have hcx' :=hcx j (by omega)
   obtain⟨z,hz⟩:∃z,zs[j]?.getD 0=z:=⟨_,rfl⟩
   rw[hz]at hcx' hy
   clear hcx hz hc
   rw[hji]
   have hge:¬((j:Int)<0):=by omega
   have hjl:j<zs.length:=by omega
   gi_wp2
   refine hR.mono ?_
   rintro e W3 (⟨rfl,hJ3,hk3⟩|⟨rfl,hJx3⟩)
   ·gi_wp2
    go_roundw
    case rel=>exact⟨k+1,by omega,by congr 1 <;> omega,by rw[htk];exact hJ3,fun q h1 h2=>(hk3 q h1 h2).trans (hnx q h1 h2)⟩
    case measure=>simp[intOf] <;> omega
   ·gi_wp2
    refine bodyPost_ret (results_none rfl _ _ _) rfl ?_
    exact⟨⟨_,rfl⟩,.inr ⟨_,by rw[←htk];exact List.take_prefix _ _,hJx3⟩⟩
  ·obtain rfl:k=zs.length:=by omega
   have hge:¬((zs.length:Int)-1-(zs.length:Int)≥0):=by omega
   gi_wp2
   go_end0
   exact⟨⟨_,rfl⟩,.inl (by rw[←hL,List.take_length]at hJs;exact hJs)⟩
set_option maxRecDepth 100000 in
set_option maxHeartbeats 4000000 in
theorem sB(F:Fence)(n:Nat)(h7:F.fn 297)(hro:F.round=none)(l Bs cap:Nat)(A:Option Addr)(J:World→Prop)
  (W:World) (hBs:W.cell? ⟨Bs,0,none⟩=some (.slice A 0 cap)) (h0:J W):
  CallsIn F n Tryz.prog 297 #[.func (.yield l) #[] #[],.pointer (some ⟨Bs,0,none⟩)] W fun e W' =>(∃v,e= .returned v)∧J W' :=by
 refine callsIn_of_wp Tryz.func297 rfl h7 ?_ hro
 simp only[Tryz.ntmps297,List.size_toArray,List.length_cons,List.length_nil,Nat.reduceAdd,Nat.reduceSub,Array.replicate_succ,Array.replicate_zero,List.push_toArray,List.append_toArray,List.nil_append,List.cons_append]
 gi_wp2
 gi_loopw [3] (fun i wr=>i= .int .i64 (-1)∧J wr) (fun _ _=>0)
 case atStart=>exact⟨by simp,h0⟩
 case round=>
  obtain⟨rfl,hJs⟩:=hrel
  gi_wp2
  go_end0
  exact⟨⟨_,rfl⟩,hJs⟩
theorem n0(F:Fence)(n:Nat)(h7:F.fn 297)(hro:F.round=none)(hn:1≤n){w:World}{Bs e:Nat}{v:Value}{zs:List Int}{M:Nat→Prop}{α:Type}(L:List α)(encs:α→List Value)(hL:L.length=zs.length)(henc:∀(k:Nat) (x:α),L[k]? =some x→encs x=[.int .i64 ((zs.length-1-k:Nat):Int),.int .i64 (zs[zs.length-1-k]?.getD 0)])(hreach:zs.length*8≤140737488351232)
  (hBs:w.cell? ⟨Bs,0,none⟩=some v) (hMB:¬M Bs) (h:Go.Eng.Own w 0 e 1 v zs.length (zs.map (Value.int .i64))) (hMA:∀k,jL v k→¬M k):
  SeqStopsK F n Tryz.prog 297 #[.pointer (some ⟨Bs,0,none⟩)] (fun x=>(encs x).toArray) (Da w.heap.size M) (fun ys=>ys=L) (fun pre=>pre<+:L) L.length w:=by
 intro l J Jx W hW _ _ hY h0
 have hlt:=lj hBs
 have hc' :W.cell? ⟨Bs,0,none⟩=some v:=(hW.cell (p:=⟨Bs,0,none⟩) hlt).trans hBs
 obtain⟨hl,⟨rfl,hz⟩|⟨g,o,cap,cur,rfl,_,hb,hcap,hml,hcl,hx⟩⟩:=h
 ·have hL0:L=[]:=List.eq_nil_of_length_eq_zero (by omega)
  subst hL0
  exact(sB F n h7 hro l Bs 0 none (J []) W hc' h0).mono fun e W' ⟨he,hj⟩=>⟨he,.inl ⟨_,rfl,hj⟩⟩
 ·by_cases hz:zs.length=0
  ·have hL0:L=[]:=List.eq_nil_of_length_eq_zero (by omega)
   subst hL0
   rw[hz]at hc'
   exact(sB F n h7 hro l Bs cap _ (J []) W hc' h0).mono fun e W' ⟨he,hj⟩=>⟨he,.inl ⟨_,rfl,hj⟩⟩
  ·have hcs:∀j,j<zs.length→W.cell? ⟨g,o+j,none⟩=some (.int .i64 (zs[j]?.getD 0)):=fun j hj=>by
    refine(hW.cell (p:=⟨g,o+j,none⟩) hb.lt).trans (hb.cell ?_)
    have h1:((cur.drop o).take (zs.length*1))[j]? =(zs.map (Value.int .i64))[j]? :=by rw[hx]
    rw[List.getElem?_take,if_pos (by omega),List.getElem?_drop,List.getElem?_map,List.getElem?_eq_getElem hj]at h1
    rw[h1,List.getElem?_eq_getElem hj]
    rfl
   have hsz:=hW.size
   have:=xF F n h7 hro hn l Bs w.heap.size g o cap M zs L encs hL henc hreach ⟨hlt,hMB⟩ ⟨hb.lt,hMA g rfl⟩ J Jx hY W hc' hcs h0
   refine this.mono ?_
   rintro e W' ⟨he,⟨ys,rfl,hj⟩|⟨pre,hp,hj⟩⟩
   ·exact⟨he,.inl ⟨_,rfl,hj⟩⟩
   ·exact⟨he,.inr ⟨_,hp,hj⟩⟩
end Go.Proofs.YtmibdabdlgmafaaGreatDoor
end
section
set_option maxRecDepth 20000
set_option maxHeartbeats 2000000
namespace Go.Proofs.YtmibdabdlgmafaaGreatDoor
open Go.Eng Go.Hx
def eN(zs:List Nat)(i:Nat)(h:∀z∈zs,z<i):List {x:Nat×Nat//x.2<i}:=(zs.attach.zipIdx.map fun x=>(⟨(x.2,x.1.1),h _ x.1.2⟩:{x:Nat×Nat//x.2<i})).reverse
theorem iq(zs:List Nat)(i:Nat)(h:∀z∈zs,z<i):(eN zs i h).length=zs.length:=by simp[eN]
theorem nw(zs:List Nat)(i:Nat)(h:∀z∈zs,z<i):(eN zs i h).map (fun x=>x.1.2)=zs.reverse:=by
 unfold eN
 rw[List.map_reverse,List.map_map]
 congr 1
 apply List.ext_getElem
 ·simp
 ·intro j h1 h2
  simp
theorem se(zs:List Nat)(i:Nat)(h:∀z∈zs,z<i)(k:Nat)(x:{x:Nat×Nat//x.2<i})(hx:(eN zs i h)[k]? =some x):k<zs.length∧x.1.1=zs.length-1-k∧zs[zs.length-1-k]? =some x.1.2:=by
 have hk:k<zs.length:=by rw[←iq zs i h];exact(List.getElem?_eq_some_iff.1 hx).1
 unfold eN at hx
 rw[List.getElem?_reverse (by simpa using hk)]at hx
 simp only[List.length_map,List.length_zipIdx,List.length_attach,List.getElem?_map,List.getElem?_zipIdx,Nat.zero_add]at hx
 have hlt:zs.length-1-k<zs.attach.length:=by simp;omega
 rw[List.getElem?_eq_getElem hlt]at hx
 simp only[Option.map_some,Option.some.injEq]at hx
 subst hx
 refine⟨hk,rfl, ?_⟩
 rw[List.getElem?_eq_getElem (by simpa using hlt)]
 simp
theorem kI(f:Nat×Nat→Nat→Nat×Nat)(s:Nat×Nat)(i:Nat)(L:List {x:Nat×Nat//x.2<i}):L.foldl (fun s x=>f s x.1.2) s=(L.map (fun x=>x.1.2)).foldl f s:=by rw[List.foldl_map]
theorem oA{l:List UInt8}{i:Nat}{zs:List Nat}(hz:zs=kd l i (ek l i))(hi:i+4≤l.length)(h:∀z∈zs,z<i){s:Nat×Nat}
  (hs:s=(eN zs i h).foldl (fun s x=>fI l i s x.1.2) (0,0)∨∃pre x rest,eN zs i h=pre++x::rest∧s=pre.foldl (fun s x=>fI l i s x.1.2) (0,0)∧1024<i-x.1.2):s=a8 l i:=by
 subst hz
 rcases hs with rfl|⟨pre,x,rest,e,rfl,hb⟩
 ·rw[kI,nw,sN hi]
 ·have e2:=congrArg (List.map fun x=>x.1.2) e
  rw[nw,List.map_append,List.map_cons]at e2
  rw[kI,←sN hi]
  exact(vj e2 hb).symm
def kJ(l:List Nat):List Int:=l.map fun n:Nat=>(n:Int)
theorem eL(l:List Nat):(kJ l).length=l.length:=List.length_map ..
theorem w7{w:World}{e:TypeId}{v:Value}{l:List Nat}(h:Go.Eng.Own w 0 e 1 v l.length (ze l)):Go.Eng.Own w 0 e 1 v (kJ l).length ((kJ l).map (Value.int .i64)):=by
 rw[eL]
 unfold kJ
 rw[List.map_map]
 exact h
theorem BU{es:sY}{j:Nat}{x:jT}(h:(fH es)[j]? =some x.res):(x.res::(fH es).eraseIdx j).Perm (fH es):=by
 obtain⟨h1,h2⟩:=List.getElem?_eq_some_iff.1 h
 have:=gj (fH es) j h1
 rwa [h2]at this
theorem Ba{A:Option Addr}{n c:Nat}:cj Tryz.prog 271 [.slice A n c] [] [] (fun v_ X_ S_=>∃gB,v_=(.func (.func 297) #[] #[.pointer (some ⟨gB,0,none⟩)])∧X_=[aH gB 44 [.slice A n c]]∧S_=[]):=by
 refine aU (N:=4) Tryz.func271 rfl rfl (by simp) fun b=> ?_
 refine ah<|aj<| ?_
 refine hx (cp rfl (fun g1=> ?_))
 refine hy (fun _=>ab rfl)<|ai<|ak (X' :=[_]) (S' :=[]) (fun _ m=>m)<|ag<|ah<|aj<|hy (fun _=>j1 rfl rfl)<|hy (fun _=>ab rfl)<|ai<|al (ρ' :=[(2,_),(1,_),(0,_)]) ⟨rfl,rfl,rfl,trivial⟩<|ag<|aQ<| ?_
 refine ak (fun w m=>m.bQ 0 rfl (show _=aH g1 44 [.slice A n c]from rfl)) ?_
 exact bd trivial rfl rfl [0] rfl [] rfl ⟨_,rfl,rfl,rfl⟩
theorem DU{A:Option Addr}{n c:Nat}:cj Tryz.prog 229 [.slice A n c] [] [] (fun v_ X_ S_=>∃g gm,v_=(.pointer (some ⟨g,0,none⟩))∧X_=[mB g gm A n c 0 []]∧S_=[]):=by
 refine aU (N:=7) Tryz.func229 rfl rfl (by simp) fun b=> ?_
 refine ah<|aj<|hy (fun _=>ab rfl)<|ai<|ag<|ah<|aj<|hy (fun _=>aa rfl)<| ?_
 refine hx (lL (KN (n:=4)) (fun g4=> ?_))
 refine hy (fun _=>cD C8 rfl rfl (by kernel_rfl) (.cons (o:=0) (sz:=1) (by kernel_rfl) rfl rfl (Nat.le_of_ble_eq_true rfl) (.cons (o:=1) (sz:=1) (by kernel_rfl) rfl rfl (Nat.le_of_ble_eq_true rfl) .nil)))<| ?_
 refine hx (cp rfl (fun g6=> ?_))
 refine hy (fun _=>ab rfl)<|ai<|al (ρ' :=[(2,_),(0,_)]) ⟨rfl,rfl,trivial⟩<|ak (X' :=[_,_]) (S' :=[]) (fun _ m=>m)<|ag<|aQ<| ?_
 refine ak (fun w m=>m.AG) ?_
 refine ak (fun w m=>m.bQ 1 rfl (show _=aH g6 359 [.slice A n c,.map (some g4),.int .i64 ((0:Nat):Int)]from rfl)) ?_
 refine ak (X' :=mB g6 g4 A n c 0 []::_) (fun w m=>(m.perm (az [0,1,0] _ [_,_,_] _ rfl)).pack) ?_
 exact bd trivial rfl rfl [0] rfl [] rfl ⟨_,_,rfl,rfl,rfl⟩
theorem yj(zs:List Nat)(i:Nat)(h:∀z∈zs,z<i)(k:Nat)(x:{x:Nat×Nat//x.2<i})(hx:(eN zs i h)[k]? =some x):[Value.int .i64 (x.1.1:Nat),.int .i64 (x.1.2:Nat)]=[.int .i64 (((kJ zs).length-1-k:Nat):Int),.int .i64 ((kJ zs)[(kJ zs).length-1-k]?.getD 0)]:=by
 obtain⟨h1,h2,h3⟩:=se zs i h k x hx
 rw[eL]
 unfold kJ
 rw[List.getElem?_map,h3,h2]
 rfl
theorem B3{g gm:Nat}{A:Option Addr}{n c p i:Nat}{l:List UInt8}{es:sY}(hc:n≤c)(hn:n≤1000000000)(hl:l.length=n)(hpi:p≤i)(hi:i≤n)(hF:wo l p es):cj Tryz.prog 231 [.pointer (some ⟨g,0,none⟩),.int .i64 (i:Nat)] [mB g gm A n c p es] [dw 1 A n (aK l)] (fun v_ X_ S_=>∃p1 es1,v_=(.tuple #[.int .i64 ((a8 l i).1:Nat),.int .i64 ((a8 l i).2:Nat)])∧X_=[mB g gm A n c p1 es1]∧S_=[]∧(p1≤i∧wo l p1 es1)):=by
 refine zD (N:=60) Tryz.func231 rfl rfl (by simp) fun b=> ?_
 refine ba (fun m=>fG (m.rd 0 rfl)) ?_
 rintro⟨hl_r,hA_r⟩
 refine bD (fun w m=>(m.perm (az [0] _ [_] _ rfl)).unpack) ?_
 refine ah<|aj<| ?_
 refine hx (cp rfl (fun g2=> ?_))
 refine hx (cp rfl (fun g3=> ?_))
 refine hy (fun _=>ab rfl)<|hy (fun _=>ab rfl)<|ai<|ak (X' :=[_,_,_,_,_]) (S' :=[_]) (fun _ m=>m)<|ag<|ah<|ah<|cV [] [(0,some 0),(1,some 0),(2,some 0),(3,some 0),(4,some 0),(5,some 0),(6,some 0),(7,some 0)] (by kernel_rfl) (by kernel_rfl) rfl 99<|cn (fun m=>av rfl dV (aB (m.aT 0 rfl) rfl))<|an (aM rfl rfl (bB (by omega) (by omega)))<|cn (fun m=>av rfl m9 (aB (m.aT 1 rfl) rfl))<|an (bx rfl)<|an (aI rfl jo (by decide))<|cn (fun m=>av rfl dO (aB (m.aT 2 rfl) rfl))<|an (aX rfl Tryz.underlying27)<|an (cF rfl rfl)<|bE<|al (ρ' :=[(18,_),(5,_),(4,_),(3,_),(2,_),(0,_),(1,_)]) ⟨rfl,rfl,rfl,rfl,rfl,rfl,rfl,trivial⟩<|ag<| ?_
 refine cI rfl (fun h1=> ?_) (fun h1=> ?_)
 ·have e:=r9 (b:=l) (i:=i) (by omega) (by omega)
  rw[e]
  refine ah<|aj<|hy (fun _=>ab rfl)<|hy (fun _=>ab rfl)<|ai<|ag<|aQ<|ay<| ?_
  refine ak (X' :=mB g gm A n c p es::_) (fun w m=>(m.perm (az [2,2,2] _ [_,_,_] _ rfl)).pack) ?_
  exact tr trivial rfl rfl rfl [0] rfl [] rfl ⟨p,es,rfl,rfl,rfl,⟨hpi,hF⟩⟩
 ·have hi4:i+4≤n:=by omega
  refine aC<|ag<|ah<| ?_
  refine bD (X' :=mB g gm A n c p es::_) (fun w m=>(m.perm (az [2,2,2] _ [_,_,_] _ rfl)).pack) ?_
  refine aj<|hy (fun m=>av rfl m9 (aB (m.aT 2 rfl) rfl))<|hy (fun m=>av rfl dV (aB (m.aT 1 rfl) rfl))<| ?_
  refine hx (aq rfl Tryz.call270 (Ej (by omega) (by omega) hl (by omega) (by omega) hF) [0] rfl [0] rfl ?_)
  rintro _ _ _ ⟨es1,rfl,rfl,rfl,hp⟩
  have hF1:=hp
  refine ai<|al (ρ' :=[(18,_),(5,_),(4,_),(3,_),(2,_),(0,_),(1,_)]) ⟨rfl,rfl,rfl,rfl,rfl,rfl,rfl,trivial⟩<|ak (X' :=[_,_,_]) (S' :=[_]) (fun _ m=>m)<|ag<|ah<|aj<| ?_
  refine hx (aJ Ee (fun g6=> ?_))
  refine hx (aJ Ee (fun g7=> ?_))
  refine cN (dQ 1 rfl rfl rfl rl rfl (by first|exact Nat.le_of_ble_eq_true rfl|simp) ?_)
  refine cN (dQ 1 rfl rfl rfl rl rfl (by first|exact Nat.le_of_ble_eq_true rfl|simp) ?_)
  refine ai<|ak (X' :=[_,_,_,_,_]) (S' :=[_]) (fun _ m=>m)<|ag<|ah<|ah<| ?_
  refine bD (fun w m=>(m.perm (az [2] _ [_] _ rfl)).unpack) ?_
  refine ba (fun m=>(m.rd 0 rfl).some (by omega)) fun h_=> ?_
  obtain⟨a,rfl⟩:∃a_,A=some a_:=⟨_,h_⟩
  clear h_
  rcases hq:bX es1 ⟨ek l i,bK (by omega)⟩with _|x
  ·have e0:=qg hF1 hq
   refine cV [15] [(0,some 1),(1,some 0),(2,some 0),(3,some 0),(4,some 1),(5,some 1),(6,some 1),(7,some 1),(8,some 1),(9,some 1),(10,some 1),(11,some 0),(12,some 0),(13,some 0),(14,some 0),(15,none)] (by kernel_rfl) (by kernel_rfl) rfl 99<|cn (fun m=>av rfl m9 (aB (m.aT 6 rfl) rfl))<|an (bx rfl)<|an (aI rfl qo (by decide))<|cn (fun m=>av rfl xD (aB (m.aT 0 rfl) rfl))<|cn (fun m=>av rfl m9 (aB (m.aT 6 rfl) rfl))<|an (bx rfl)<|an (aI rfl jo (by decide))<|cn (fun m=>av rfl dO (aB (m.aT 0 rfl) rfl))<|cn (fun m=>av rfl dV (aB (m.aT 5 rfl) rfl))<|cn (fun m=>av rfl dV (aB (m.aT 5 rfl) rfl))<|an (aM rfl rfl (bB (by omega) (by omega)))<|an (yV (en rfl rfl rfl Tryz.underlying27 dE rfl (show((i+4:Nat):Int)=_ by omega) (by omega) (by omega)) ((show Value.slice (if c=i then some a else(some a).map (·.add (i*1))) (i+4-i) (c-i)= .slice (some (a.add i)) 4 (c-i) by rw[if_neg (by omega),Nat.mul_one,Nat.add_sub_cancel_left];rfl)))<|an (lW rfl Tryz.underlying364 (by omega))<|cn (fun m=>yV (aR rfl ux r5 (by rw[ax];exact bK (by omega)) (Rd.part (m.rd 0 rfl))) ((show Value.agg (aK ((l.drop i).take 4)).toArray=KN ⟨ek l i,bK (by omega)⟩from rfl)))<|cn (fun m=>yV (iG (enc:=(KN (n:=4))) (k:=⟨ek l i,bK (by omega)⟩) rfl rfl Tryz.underlying357 BQ (xW Tryz.underlying364 Tryz.underlying5 (by kernel_rfl) (by kernel_rfl) (by kernel_rfl)) (m.mF 1 rfl)) ((show gN false (.slice none 0 0) (bX (ji es1) ⟨ek l i,bK (by omega)⟩)= .slice none 0 0 by rw[kx,hq];rfl)))<| ?_
   refine eK (aq rfl Tryz.call271 (Ba) [] rfl [] rfl ?_)
   rintro _ _ _ ⟨gB,rfl,rfl,rfl⟩
   refine⟨(fun _=>wk [1,1,1,1,1,1,1] [0] rfl rfl), ?_⟩
   refine bE<|al (ρ' :=[(37,_),(7,_),(6,_),(18,_),(5,_),(4,_),(3,_),(2,_),(0,_),(1,_)]) ⟨rfl,rfl,rfl,rfl,rfl,rfl,rfl,rfl,rfl,rfl,trivial⟩<|ak (X' :=[_,_,_,_,_,_,_,_]) (S' :=[_]) (fun _ m=>m)<|ag<| ?_
   have hlt:∀z∈([]:List Nat),z<i:=fun z hz=>by cases hz
   refine yf (σ:=Nat×Nat) (α:={x:Nat×Nat//x.2<i}) (ρ' :=[]) (fun s_:Nat×Nat=>[aH g6 3 [.int .i64 (s_.1:Nat)],aH g7 3 [.int .i64 (s_.2:Nat)],aH g3 3 [.int .i64 (i:Nat)],aH g2 322 [.pointer (some ⟨g,0,none⟩)],aH g 359 [.slice (some a) n c,.map (some gm),.int .i64 (i:Nat)]]) (0,0) (fun s_ x_=>fI l i s_ x_.1.2) (fun s_ x_=>1024<i-x_.1.2) (fun x_=>[.int .i64 (x_.1.1:Nat),.int .i64 (x_.1.2:Nat)]) (eN (([]:List Nat)) i hlt) (fun x_=>[(9,.int .i64 (x_.1.2:Nat))]) [(37,_),(7,_),(6,_),(18,_),(5,_),(4,_),(3,_),(2,_),(0,_),(1,_)] ⟨rfl,rfl,rfl,rfl,rfl,rfl,rfl,rfl,rfl,rfl,trivial⟩ rfl Tryz.call297 [5,4,4,4,1] rfl (fun s_ k_=>by simp[dz,aH]) [0] rfl (fun w m=>n0 Fence.wide 2 trivial rfl (by decide) (zs:=kJ (([]:List Nat))) (e:=3) (eN (([]:List Nat)) i hlt) (fun x_=>[.int .i64 (x_.1.1:Nat),.int .i64 (x_.1.2:Nat)]) (by rw[iq,eL]) (yj _ _ _) (by rw[eL];first|omega|simp) (aB (m.aT 0 rfl) rfl) (m.off (is:=[5,4,4,4,1]) rfl 0 rfl rfl) (Go.Eng.Own.nil _ _ _ _) (fun k hk=>hk.elim)) (fun _=>rfl) (by decide) (fun _ _ ha_=>yD rfl (by decide) (by decide) ha_) (fun l_ b_ s_ x_ Q_ h_=> ?_) (fun l_ b s_ x_=> ?_) (fun Dk_ s_ hs_=> ?_)
   ·exact pk (hy (fun _=>ab rfl) ((ai (by refine al ?_ h_;exact⟨rfl,rfl,rfl,rfl,rfl,rfl,rfl,rfl,rfl,rfl,rfl,trivial⟩))))
   ·obtain⟨u1,u2⟩:=s_
    obtain⟨⟨j,q⟩,hq2⟩:=x_
    try dsimp only
    have hq2:q<i:=hq2
    refine ur<|na<|na<|pk<|hy (fun m=>av rfl dV (aB (m.aT 2 rfl) rfl))<|hy (fun _=>aa rfl)<|hy (fun _=>b6 rfl rfl (bB (by omega) (by omega)))<|hy (fun _=>cF rfl rfl)<|ai<|al (ρ' :=[(43,_),(9,_),(37,_),(7,_),(6,_),(18,_),(5,_),(4,_),(3,_),(2,_),(0,_),(1,_)]) ⟨rfl,rfl,rfl,rfl,rfl,rfl,rfl,rfl,rfl,rfl,rfl,rfl,trivial⟩<|jX<| ?_
    refine zK rfl (fun hb=> ?_) (fun hb=> ?_)
    ·refine xo<|ar<|kF (by decide)<| ?_
     exact pX [0,0,0,0,0] rfl [0] rfl ((show 1024<i-q by omega))
    ·refine nH<|jX<|na<|Be [6] [(0,some 0),(1,some 0),(2,some 0),(3,some 0),(4,some 0),(5,some 0),(6,none),(7,some 1)] (by kernel_rfl) (by kernel_rfl) rfl 99<|cn (fun m=>av rfl m9 (aB (m.aT 3 rfl) rfl))<|an (bx rfl)<|an (aI rfl jo (by decide))<|cn (fun m=>av rfl dO (aB (m.aT 4 rfl) rfl))<|cn (fun m=>av rfl dV (aB (m.aT 2 rfl) rfl))<|an (aa rfl)<| ?_
     refine eK (aq rfl Tryz.call272 (Bi (by omega) hl (by omega) (by omega)) [] rfl [0] rfl ?_)
     rintro _ _ _ ⟨rfl,rfl,rfl⟩
     refine⟨(fun _=>wk [0,0,0,0,0] [0] rfl rfl), ?_⟩
     refine an (ab rfl)<|bE<|al (ρ' :=[(10,_),(43,_),(9,_),(37,_),(7,_),(6,_),(18,_),(5,_),(4,_),(3,_),(2,_),(0,_),(1,_)]) ⟨rfl,rfl,rfl,rfl,rfl,rfl,rfl,rfl,rfl,rfl,rfl,rfl,rfl,trivial⟩<|ak (X' :=[_,_,_,_,_]) (S' :=[_]) (fun _ m=>m)<|jX<|na<|pk<|hy (fun _=>aa rfl)<|hy (fun m=>av rfl dV (aB (m.aT 0 rfl) rfl))<|hy (fun _=>cF rfl rfl)<|ai<|al (ρ' :=[(53,_),(10,_),(43,_),(9,_),(37,_),(7,_),(6,_),(18,_),(5,_),(4,_),(3,_),(2,_),(0,_),(1,_)]) ⟨rfl,rfl,rfl,rfl,rfl,rfl,rfl,rfl,rfl,rfl,rfl,rfl,rfl,rfl,trivial⟩<|jX<| ?_
     refine zK rfl (fun hx1=> ?_) (fun hx1=> ?_)
     ·refine xm [2,2,2] [0] rfl rfl [4,5] [(0,some 0),(1,some 1),(2,some 1),(3,some 1),(4,none),(5,none)] (by kernel_rfl) (by kernel_rfl) rfl 99<|an (aa rfl)<|cn (fun m=>av rfl dV (aB (m.aT 0 rfl) rfl))<|an (aa rfl)<|an (yV (b6 rfl rfl (bB (by omega) (by omega))) ((show Value.int .i64 ((i:Int)-(q:Int))= .int .i64 ((i-q:Nat):Int) by congr 1;omega)))<| ?_
      refine ja (dQ 0 rfl rfl rfl rl rfl (by first|exact Nat.le_of_ble_eq_true rfl|simp) ⟨(fun _=>wk [2,2,2] [0] rfl rfl), ?_⟩)
      refine ja (dQ 1 rfl rfl rfl rl rfl (by first|exact Nat.le_of_ble_eq_true rfl|simp) ⟨(fun _=>wk [2,2,2] [0] rfl rfl), ?_⟩)
      refine bE<|al (ρ' :=[(53,_),(10,_),(43,_),(9,_),(37,_),(7,_),(6,_),(18,_),(5,_),(4,_),(3,_),(2,_),(0,_),(1,_)]) ⟨rfl,rfl,rfl,rfl,rfl,rfl,rfl,rfl,rfl,rfl,rfl,rfl,rfl,rfl,trivial⟩<|ak (X' :=[_,_,_,_,_]) (S' :=[_]) (fun _ m=>m)<|aW<| ?_
      exact km (k4 l i q,i-q) (by show fI l i (u1,u2) q=_;unfold fI;rw[if_neg (by omega),if_pos (by show u1<_;omega)]) [1,0,0,0,0] rfl [0] rfl
     ·refine nH<|aW<| ?_
      exact km (u1,u2) (by show fI l i (u1,u2) q=_;unfold fI;rw[if_neg (by omega),if_neg (by show¬u1<_;omega)]) [0,0,0,0,0] rfl [0] rfl
   ·obtain⟨u1,u2⟩:=s_
    have ai:=oA e0.symm (by omega) hlt hs_
    have hu1:u1=(a8 l i).1:=congrArg Prod.fst ai
    have hu2:u2=(a8 l i).2:=congrArg Prod.snd ai
    refine ag<|ah<|cV [] [(0,some 0),(1,some 0),(2,some 0),(3,some 0)] (by kernel_rfl) (by kernel_rfl) rfl 99<|cn (fun m=>av rfl dV (aB (m.aT 1 rfl) rfl))<|cn (fun m=>av rfl dV (aB (m.aT 2 rfl) rfl))<|an (ab rfl)<|an (ab rfl)<|bE<|al (ρ' :=[(5,_),(4,_),(37,_),(7,_),(6,_),(18,_),(3,_),(2,_),(0,_),(1,_)]) ⟨rfl,rfl,rfl,rfl,rfl,rfl,rfl,rfl,rfl,rfl,trivial⟩<|ag<|aQ<| ?_
    refine D0 trivial [0] rfl ?_
    skip
    refine ak (X' :=mB g gm (some a) n c i es1::_) (fun w m=>(m.perm (az [4,5,5] _ [_,_,_] _ rfl)).pack) ?_
    exact tr trivial rfl rfl rfl [0] rfl [] rfl ⟨i,es1,(by rw[←hu1,←hu2]),rfl,rfl,⟨Nat.le_refl _,hF1⟩⟩
  ·have e0:=sy hF1 hq
   refine cV [15] [(0,some 1),(1,some 0),(2,some 0),(3,some 0),(4,some 1),(5,some 1),(6,some 1),(7,some 1),(8,some 1),(9,some 1),(10,some 1),(11,some 0),(12,some 0),(13,some 0),(14,some 0),(15,none)] (by kernel_rfl) (by kernel_rfl) rfl 99<|cn (fun m=>av rfl m9 (aB (m.aT 6 rfl) rfl))<|an (bx rfl)<|an (aI rfl qo (by decide))<|cn (fun m=>av rfl xD (aB (m.aT 0 rfl) rfl))<|cn (fun m=>av rfl m9 (aB (m.aT 6 rfl) rfl))<|an (bx rfl)<|an (aI rfl jo (by decide))<|cn (fun m=>av rfl dO (aB (m.aT 0 rfl) rfl))<|cn (fun m=>av rfl dV (aB (m.aT 5 rfl) rfl))<|cn (fun m=>av rfl dV (aB (m.aT 5 rfl) rfl))<|an (aM rfl rfl (bB (by omega) (by omega)))<|an (yV (en rfl rfl rfl Tryz.underlying27 dE rfl (show((i+4:Nat):Int)=_ by omega) (by omega) (by omega)) ((show Value.slice (if c=i then some a else(some a).map (·.add (i*1))) (i+4-i) (c-i)= .slice (some (a.add i)) 4 (c-i) by rw[if_neg (by omega),Nat.mul_one,Nat.add_sub_cancel_left];rfl)))<|an (lW rfl Tryz.underlying364 (by omega))<|cn (fun m=>yV (aR rfl ux r5 (by rw[ax];exact bK (by omega)) (Rd.part (m.rd 0 rfl))) ((show Value.agg (aK ((l.drop i).take 4)).toArray=KN ⟨ek l i,bK (by omega)⟩from rfl)))<|cn (fun m=>yV (iG (enc:=(KN (n:=4))) (k:=⟨ek l i,bK (by omega)⟩) rfl rfl Tryz.underlying357 BQ (xW Tryz.underlying364 Tryz.underlying5 (by kernel_rfl) (by kernel_rfl) (by kernel_rfl)) (m.mF 1 rfl)) ((show gN false (.slice none 0 0) (bX (ji es1) ⟨ek l i,bK (by omega)⟩)= .slice x.A x.l.length x.c by rw[kx,hq];rfl)))<| ?_
   refine eK (aq rfl Tryz.call271 (Ba) [] rfl [] rfl ?_)
   rintro _ _ _ ⟨gB,rfl,rfl,rfl⟩
   refine⟨(fun _=>wk [1,1,1,1,1,1,1] [0] rfl rfl), ?_⟩
   refine bE<|al (ρ' :=[(37,_),(7,_),(6,_),(18,_),(5,_),(4,_),(3,_),(2,_),(0,_),(1,_)]) ⟨rfl,rfl,rfl,rfl,rfl,rfl,rfl,rfl,rfl,rfl,trivial⟩<|ak (X' :=[_,_,_,_,_,_,_,_]) (S' :=[_]) (fun _ m=>m)<|ag<| ?_
   have hlt:∀z∈x.l,z<i:=fun z hz=>(zN (e0▸hz)).1
   have hxl:x.l.length≤n:=by rw[e0];exact Nat.le_trans (nr _ _ _) (by omega)
   obtain⟨j,hj1,_⟩:=kf hq
   refine bD (X' :=aF 3 1 (.slice x.A x.l.length x.c) x.l.length (ze x.l)::_) (fun w m=>(m.perm (az [3] _ [_] _ rfl)).sQ j hj1) ?_
   refine yf (σ:=Nat×Nat) (α:={x:Nat×Nat//x.2<i}) (ρ' :=[]) (fun s_:Nat×Nat=>[aH g6 3 [.int .i64 (s_.1:Nat)],aH g7 3 [.int .i64 (s_.2:Nat)],aH g3 3 [.int .i64 (i:Nat)],aH g2 322 [.pointer (some ⟨g,0,none⟩)],aH g 359 [.slice (some a) n c,.map (some gm),.int .i64 (i:Nat)]]) (0,0) (fun s_ x_=>fI l i s_ x_.1.2) (fun s_ x_=>1024<i-x_.1.2) (fun x_=>[.int .i64 (x_.1.1:Nat),.int .i64 (x_.1.2:Nat)]) (eN (x.l) i hlt) (fun x_=>[(9,.int .i64 (x_.1.2:Nat))]) [(37,_),(7,_),(6,_),(18,_),(5,_),(4,_),(3,_),(2,_),(0,_),(1,_)] ⟨rfl,rfl,rfl,rfl,rfl,rfl,rfl,rfl,rfl,rfl,trivial⟩ rfl Tryz.call297 [6,5,5,5,3] rfl (fun s_ k_=>by simp[dz,aH]) [0] rfl (fun w m=>n0 Fence.wide 2 trivial rfl (by decide) (zs:=kJ (x.l)) (e:=3) (eN (x.l) i hlt) (fun x_=>[.int .i64 (x_.1.1:Nat),.int .i64 (x_.1.2:Nat)]) (by rw[iq,eL]) (yj _ _ _) (by rw[eL];first|omega|simp) (aB (m.aT 2 rfl) rfl) (m.off (is:=[6,5,5,5,3]) rfl 2 rfl rfl) (w7 (m.own 0 rfl)) (fun k hk=>m.off (is:=[6,5,5,5,3]) rfl 0 rfl hk)) (fun _=>rfl) (by decide) (fun _ _ ha_=>yD rfl (by decide) (by decide) ha_) (fun l_ b_ s_ x_ Q_ h_=> ?_) (fun l_ b s_ x_=> ?_) (fun Dk_ s_ hs_=> ?_)
   ·exact pk (hy (fun _=>ab rfl) ((ai (by refine al ?_ h_;exact⟨rfl,rfl,rfl,rfl,rfl,rfl,rfl,rfl,rfl,rfl,rfl,trivial⟩))))
   ·obtain⟨u1,u2⟩:=s_
    obtain⟨⟨j,q⟩,hq2⟩:=x_
    try dsimp only
    have hq2:q<i:=hq2
    refine ur<|na<|na<|pk<|hy (fun m=>av rfl dV (aB (m.aT 2 rfl) rfl))<|hy (fun _=>aa rfl)<|hy (fun _=>b6 rfl rfl (bB (by omega) (by omega)))<|hy (fun _=>cF rfl rfl)<|ai<|al (ρ' :=[(43,_),(9,_),(37,_),(7,_),(6,_),(18,_),(5,_),(4,_),(3,_),(2,_),(0,_),(1,_)]) ⟨rfl,rfl,rfl,rfl,rfl,rfl,rfl,rfl,rfl,rfl,rfl,rfl,trivial⟩<|jX<| ?_
    refine zK rfl (fun hb=> ?_) (fun hb=> ?_)
    ·refine xo<|ar<|kF (by decide)<| ?_
     exact pX [0,0,0,0,0] rfl [0] rfl ((show 1024<i-q by omega))
    ·refine nH<|jX<|na<|Be [6] [(0,some 0),(1,some 0),(2,some 0),(3,some 0),(4,some 0),(5,some 0),(6,none),(7,some 1)] (by kernel_rfl) (by kernel_rfl) rfl 99<|cn (fun m=>av rfl m9 (aB (m.aT 3 rfl) rfl))<|an (bx rfl)<|an (aI rfl jo (by decide))<|cn (fun m=>av rfl dO (aB (m.aT 4 rfl) rfl))<|cn (fun m=>av rfl dV (aB (m.aT 2 rfl) rfl))<|an (aa rfl)<| ?_
     refine eK (aq rfl Tryz.call272 (Bi (by omega) hl (by omega) (by omega)) [] rfl [0] rfl ?_)
     rintro _ _ _ ⟨rfl,rfl,rfl⟩
     refine⟨(fun _=>wk [0,0,0,0,0] [0] rfl rfl), ?_⟩
     refine an (ab rfl)<|bE<|al (ρ' :=[(10,_),(43,_),(9,_),(37,_),(7,_),(6,_),(18,_),(5,_),(4,_),(3,_),(2,_),(0,_),(1,_)]) ⟨rfl,rfl,rfl,rfl,rfl,rfl,rfl,rfl,rfl,rfl,rfl,rfl,rfl,trivial⟩<|ak (X' :=[_,_,_,_,_]) (S' :=[_]) (fun _ m=>m)<|jX<|na<|pk<|hy (fun _=>aa rfl)<|hy (fun m=>av rfl dV (aB (m.aT 0 rfl) rfl))<|hy (fun _=>cF rfl rfl)<|ai<|al (ρ' :=[(53,_),(10,_),(43,_),(9,_),(37,_),(7,_),(6,_),(18,_),(5,_),(4,_),(3,_),(2,_),(0,_),(1,_)]) ⟨rfl,rfl,rfl,rfl,rfl,rfl,rfl,rfl,rfl,rfl,rfl,rfl,rfl,rfl,trivial⟩<|jX<| ?_
     refine zK rfl (fun hx1=> ?_) (fun hx1=> ?_)
     ·refine xm [2,2,2] [0] rfl rfl [4,5] [(0,some 0),(1,some 1),(2,some 1),(3,some 1),(4,none),(5,none)] (by kernel_rfl) (by kernel_rfl) rfl 99<|an (aa rfl)<|cn (fun m=>av rfl dV (aB (m.aT 0 rfl) rfl))<|an (aa rfl)<|an (yV (b6 rfl rfl (bB (by omega) (by omega))) ((show Value.int .i64 ((i:Int)-(q:Int))= .int .i64 ((i-q:Nat):Int) by congr 1;omega)))<| ?_
      refine ja (dQ 0 rfl rfl rfl rl rfl (by first|exact Nat.le_of_ble_eq_true rfl|simp) ⟨(fun _=>wk [2,2,2] [0] rfl rfl), ?_⟩)
      refine ja (dQ 1 rfl rfl rfl rl rfl (by first|exact Nat.le_of_ble_eq_true rfl|simp) ⟨(fun _=>wk [2,2,2] [0] rfl rfl), ?_⟩)
      refine bE<|al (ρ' :=[(53,_),(10,_),(43,_),(9,_),(37,_),(7,_),(6,_),(18,_),(5,_),(4,_),(3,_),(2,_),(0,_),(1,_)]) ⟨rfl,rfl,rfl,rfl,rfl,rfl,rfl,rfl,rfl,rfl,rfl,rfl,rfl,rfl,trivial⟩<|ak (X' :=[_,_,_,_,_]) (S' :=[_]) (fun _ m=>m)<|aW<| ?_
      exact km (k4 l i q,i-q) (by show fI l i (u1,u2) q=_;unfold fI;rw[if_neg (by omega),if_pos (by show u1<_;omega)]) [1,0,0,0,0] rfl [0] rfl
     ·refine nH<|aW<| ?_
      exact km (u1,u2) (by show fI l i (u1,u2) q=_;unfold fI;rw[if_neg (by omega),if_neg (by show¬u1<_;omega)]) [0,0,0,0,0] rfl [0] rfl
   ·obtain⟨u1,u2⟩:=s_
    have ai:=oA e0 (by omega) hlt hs_
    have hu1:u1=(a8 l i).1:=congrArg Prod.fst ai
    have hu2:u2=(a8 l i).2:=congrArg Prod.snd ai
    refine ag<|ah<|cV [] [(0,some 0),(1,some 0),(2,some 0),(3,some 0)] (by kernel_rfl) (by kernel_rfl) rfl 99<|cn (fun m=>av rfl dV (aB (m.aT 1 rfl) rfl))<|cn (fun m=>av rfl dV (aB (m.aT 2 rfl) rfl))<|an (ab rfl)<|an (ab rfl)<|bE<|al (ρ' :=[(5,_),(4,_),(37,_),(7,_),(6,_),(18,_),(3,_),(2,_),(0,_),(1,_)]) ⟨rfl,rfl,rfl,rfl,rfl,rfl,rfl,rfl,rfl,rfl,trivial⟩<|ag<|aQ<| ?_
    refine D0 trivial [0] rfl ?_
    refine ak (X' :=eX (fH es1)::_) (fun w m=>(Mem.ql (m.perm (az [5,5] _ [_,_] _ rfl))).l7 (BU hj1)) ?_
    refine ak (X' :=mB g gm (some a) n c i es1::_) (fun w m=>(m.perm (az [5,6,0] _ [_,_,_] _ rfl)).pack) ?_
    exact tr trivial rfl rfl rfl [0] rfl [] rfl ⟨i,es1,(by rw[←hu1,←hu2]),rfl,rfl,⟨Nat.le_refl _,hF1⟩⟩
end Go.Proofs.YtmibdabdlgmafaaGreatDoor
end
section
namespace Go.Eng
open Go.RowKit
theorem qL{P:Program}{Q:Exit→Act→World→Prop}{ι:Type}{c rest:Code}(l:Nat)(J:ι→Act→World→Prop)(μ:ι→Nat)(hf:findLabel c l=some rest){a:Act}{w:World}
  (first:c.wp P (Exit.jump l (fun a w=>∃j,J j a w) Q) a w)
  (pass:∀i a w,J i a w→rest.wp P (Exit.jump l (fun a' w' =>∃j,J j a' w' ∧μ j<μ i) Q) a w):(Code.scope c).wp P Q a w:=by
 intro b k cs
 have hg:gotoIn l (.inScope c::k)=some (.code rest:: .inScope c::k):=by simp[gotoIn,hf]
 have key:∀n i a w,μ i=n→J i a w→∃e a' w',Q e a' w' ∧Arrives P (lone (b.at a (.code rest:: .inScope c::k)) cs w) b k cs e a' w' :=by
  intro n
  induction n using Nat.strongRecOn with
  |_ n ih=>
   intro i a w hn hJ
   obtain⟨e,a₁,w₁,hq,harr⟩:=pass i a w hJ b (.inScope c::k) cs
   cases e with
   |normal=>exact⟨.normal,a₁,w₁,hq,Steps.trans harr (.one step_inScope)⟩
   |exit id=>exact⟨.exit id,a₁,w₁,hq,fun k' hk=>harr k' (by simp[exitTo,hk])⟩
   |goto l' =>
    obtain⟨rfl,j,hJ',hlt⟩:=hq
    obtain⟨e₂,a₂,w₂,hq₂,harr₂⟩:=ih _ (by omega) j a₁ w₁ rfl hJ'
    exact⟨e₂,a₂,w₂,hq₂,.of_steps (harr _ hg) harr₂⟩
   |ret=>exact⟨_,a₁,w₁,hq,harr⟩
   |panic ch=>exact⟨_,a₁,w₁,hq,harr⟩
   |outgrown=>exact⟨_,a₁,w₁,hq,harr⟩
 obtain⟨e,a₁,w₁,hq,harr⟩:=first b (.inScope c::k) cs
 cases e with
 |normal=>exact⟨.normal,a₁,w₁,hq,.head step_scope (Steps.trans harr (.one step_inScope))⟩
 |exit id=>exact⟨.exit id,a₁,w₁,hq,fun k' hk=>.head step_scope (harr k' (by simp[exitTo,hk]))⟩
 |goto l' =>
  obtain⟨rfl,j,hJ'⟩:=hq
  obtain⟨e₂,a₂,w₂,hq₂,harr₂⟩:=key _ j a₁ w₁ rfl hJ'
  exact⟨e₂,a₂,w₂,hq₂,.of_steps (.head step_scope (harr _ hg)) harr₂⟩
 |ret=>exact⟨_,a₁,w₁,hq,.of_steps (.one step_scope) harr⟩
 |panic ch=>exact⟨_,a₁,w₁,hq,.of_steps (.one step_scope) harr⟩
 |outgrown=>exact⟨_,a₁,w₁,hq,.of_steps (.one step_scope) harr⟩
section
variable{P:Program}{Q:Exit→Act→World→Prop}{N:Nat}{D:List Deferred}{ρ:Env}{b:cG}{X S:List bf}{c:Code}
theorem CV{ι:Type}{l:Nat}{rest:Code}(μ:ι→Nat)(R:ι→Env)(X1 S1:ι→List bf)(I:ι→Prop)(ρk:Env)(Xr Sr:List bf)(hf:findLabel c l=some rest)
  (first:HC P (Exit.jump l (fun a' w' =>∃j,Ag N D (R j++ρk) a' ∧Mem b (X1 j++Xr) (S1 j++Sr) w' ∧I j) Q) N D c ρ b X S)
  (pass:∀i,I i→HC P (Exit.jump l (fun a' w' =>∃j,Ag N D (R j++ρk) a' ∧Mem b (X1 j++Xr) (S1 j++Sr) w' ∧I j∧μ j<μ i) Q) N D rest (R i++ρk) b (X1 i++Xr) (S1 i++Sr)):HC P Q N D (.scope c) ρ b X S:=fun w m a ha=>
 qL l (fun j a' w' =>Ag N D (R j++ρk) a' ∧Mem b (X1 j++Xr) (S1 j++Sr) w' ∧I j) μ hf (first w m a ha)
  (fun i a' w' h=>Code.wp_mono (fun e a' w' q=>by
   cases e <;> first|exact q|(obtain⟨h0,j,h1,h2,h3,h4⟩:=q;exact⟨h0,j,⟨h1,h2,h3⟩,h4⟩)) (pass i h.2.2 w' h.2.1 a' h.1))
theorem wF{l:Nat}(h:HQ Q N D (.goto l) ρ b X S):HC P Q N D (.goto l) ρ b X S:=fun w m a ha=>wp_goto (h w m a ha)
theorem sZ{K:Act→World→Prop}{l:Nat}(h:HQ Q N D (.goto l) ρ b X S):HQ (Exit.then K Q) N D (.goto l) ρ b X S:=h
theorem vH{l:Nat}{J:Act→World→Prop}(h:HQ Q N D .ret ρ b X S):HQ (Exit.jump l J Q) N D .ret ρ b X S:=h
theorem BT{l:Nat}{J:Act→World→Prop}{r:Code}(h:HQ (Exit.jump l J Q) N D (.goto l) ρ b X S)(k:∀a w,J a w→r.wp P (Exit.jump l J Q) a w):HC P (Exit.jump l J Q) N D (.seq (.label l) r) ρ b X S:=fun w m a ha=>wp_seq (wp_label (k a w (h w m a ha).2))
theorem zO{α:Type}{l:Nat}{rest:Code}(μ:α→Nat)(R:α→Env)(X1 S1:α→List bf)(I:α→Prop)(ρk:Env)(Xr Sr:List bf)(hf:findLabel c l=some rest)
  (first:HC P (Exit.jump l (fun a' w' =>∃x,Ag N D (R x++ρk) a' ∧Mem b (X1 x++Xr) (S1 x++Sr) w' ∧I x) Q) N D c ρ b X S)
  (pass:∀a,I a→HC P (Exit.jump l (fun a' w' =>∃x,Ag N D (R x++ρk) a' ∧Mem b (X1 x++Xr) (S1 x++Sr) w' ∧I x∧μ x<μ a) Q) N D rest (R a++ρk) b (X1 a++Xr) (S1 a++Sr)):HC P Q N D (.scope c) ρ b X S:=
 CV (ι:=α) (fun i=>μ i) (fun i=>R i) (fun i=>X1 i) (fun i=>S1 i) (fun i=>I i) ρk Xr Sr hf
  (fun w m a ha=>Code.wp_mono (fun e a' w' q=>by
   cases e <;> first|exact q|(obtain⟨h0,x,h⟩:=q;exact⟨h0,x,h⟩)) (first w m a ha))
  (fun i hi w m a ha=>Code.wp_mono (fun e a' w' q=>by
   cases e <;> first|exact q|(obtain⟨h0,x,h⟩:=q;exact⟨h0,x,h⟩)) (pass i hi w m a ha))
theorem wC{α:Type}{l:Nat}{r:Code}(μ:α→Nat)(R:α→Env)(X1 S1:α→List bf)(I:α→Prop)(ρk:Env)(hk:eT ρk ρ)(is:List Nat){Xt Xr:List bf}(hX:bO is X=some (Xt,Xr))(hf:findLabel c l=some (.seq .skip r))
  (pass:∀a,I a→HC P (Exit.jump l (fun a' w' =>∃x,Ag N D (R x++ρk) a' ∧Mem b (X1 x++Xr) (S1 x++S) w' ∧I x∧μ x<μ a) Q) N D r (R a++ρk) b (X1 a++Xr) (S1 a++S))
  (first:(∀a w,(∃x,Ag N D (R x++ρk) a∧Mem b (X1 x++Xr) (S1 x++S) w∧I x)→r.wp P (Exit.jump l (fun a' w' =>∃x,Ag N D (R x++ρk) a' ∧Mem b (X1 x++Xr) (S1 x++S) w' ∧I x) Q) a w)→
   HC P (Exit.jump l (fun a' w' =>∃x,Ag N D (R x++ρk) a' ∧Mem b (X1 x++Xr) (S1 x++S) w' ∧I x) Q) N D c ρ b X S):HC P Q N D (.scope c) ρ b X S:=
 zO (l:=l) (rest:=.seq .skip r) μ R X1 S1 I ρk Xr S hf
  (first fun a w h=>by
   obtain⟨x,h1,h2,h3⟩:=h
   exact Code.wp_mono (fun e a' w' q=>by
    cases e <;> first|exact q|(obtain⟨h0,x_,g1,g2,g3,g4⟩:=q;exact⟨h0,x_,g1,g2,g3⟩)) (pass x h3 w h2 a h1))
  (fun a h=>fun w m a9 ha=>wp_seq (wp_skip (pass a h w m a9 ha)))
theorem yN{α:Type}{l M:Nat}{μ:α→Nat}{R:α→Env}{X1 S1:α→List bf}{Xr Sr:List bf}{ρ0:Env}{I:α→Prop}(x:α)(hs:eT (R x++ρ0) ρ)(is:List Nat){Xz:List bf}(hX:bO is X=some (X1 x++Xr,Xz))(js:List Nat)(hS:dB js S=some (S1 x++Sr))(hI:I x)(hlt:μ x<M):
  HQ (Exit.jump l (fun a' w' =>∃x,Ag N D (R x++ρ0) a' ∧Mem b (X1 x++Xr) (S1 x++Sr) w' ∧I x∧μ x<M) Q) N D (.goto l) ρ b X S:=
 fun w m a ha=>⟨rfl,x,ha.sub hs.sub,((m.perm (az _ _ _ _ hX)).jZ).ll (cm _ _ _ hS),hI,hlt⟩
theorem CT{α:Type}{l:Nat}{R:α→Env}{X1 S1:α→List bf}{Xr Sr:List bf}{ρ0:Env}{I:α→Prop}(x:α)(hs:eT (R x++ρ0) ρ)(is:List Nat){Xz:List bf}(hX:bO is X=some (X1 x++Xr,Xz))(js:List Nat)(hS:dB js S=some (S1 x++Sr))(hI:I x):
  HQ (Exit.jump l (fun a' w' =>∃x,Ag N D (R x++ρ0) a' ∧Mem b (X1 x++Xr) (S1 x++Sr) w' ∧I x) Q) N D (.goto l) ρ b X S:=
 fun w m a ha=>⟨rfl,x,ha.sub hs.sub,((m.perm (az _ _ _ _ hX)).jZ).ll (cm _ _ _ hS),hI⟩
end
end Go.Eng
end
section
set_option maxRecDepth 20000
set_option maxHeartbeats 2000000
namespace Go.Proofs.YtmibdabdlgmafaaGreatDoor
open Go.Eng Go.Hx
theorem Dx{g0 g1:Nat}{A1 A2:Option Addr}{c1 c2:Nat}{own out:List UInt8}(hlen:out.length+2*own.length≤4000000000):cj Tryz.prog 230 [.pointer (some ⟨g0,0,none⟩),.pointer (some ⟨g1,0,none⟩)] [aH g0 27 [.slice A1 own.length c1],aF 5 1 (.slice A1 own.length c1) own.length (aK own),aH g1 27 [.slice A2 out.length c2],aF 5 1 (.slice A2 out.length c2) out.length (aK out)] [] (fun v_ X_ S_=>∃A3 A4 c3 c4,v_=(.tuple #[])∧X_=[aH g0 27 [.slice A3 0 c3],aF 5 1 (.slice A3 0 c3) 0 [],aH g1 27 [.slice A4 (out++eV own).length c4],aF 5 1 (.slice A4 (out++eV own).length c4) (out++eV own).length (aK (out++eV own))]∧S_=[]):=by
 obtain⟨o0,ho0⟩:∃o0,o0=out++eV own:=⟨_,rfl⟩
 rw[←ho0]
 refine aU (N:=22) Tryz.func230 rfl rfl (by simp) fun b=> ?_
 refine aN<| ?_
 refine q6 (fun own out A1 c1 A2 c2=>own.length) (fun own out A1 c1 A2 c2=>[]) (fun own out A1 c1 A2 c2=>[aH g0 27 [.slice A1 own.length c1],aF 5 1 (.slice A1 own.length c1) own.length (aK own),aH g1 27 [.slice A2 out.length c2],aF 5 1 (.slice A2 out.length c2) out.length (aK out)]) (fun own out A1 c1 A2 c2=>[]) (fun own out A1 c1 A2 c2=>out.length+2*own.length≤4000000000∧out++eV own=o0) own out A1 c1 A2 c2 [(0,_),(1,_)] ⟨rfl,rfl,trivial⟩ [0,0,0,0] rfl [] rfl (⟨hlen,ho0.symm⟩) trivial (fun own out A1 c1 A2 c2 ⟨hlen,hE⟩=> ?_)
 refine ah<|ah<|aj<|hy (fun m=>av rfl dO (aB (m.aT 0 rfl) rfl))<|hy (fun _=>aX rfl Tryz.underlying27)<|hy (fun _=>cF rfl rfl)<|ai<|al (ρ' :=[(5,_),(0,_),(1,_)]) ⟨rfl,rfl,rfl,trivial⟩<|ag<| ?_
 refine cI rfl (fun h0=> ?_) (fun h0=> ?_)
 ·have hne:own≠ []:=fun e=>by rw[e]at h0;exact absurd h0 (by decide)
  rw[mn hne]at hE
  obtain⟨k,hk⟩:∃k,k=min own.length 128:=⟨_,rfl⟩
  have hk1:1≤k∧k≤128∧k≤own.length:=by omega
  rw[←hk]at hE
  have htk:own.take 128=own.take k:=by
   rcases Nat.lt_or_ge own.length 128 with h|h
   ·rw[List.take_of_length_le (by omega),List.take_of_length_le (by omega)]
   ·rw[show k=128 by omega]
  have hdk:own.drop 128=own.drop k:=by
   rcases Nat.lt_or_ge own.length 128 with h|h
   ·rw[List.drop_of_length_le (by omega),List.drop_of_length_le (by omega)]
   ·rw[show k=128 by omega]
  rw[htk,hdk]at hE
  refine ba (fun m=>(Own.rd (m.own 1 rfl)).2.1) fun hc1=> ?_
  refine aC<|ag<|aN<|ah<|aj<|hy (fun m=>av rfl dO (aB (m.aT 0 rfl) rfl))<|hy (fun _=>aX rfl Tryz.underlying27)<|hy (fun _=>yV (sF rfl rfl) ((show Value.int .i64 _= .int .i64 (k:Nat) by congr 1;omega)))<|hy (fun _=>ab rfl)<|ai<|al (ρ' :=[(2,_),(5,_),(0,_),(1,_)]) ⟨rfl,rfl,rfl,rfl,trivial⟩<|ag<|ah<|xS [0,0,0] [] rfl rfl [4,5,9,10] [(0,some 1),(1,some 3),(2,some 0),(3,some 0),(6,some 2),(7,some 2),(8,some 2),(4,none),(5,none),(9,none),(10,none)] (by kernel_rfl) (by kernel_rfl) rfl 3<|cn (fun m=>av rfl dO (aB (m.aT 2 rfl) rfl))<|an (aa rfl)<|an (yV (b6 rfl rfl (bB (by omega) (by omega))) ((show Value.int .i64 ((k:Int)-1)= .int .i64 ((k-1:Nat):Int) by congr 1;omega)))<|an (yV (bJ rfl Tryz.underlying3 Tryz.underlying5 (fl (k-1))) ((show Value.int .u8 _=B8 (UInt8.ofNat (k-1))from rfl)))<|cn (fun m=>av rfl dO (aB (m.aT 0 rfl) rfl))<|an (aa rfl)<|an (jA rfl rfl Tryz.underlying27 dE rfl (by omega))<| ?_
  refine eK (cg Tryz.underlying27 ey rfl rfl rfl (by simp[Value.cells,B8]) (by decide) (by decide) (fun g13=>⟨(fun _=>wk [1,1,1] [] rfl rfl), ?_⟩))
  have hA_b13:0<1→(some (⟨g13,0,none⟩:Addr))≠none:=fun _ h=>by cases h
  refine eK (bu 4 rfl rfl rfl Tryz.underlying27 Tryz.underlying27 (by exact .inl rfl) ey rfl (fun m=>Src.bN (m.ord 0 rfl)) (aS (l:=[UInt8.ofNat (k-1)])) (by unfold maxLen;omega) (by omega) (fun u=>⟨(fun _=>wk [2,2,2] [] rfl rfl), ?_⟩))
  refine cP (fun m=>(m.own 0 rfl).slice) ?_
  rintro⟨A_y,c_y,rfl,hc_y⟩
  refine cP (fun m=>(m.ord 0 rfl).2.1) fun hA_y=> ?_
  refine eK (bu 0 rfl rfl rfl Tryz.underlying27 Tryz.underlying27 (by exact .inl rfl) ey rfl (fun m=>Src.bN (Rd.Bp (m.ord 3 rfl) hk1.2.2)) aS (by unfold maxLen;omega) (by omega) (fun u2=>⟨(fun _=>wk [2,2,2] [] rfl rfl), ?_⟩))
  refine cP (fun m=>(m.own 0 rfl).slice) ?_
  rintro⟨A_y2,c_y2,rfl,hc_y⟩
  refine cP (fun m=>(m.ord 0 rfl).2.1) fun hA_y=> ?_
  refine ja (dQ 4 rfl rfl rfl mq rfl (by first|exact Nat.le_of_ble_eq_true rfl|simp) ⟨(fun h=>absurd h (by decide)), ?_⟩)
  refine bE<|al (ρ' :=[(2,_),(5,_),(0,_),(1,_)]) ⟨rfl,rfl,rfl,rfl,trivial⟩<|ak (X' :=[_,_,_,_,_]) (S' :=[]) (fun _ m=>m)<|ag<|aj<|hy (fun m=>av rfl dO (aB (m.aT 3 rfl) rfl))<|hy (fun _=>aa rfl)<|hy (fun _=>dm rfl rfl Tryz.underlying27 dE rfl (by omega))<| ?_
  refine cN (dQ 3 rfl rfl rfl mq rfl (by first|exact Nat.le_of_ble_eq_true rfl|simp) ?_)
  refine ai<|al (ρ' :=[(2,_),(5,_),(0,_),(1,_)]) ⟨rfl,rfl,rfl,rfl,trivial⟩<|ak (X' :=[_,_,_,_,_]) (S' :=[]) (fun _ m=>m)<|aW<| ?_
  refine ak (X' :=aF 5 1 (.slice (if c1=k then A1 else A1.map (·.add (k*1))) (own.length-k) (c1-k)) (own.length-k) ((aK own).drop (k*1))::_) (fun w m=>(m.perm (az [4] _ [_] _ rfl)).xl (View.qW hk1.2.2 hc1)) ?_
  have hdl:own.length-k=(own.drop k).length:=by rw[List.length_drop]
  have hol:out.length+1+k=(out++(UInt8.ofNat (k-1)::own.take k)).length:=by simp;omega
  rw[hdl,hol]
  refine ak (fun w m=>m.bQ 0 rfl (show _=aF 5 1 (.slice (if c1=k then A1 else A1.map (·.add (k*1))) (own.drop k).length (c1-k)) (own.drop k).length (aK (own.drop k))from congrArg (aF _ _ _ _) (by rw[Nat.mul_one,oo]))) ?_
  refine ak (fun w m=>m.bQ 3 rfl (show _=aF 5 1 (.slice A_y2 (out++(UInt8.ofNat (k-1)::own.take k)).length c_y2) (out++(UInt8.ofNat (k-1)::own.take k)).length (aK (out++(UInt8.ofNat (k-1)::own.take k)))from congrArg (aF _ _ _ _) (show aK out++aK [UInt8.ofNat (k-1)]++aK (own.take k)=_ by rw[←bm,←bm,List.append_assoc];rfl))) ?_
  refine ig (own.drop k) (out++(UInt8.ofNat (k-1)::own.take k)) _ _ _ _ ⟨rfl,rfl,trivial⟩ [2,1,1,0] rfl [] rfl (⟨by rw[←hdl,←hol];omega,by rw[←hE];simp⟩) (by rw[←hdl];omega)
 ·have hne:own=[]:=List.eq_nil_of_length_eq_zero (by omega)
  rw[hne,oF,List.append_nil]at hE
  subst hne
  subst hE
  refine bS<|ar<|ar<|aE<| ?_
  exact gH trivial rfl [0,0,0,0] rfl [] rfl ⟨_,_,_,_,rfl,rfl,rfl⟩
structure Aj where
 g:Nat
 gm:Nat
 g4:Nat
 g5:Nat
 i:Nat
 p:Nat
 c1:Nat
 c2:Nat
 A1:Option Addr
 A2:Option Addr
 own:List UInt8
 out:List UInt8
 es:sY
theorem DZ{A:Option Addr}{n c:Nat}{l:List UInt8}(hc:n≤c)(hn:n≤500000000)(hl:l.length=n):cj Tryz.prog 178 [.slice A n c] [] [dw 1 A n (aK l)] (fun v_ X_ S_=>∃v,v_=v∧X_=[aF 5 1 v (eD l).length (aK (eD l))]∧S_=[]):=by
 refine aU (N:=56) Tryz.func178 rfl rfl (by simp) fun b=> ?_
 refine ba (fun m=>fG (m.rd 0 rfl)) ?_
 rintro⟨hl_r,hA_r⟩
 refine ah<|aj<|hy (fun _=>ab rfl)<|ai<|ag<| ?_
 refine wC (l:=0) (fun(t:Aj)=>n-t.i) (fun(t:Aj)=>[(7,.int .i64 (t.i:Nat)),(3,.pointer (some ⟨t.g,0,none⟩)),(4,.pointer (some ⟨t.g4,0,none⟩)),(5,.pointer (some ⟨t.g5,0,none⟩)),(6,.func (.func 230) #[] #[.pointer (some ⟨t.g5,0,none⟩),.pointer (some ⟨t.g4,0,none⟩)])]) (fun(t:Aj)=>[mB t.g t.gm A n c t.p t.es,aH t.g5 27 [.slice t.A1 t.own.length t.c1],aF 5 1 (.slice t.A1 t.own.length t.c1) t.own.length (aK t.own),aH t.g4 27 [.slice t.A2 t.out.length t.c2],aF 5 1 (.slice t.A2 t.out.length t.c2) t.out.length (aK t.out)]) (fun(t:Aj)=>[]) (fun(t:Aj)=>t.i≤n∧t.p≤t.i∧wo l t.p t.es∧t.out.length+2*t.own.length≤2*t.i∧gF l t.i t.own t.out=eD l) [(0,_)] ⟨rfl,trivial⟩ [] rfl rfl (fun t ⟨hin,hpi,hF,hlen,hE⟩=> ?_) (fun hfall_=> ?_)
 ·obtain⟨g,gm,g4,g5,i,p,c1,c2,A1,A2,own,out,es⟩:=t
  dsimp only at hin hpi hF hlen hE ⊢
  refine ah<|ah<|aj<|hy (fun _=>aa rfl)<|hy (fun _=>aa rfl)<|hy (fun _=>aX rfl Tryz.underlying27)<|hy (fun _=>cy rfl rfl)<|ai<|al (ρ' :=[(16,_),(7,_),(3,_),(4,_),(5,_),(6,_),(0,_)]) ⟨rfl,rfl,rfl,rfl,rfl,rfl,rfl,trivial⟩<|ag<| ?_
  refine yg rfl (fun hfin=> ?_) (fun hfin=> ?_)
  ·have hi:i=n:=by have:=of_decide_eq_true hfin;omega
   rw[me (by omega)]at hE
   refine ah<|aj<|hy (fun _=>aa rfl)<| ?_
   refine hx (oM rfl rfl Tryz.call230 (Dx (by omega)) [1,1,1,1] rfl [] rfl ?_)
   rintro _ _ _ ⟨A3,A4,c3,c4,rfl,rfl,rfl⟩
   rw[hE]
   refine ai<|al (ρ' :=[(16,_),(7,_),(3,_),(4,_),(5,_),(6,_),(0,_)]) ⟨rfl,rfl,rfl,rfl,rfl,rfl,rfl,trivial⟩<|ak (X' :=[_,_,_,_,_]) (S' :=[_]) (fun _ m=>m)<|ag<|ah<|aj<|hy (fun m=>av rfl dO (aB (m.aT 2 rfl) rfl))<|hy (fun _=>ab rfl)<|ai<|al (ρ' :=[(2,_),(16,_),(7,_),(3,_),(4,_),(5,_),(6,_),(0,_)]) ⟨rfl,rfl,rfl,rfl,rfl,rfl,rfl,rfl,trivial⟩<|ag<|aQ<|ay<|vH<| ?_
   exact bd trivial rfl rfl [3] rfl [] rfl ⟨_,rfl,rfl,rfl⟩
  ·have hi:i<n:=by have:=of_decide_eq_false hfin;omega
   refine aC<|ag<|ah<|aj<|hy (fun _=>aa rfl)<|hy (fun _=>aa rfl)<| ?_
   refine hx (aq rfl Tryz.call231 (B3 (by omega) (by omega) hl (by omega) (by omega) hF) [0] rfl [0] rfl ?_)
   rintro _ _ _ ⟨p1,es1,rfl,rfl,rfl,hp⟩
   obtain⟨hp1,hF1⟩:=hp
   refine hy (fun _=>aa rfl)<|hy (fun _=>ao rfl rfl)<|hy (fun _=>ao rfl rfl)<|hy (fun _=>ab rfl)<|hy (fun _=>ab rfl)<|ai<|al (ρ' :=[(9,_),(8,_),(16,_),(7,_),(3,_),(4,_),(5,_),(6,_),(0,_)]) ⟨rfl,rfl,rfl,rfl,rfl,rfl,rfl,rfl,rfl,trivial⟩<|ak (X' :=[_,_,_,_,_]) (S' :=[_]) (fun _ m=>m)<|ag<|ah<|ah<|aj<|hy (fun _=>aa rfl)<|hy (fun _=>cy rfl rfl)<|ai<|al (ρ' :=[(27,_),(9,_),(8,_),(16,_),(7,_),(3,_),(4,_),(5,_),(6,_),(0,_)]) ⟨rfl,rfl,rfl,rfl,rfl,rfl,rfl,rfl,rfl,rfl,trivial⟩<|ag<| ?_
   refine cI rfl (fun h0=> ?_) (fun h0=> ?_)
   ·rw[mH (by omega) (by omega)]at hE
    refine ah<|xS [0,0,1,1] [0] rfl rfl [5,6,7] [(0,some 1),(1,some 0),(2,some 0),(3,some 0),(4,some 0),(5,none),(6,none),(7,none)] (by kernel_rfl) (by kernel_rfl) rfl 2<|cn (fun m=>av rfl dO (aB (m.aT 1 rfl) rfl))<|an (aa rfl)<|an (aa rfl)<|an (aL rfl rfl Tryz.underlying27 dE hA_r rfl (by omega))<|cn (fun m=>av rfl iy ((m.rd 0 rfl).cell (bC (by omega))))<| ?_
    refine eK (cg Tryz.underlying27 ey rfl rfl rfl (by simp[Value.cells,B8]) (by decide) (by decide) (fun g33=>⟨(fun _=>wk [1,1,2,2] [0] rfl rfl), ?_⟩))
    have hA_b33:0<1→(some (⟨g33,0,none⟩:Addr))≠none:=fun _ h=>by cases h
    refine jW (fun w m=>m.bQ 0 rfl (show _=aF 5 1 (.slice (some ⟨g33,0,none⟩) 1 1) 1 (aK [l.getD i 0])from rfl)) ?_
    refine eK (bu 3 rfl rfl rfl Tryz.underlying27 Tryz.underlying27 (by exact .inl rfl) ey rfl (fun m=>Src.bN (m.ord 0 rfl)) aS (by unfold maxLen;omega) (by omega) (fun u=>⟨(fun _=>wk [2,2,2,2] [0] rfl rfl), ?_⟩))
    refine cP (fun m=>(m.own 0 rfl).slice) ?_
    rintro⟨A_x,c_x,rfl,hc_x⟩
    refine cP (fun m=>(m.ord 0 rfl).2.1) fun hA_x=> ?_
    refine ja (dQ 3 rfl rfl rfl mq rfl (by first|exact Nat.le_of_ble_eq_true rfl|simp) ⟨(fun h=>absurd h (by decide)), ?_⟩)
    refine bE<|al (ρ' :=[(27,_),(9,_),(8,_),(16,_),(7,_),(3,_),(4,_),(5,_),(6,_),(0,_)]) ⟨rfl,rfl,rfl,rfl,rfl,rfl,rfl,rfl,rfl,rfl,trivial⟩<|ak (X' :=[_,_,_,_,_,_]) (S' :=[_]) (fun _ m=>m)<|ag<|ah<|aj<|hy (fun _=>aa rfl)<|hy (fun _=>aM rfl rfl (bB (by omega) (by omega)))<|hy (fun _=>ab rfl)<|ai<|al (ρ' :=[(7,_),(27,_),(9,_),(8,_),(16,_),(3,_),(4,_),(5,_),(6,_),(0,_)]) ⟨rfl,rfl,rfl,rfl,rfl,rfl,rfl,rfl,rfl,rfl,trivial⟩<|ag<|wF<|sZ<| ?_
    have hol:own.length+1=(own++[l.getD i 0]).length:=by simp
    rw[hol]
    refine ak (fun w m=>m.bQ 1 rfl (show _=aF 5 1 (.slice A_x (own++[l.getD i 0]).length c_x) (own++[l.getD i 0]).length (aK (own++[l.getD i 0]))from congrArg (aF _ _ _ _) (bm _ _).symm)) ?_
    exact yN (⟨g,gm,g4,g5,i+1,p1,c_x,c2,A_x,A2,own++[l.getD i 0],out,es1⟩) ⟨rfl,rfl,rfl,rfl,rfl,rfl,trivial⟩ [3,1,0,1,1] rfl [0] rfl (⟨hi,Nat.le_succ_of_le hp1,hF1,by show out.length+2*(own++[l.getD i 0]).length≤2*(i+1);rw[←hol];omega,hE⟩) (by show n-(i+1)<n-i;omega)
   ·have hm:=mh (b:=l) (i:=i) (by omega)
    rw[jY (by omega) (by omega)]at hE
    obtain⟨m1,m2,m3,m4,m5,m6⟩:=hm.resolve_left (fun e=>h0 (by rw[e];rfl))
    refine aC<|ag<|ah<|aj<|hy (fun _=>aa rfl)<| ?_
    refine hx (oM rfl rfl Tryz.call230 (Dx (by omega)) [1,1,1,1] rfl [] rfl ?_)
    rintro _ _ _ ⟨A3,A4,c3,c4,rfl,rfl,rfl⟩
    refine ai<|al (ρ' :=[(27,_),(9,_),(8,_),(16,_),(7,_),(3,_),(4,_),(5,_),(6,_),(0,_)]) ⟨rfl,rfl,rfl,rfl,rfl,rfl,rfl,rfl,rfl,rfl,trivial⟩<|ak (X' :=[_,_,_,_,_]) (S' :=[_]) (fun _ m=>m)<|ag<|ah<|aj<|hy (fun m=>av rfl dO (aB (m.aT 2 rfl) rfl))<|hy (fun _=>aa rfl)<|hy (fun _=>aM rfl rfl (bB (by omega) (by omega)))<|hy (fun _=>yV (b6 rfl rfl (bB (by omega) (by omega))) ((show Value.int .i64 (128+((a8 l i).1:Int)-4)= .int .i64 ((124+(a8 l i).1:Nat):Int) by congr 1;omega)))<|hy (fun _=>yV (bJ rfl Tryz.underlying3 Tryz.underlying5 (fl _)) ((show Value.int .u8 _=B8 (UInt8.ofNat (124+(a8 l i).1))from rfl)))<|hy (fun _=>aa rfl)<|hy (fun _=>yV (b6 rfl rfl (bB (by omega) (by omega))) ((show Value.int .i64 (((a8 l i).2:Int)-1)= .int .i64 (((a8 l i).2-1:Nat):Int) by congr 1;omega)))<|hy (fun _=>yV (bJ rfl Tryz.underlying3 Tryz.underlying5 (fl _)) ((show Value.int .u8 _=B8 (UInt8.ofNat ((a8 l i).2-1))from rfl)))<|hy (fun _=>aa rfl)<|hy (fun _=>yV (b6 rfl rfl (bB (by omega) (by omega))) ((show Value.int .i64 (((a8 l i).2:Int)-1)= .int .i64 (((a8 l i).2-1:Nat):Int) by congr 1;omega)))<|hy (fun _=>yV (kO (p:=256) rfl rfl (by decide) (by decide) (by decide)) ((show Value.int .i64 ((((a8 l i).2-1:Nat):Int)/256)= .int .i64 ((((a8 l i).2-1)/256:Nat):Int) by congr 1)))<|hy (fun _=>yV (bJ rfl Tryz.underlying3 Tryz.underlying5 (fl _)) ((show Value.int .u8 _=B8 (UInt8.ofNat (((a8 l i).2-1)/256))from rfl)))<| ?_
    refine hx (cg Tryz.underlying27 ey rfl rfl rfl (by simp[Value.cells,B8]) (by decide) (by decide) (fun g51=> ?_))
    have hA_b51:0<3→(some (⟨g51,0,none⟩:Addr))≠none:=fun _ h=>by cases h
    refine aV (fun w m=>m.bQ 0 rfl (show _=aF 5 1 (.slice (some ⟨g51,0,none⟩) 3 3) 3 (aK (hZ (a8 l i)))from rfl)) ?_
    have hll:=fo own
    have hlo:(out++eV own).length=out.length+(eV own).length:=by simp
    refine hx (bu 4 rfl rfl rfl Tryz.underlying27 Tryz.underlying27 (by exact .inl rfl) ey rfl (fun m=>Src.bN (m.ord 0 rfl)) aS (by unfold maxLen;omega) (by omega) (fun u=> ?_))
    refine aw (fun m=>(m.own 0 rfl).slice) ?_
    rintro⟨A_y,c_y,rfl,hc_y⟩
    refine aw (fun m=>(m.ord 0 rfl).2.1) fun hA_y=> ?_
    refine cN (dQ 4 rfl rfl rfl mq rfl (by first|exact Nat.le_of_ble_eq_true rfl|simp) ?_)
    refine ai<|al (ρ' :=[(27,_),(9,_),(8,_),(16,_),(7,_),(3,_),(4,_),(5,_),(6,_),(0,_)]) ⟨rfl,rfl,rfl,rfl,rfl,rfl,rfl,rfl,rfl,rfl,trivial⟩<|ak (X' :=[_,_,_,_,_,_]) (S' :=[_]) (fun _ m=>m)<|ag<|ah<|aj<|hy (fun _=>aa rfl)<|hy (fun _=>aa rfl)<|hy (fun _=>yV (aM rfl rfl (bB (by omega) (by omega))) ((show Value.int .i64 ((i:Int)+((a8 l i).1:Int))= .int .i64 ((i+(a8 l i).1:Nat):Int) by congr 1)))<|hy (fun _=>ab rfl)<|ai<|al (ρ' :=[(7,_),(27,_),(9,_),(8,_),(16,_),(3,_),(4,_),(5,_),(6,_),(0,_)]) ⟨rfl,rfl,rfl,rfl,rfl,rfl,rfl,rfl,rfl,rfl,trivial⟩<|ag<|wF<| ?_
    have hol:(out++eV own).length+3=(out++eV own++hZ (a8 l i)).length:=by simp[hZ];omega
    rw[hol]
    refine ak (fun w m=>m.bQ 1 rfl (show _=aF 5 1 (.slice A_y (out++eV own++hZ (a8 l i)).length c_y) (out++eV own++hZ (a8 l i)).length (aK (out++eV own++hZ (a8 l i)))from congrArg (aF _ _ _ _) (bm _ _).symm)) ?_
    exact yN (⟨g,gm,g4,g5,i+(a8 l i).1,p1,c3,c_y,A3,A_y,[],out++eV own++hZ (a8 l i),es1⟩) ⟨rfl,rfl,rfl,rfl,rfl,rfl,trivial⟩ [5,3,3,1,0] rfl [0] rfl (⟨by show i+(a8 l i).1≤n;omega,by show p1≤i+(a8 l i).1;omega,hF1,by show(out++eV own++hZ (a8 l i)).length+2*0≤2*(i+(a8 l i).1);rw[←hol];omega,hE⟩) (by show n-(i+(a8 l i).1)<n-i;omega)
 ·refine ah<|aj<|hy (fun _=>aa rfl)<| ?_
  refine hx (aq rfl Tryz.call229 (DU) [] rfl [] rfl ?_)
  rintro _ _ _ ⟨g,gm,rfl,rfl,rfl⟩
  refine hy (fun _=>ab rfl)<|ai<|al (ρ' :=[(3,_),(2,_),(0,_)]) ⟨rfl,rfl,rfl,trivial⟩<|ak (X' :=[_]) (S' :=[_]) (fun _ m=>m)<|ag<|ah<|aj<| ?_
  refine hx (aJ qK (fun g4=> ?_))
  refine hx (aJ qK (fun g5=> ?_))
  refine ai<|ak (X' :=[_,_,_]) (S' :=[_]) (fun _ m=>m)<|ag<|ah<|aj<|hy (fun _=>j1 rfl rfl)<|hy (fun _=>ab rfl)<|ai<|al (ρ' :=[(6,_),(5,_),(4,_),(3,_),(2,_),(0,_)]) ⟨rfl,rfl,rfl,rfl,rfl,rfl,trivial⟩<|ag<|ah<|aj<|hy (fun _=>ab rfl)<|ai<|ag<| ?_
  refine bD (fun w m=>m.bQ 1 rfl (show _=aH g4 27 [.slice none 0 0]from rfl)) ?_
  refine bD (fun w m=>m.bQ 1 rfl (show _=aH g5 27 [.slice none 0 0]from rfl)) ?_
  refine bD (fun w m=>m.cL (r' :=aF 5 1 (.slice none 0 0) 0 []) (.refl _ _) (Own.nil _ _ _ _) (fun k hk=>hk.elim)) ?_
  refine bD (fun w m=>m.cL (r' :=aF 5 1 (.slice none 0 0) 0 []) (.refl _ _) (Own.nil _ _ _ _) (fun k hk=>hk.elim)) ?_
  exact BT (CT (R:=fun(t:Aj)=>[(7,.int .i64 (t.i:Nat)),(3,.pointer (some ⟨t.g,0,none⟩)),(4,.pointer (some ⟨t.g4,0,none⟩)),(5,.pointer (some ⟨t.g5,0,none⟩)),(6,.func (.func 230) #[] #[.pointer (some ⟨t.g5,0,none⟩),.pointer (some ⟨t.g4,0,none⟩)])]) (X1:=fun(t:Aj)=>[mB t.g t.gm A n c t.p t.es,aH t.g5 27 [.slice t.A1 t.own.length t.c1],aF 5 1 (.slice t.A1 t.own.length t.c1) t.own.length (aK t.own),aH t.g4 27 [.slice t.A2 t.out.length t.c2],aF 5 1 (.slice t.A2 t.out.length t.c2) t.out.length (aK t.out)]) (S1:=fun(t:Aj)=>[]) (I:=fun(t:Aj)=>t.i≤n∧t.p≤t.i∧wo l t.p t.es∧t.out.length+2*t.own.length≤2*t.i∧gF l t.i t.own t.out=eD l) (⟨g,gm,g4,g5,0,0,0,0,none,none,[],[],[]⟩) ⟨rfl,rfl,rfl,rfl,rfl,rfl,trivial⟩ [4,2,1,1,0] rfl [0] rfl (⟨Nat.zero_le _,Nat.le_refl _,AI _,Nat.le_refl _,rfl⟩)) hfall_
end Go.Proofs.YtmibdabdlgmafaaGreatDoor
end
section
set_option maxRecDepth 20000
set_option maxHeartbeats 2000000
namespace Go.Proofs.YtmibdabdlgmafaaGreatDoor
open Go.Eng Go.Hx
theorem nN{A:Option Addr}{n c:Nat}{l:List UInt8}(hn:n≤70368744177664):cj Tryz.prog 180 [.slice A n c] [] [dw 1 A n (aK l)] (fun v_ X_ S_=>v_=(.int .u32 (db l:Nat))∧X_=[]∧S_=[]):=by
 exact fx fun m=>Calls.mono (rL A n c l _ (m.rd 0 rfl) (by omega)) (fun e w' ⟨h,hf⟩=>⟨_,h,⟨rfl,rfl,rfl⟩,hf⟩)
theorem jc{k:Nat}(hk:k<4294967296):cj Tryz.prog 179 [.int .u32 (k:Nat)] [] [] (fun v_ X_ S_=>∃v,v_=v∧X_=[aF 5 1 v 4 (aK (gx k))]∧S_=[]):=by
 refine aU (N:=15) Tryz.func179 rfl rfl (by simp) fun b=> ?_
 refine ah<|aj<|hy (fun _=>ab rfl)<|ai<|ag<|ah<|aj<|hy (fun _=>aa rfl)<|hy (fun _=>yV (bJ rfl Tryz.underlying166 Tryz.underlying5 (fl _)) ((show Value.int .u8 _=B8 (UInt8.ofNat k)from rfl)))<|hy (fun _=>aa rfl)<|hy (fun _=>yV (kO (p:=256) rfl rfl (by decide) (by decide) (by decide)) ((show Value.int .u32 ((k:Int)/256)= .int .u32 ((k/256:Nat):Int) by congr 1)))<|hy (fun _=>yV (bJ rfl Tryz.underlying166 Tryz.underlying5 (fl _)) ((show Value.int .u8 _=B8 (UInt8.ofNat (k/256))from rfl)))<|hy (fun _=>aa rfl)<|hy (fun _=>yV (kO (p:=65536) rfl rfl (by decide) (by decide) (by decide)) ((show Value.int .u32 ((k:Int)/65536)= .int .u32 ((k/65536:Nat):Int) by congr 1)))<|hy (fun _=>yV (bJ rfl Tryz.underlying166 Tryz.underlying5 (fl _)) ((show Value.int .u8 _=B8 (UInt8.ofNat (k/65536))from rfl)))<|hy (fun _=>aa rfl)<|hy (fun _=>yV (kO (p:=16777216) rfl rfl (by decide) (by decide) (by decide)) ((show Value.int .u32 ((k:Int)/16777216)= .int .u32 ((k/16777216:Nat):Int) by congr 1)))<|hy (fun _=>yV (bJ rfl Tryz.underlying166 Tryz.underlying5 (fl _)) ((show Value.int .u8 _=B8 (UInt8.ofNat (k/16777216))from rfl)))<| ?_
 refine hx (cg Tryz.underlying27 ey rfl rfl rfl (by simp[Value.cells,B8]) (by decide) (by decide) (fun g14=> ?_))
 have hA_b14:0<4→(some (⟨g14,0,none⟩:Addr))≠none:=fun _ h=>by cases h
 refine hy (fun _=>ab rfl)<|ai<|al (ρ' :=[(2,_),(0,_)]) ⟨rfl,rfl,trivial⟩<|ak (X' :=[_]) (S' :=[]) (fun _ m=>m)<|ag<|aQ<| ?_
 refine ak (fun w m=>m.bQ 0 rfl (show _=aF 5 1 (.slice (some ⟨g14,0,none⟩) 4 4) 4 (aK (gx k))from rfl)) ?_
 exact bd trivial rfl rfl [0] rfl [] rfl ⟨_,rfl,rfl,rfl⟩
theorem Bq{A:Option Addr}{n c:Nat}{l:List UInt8}(hc:n≤c)(hn:n≤100000000)(hl:l.length=n):cj Tryz.prog 106 [.slice A n c] [] [dw 1 A n (aK l)] (fun v_ X_ S_=>∃v,v_=v∧X_=[aF 5 1 v (b4 l).length (aK (b4 l))]∧S_=[]):=by
 have hpl:=lH l
 have hlt:n<4294967296:=by omega
 have hcl:=gT l
 refine aU (N:=31) Tryz.func106 rfl rfl (by simp) fun b=> ?_
 refine ba (fun m=>fG (m.rd 0 rfl)) ?_
 rintro⟨hl_r,hA_r⟩
 refine ah<|aj<|hy (fun _=>ab rfl)<|ai<|ag<|ah<|aj<|hy (fun _=>aa rfl)<|hy (fun _=>ab rfl)<|hy (fun _=>ab rfl)<|ai<|al (ρ' :=[(4,_),(3,_),(2,_),(0,_)]) ⟨rfl,rfl,rfl,rfl,trivial⟩<|ag<|ah<|ah<|aj<|hy (fun _=>aa rfl)<| ?_
 refine hx (aq rfl Tryz.call178 (DZ (by omega) (by omega) (by omega)) [] rfl [0] rfl ?_)
 rintro _ _ _ ⟨v,rfl,rfl,rfl⟩
 refine aw (fun m=>(m.own 0 rfl).slice) ?_
 rintro⟨A_y,c_y,rfl,hc_y⟩
 refine aw (fun m=>(m.ord 0 rfl).2.1) fun hA_y=> ?_
 refine hy (fun _=>ab rfl)<|ai<|al (ρ' :=[(5,_),(4,_),(3,_),(2,_),(0,_)]) ⟨rfl,rfl,rfl,rfl,rfl,trivial⟩<|ak (X' :=[_]) (S' :=[_]) (fun _ m=>m)<|ag<|ah<|aj<|hy (fun _=>aa rfl)<|hy (fun _=>aX rfl Tryz.underlying27)<|hy (fun _=>aa rfl)<|hy (fun _=>aX rfl Tryz.underlying27)<|hy (fun _=>bk rfl rfl)<|ai<|al (ρ' :=[(14,_),(5,_),(4,_),(3,_),(2,_),(0,_)]) ⟨rfl,rfl,rfl,rfl,rfl,rfl,trivial⟩<|ag<| ?_
 refine cI rfl (fun hp=> ?_) (fun hp=> ?_)
 ·have hq:b4 l=[76,1]++gx l.length++eD l++gx (db l):=by
   have:ya l=true:=by unfold ya;exact decide_eq_true (by omega)
   unfold b4 nh
   rw[this];rfl
  refine aj<|hy (fun _=>aa rfl)<|hy (fun _=>ab rfl)<|hy (fun _=>ab rfl)<|ai<|al (ρ' :=[(4,_),(3,_),(14,_),(5,_),(2,_),(0,_)]) ⟨rfl,rfl,rfl,rfl,rfl,rfl,trivial⟩<|ag<|ah<|aj<|hy (fun _=>aa rfl)<| ?_
  refine hx (cg Tryz.underlying27 ey rfl rfl rfl (by simp[Value.cells,B8]) (by decide) (by decide) (fun g17=> ?_))
  have hA_b17:0<2→(some (⟨g17,0,none⟩:Addr))≠none:=fun _ h=>by cases h
  refine hy (fun _=>aa rfl)<|hy (fun _=>aX rfl Tryz.underlying27)<|hy (fun _=>bJ rfl Tryz.underlying3 Tryz.underlying166 (uu (by omega) (by omega)))<| ?_
  refine hx (aq rfl Tryz.call179 (jc (by omega)) [] rfl [] rfl ?_)
  rintro _ _ _ ⟨v2,rfl,rfl,rfl⟩
  refine aw (fun m=>(m.own 0 rfl).slice) ?_
  rintro⟨A_x,c_x,rfl,hc_x⟩
  refine aw (fun m=>(m.ord 0 rfl).2.1) fun hA_x=> ?_
  refine aV (fun w m=>m.bQ 1 rfl (show _=aF 5 1 (.slice (some ⟨g17,0,none⟩) 2 2) 2 (aK [76,1])from rfl)) ?_
  refine hx (bu 0 rfl rfl rfl Tryz.underlying27 Tryz.underlying27 (by exact .inl rfl) ey rfl (fun m=>Src.bN (m.ord 1 rfl)) aS (by unfold maxLen;omega) (by omega) (fun u=> ?_))
  refine aw (fun m=>(m.own 0 rfl).slice) ?_
  rintro⟨A_b17,c_b17,rfl,hc_b17⟩
  refine aw (fun m=>(m.ord 0 rfl).2.1) fun hA_b17=> ?_
  refine hy (fun _=>ab rfl)<|ai<|al (ρ' :=[(6,_),(4,_),(3,_),(14,_),(5,_),(2,_),(0,_)]) ⟨rfl,rfl,rfl,rfl,rfl,rfl,rfl,trivial⟩<|ak (X' :=[_,_,_]) (S' :=[_]) (fun _ m=>m)<|ag<|ah<|aj<|hy (fun _=>aa rfl)<|hy (fun _=>aa rfl)<| ?_
  refine hx (bu 0 rfl rfl rfl Tryz.underlying27 Tryz.underlying27 (by exact .inl rfl) ey rfl (fun m=>Src.bN (m.ord 2 rfl)) aS (by unfold maxLen;omega) (by omega) (fun u2=> ?_))
  refine aw (fun m=>(m.own 0 rfl).slice) ?_
  rintro⟨A_b172,c_b172,rfl,hc_b17⟩
  refine aw (fun m=>(m.ord 0 rfl).2.1) fun hA_b17=> ?_
  refine hy (fun _=>ab rfl)<|ai<|al (ρ' :=[(6,_),(4,_),(3,_),(14,_),(5,_),(2,_),(0,_)]) ⟨rfl,rfl,rfl,rfl,rfl,rfl,rfl,trivial⟩<|ak (X' :=[_,_,_]) (S' :=[_]) (fun _ m=>m)<|ag<|ah<|aj<|hy (fun _=>aa rfl)<|hy (fun _=>aa rfl)<| ?_
  refine hx (aq rfl Tryz.call180 (nN (by omega)) [] rfl [0] rfl ?_)
  rintro _ _ _ ⟨rfl,rfl,rfl⟩
  refine hx (aq rfl Tryz.call179 (jc (by omega)) [] rfl [] rfl ?_)
  rintro _ _ _ ⟨v3,rfl,rfl,rfl⟩
  refine aw (fun m=>(m.own 0 rfl).slice) ?_
  rintro⟨A_x2,c_x2,rfl,hc_x2⟩
  refine aw (fun m=>(m.ord 0 rfl).2.1) fun hA_x2=> ?_
  refine hx (bu 1 rfl rfl rfl Tryz.underlying27 Tryz.underlying27 (by exact .inl rfl) ey rfl (fun m=>Src.bN (m.ord 0 rfl)) aS (by unfold maxLen;omega) (by omega) (fun u3=> ?_))
  refine aw (fun m=>(m.own 0 rfl).slice) ?_
  rintro⟨A_b173,c_b173,rfl,hc_b17⟩
  refine aw (fun m=>(m.ord 0 rfl).2.1) fun hA_b17=> ?_
  refine hy (fun _=>ab rfl)<|ai<|al (ρ' :=[(2,_),(6,_),(4,_),(3,_),(14,_),(5,_),(0,_)]) ⟨rfl,rfl,rfl,rfl,rfl,rfl,rfl,trivial⟩<|ak (X' :=[_,_,_,_]) (S' :=[_]) (fun _ m=>m)<|ag<|aQ<| ?_
  have hol:2+4+(eD l).length+4=(b4 l).length:=by rw[hq];simp[dN,hl];try omega
  rw[hol]
  have hsl:aK [76,1]++aK (gx n)++aK (eD l)++aK (gx (db l))=aK (b4 l):=by rw[hq,hl,bm,bm,bm]
  rw[hsl]
  exact bd trivial rfl rfl [0] rfl [] rfl ⟨_,rfl,rfl,rfl⟩
 ·have hq:b4 l=[76,0]++gx l.length++l++gx (db l):=by
   have:ya l=false:=by unfold ya;exact decide_eq_false (by omega)
   unfold b4 nh
   rw[this];rfl
  refine aC<|ag<|ah<|aj<|hy (fun _=>aa rfl)<| ?_
  refine hx (cg Tryz.underlying27 ey rfl rfl rfl (by simp[Value.cells,B8]) (by decide) (by decide) (fun g17=> ?_))
  have hA_b17:0<2→(some (⟨g17,0,none⟩:Addr))≠none:=fun _ h=>by cases h
  refine hy (fun _=>aa rfl)<|hy (fun _=>aX rfl Tryz.underlying27)<|hy (fun _=>bJ rfl Tryz.underlying3 Tryz.underlying166 (uu (by omega) (by omega)))<| ?_
  refine hx (aq rfl Tryz.call179 (jc (by omega)) [] rfl [] rfl ?_)
  rintro _ _ _ ⟨v2,rfl,rfl,rfl⟩
  refine aw (fun m=>(m.own 0 rfl).slice) ?_
  rintro⟨A_x,c_x,rfl,hc_x⟩
  refine aw (fun m=>(m.ord 0 rfl).2.1) fun hA_x=> ?_
  refine aV (fun w m=>m.bQ 1 rfl (show _=aF 5 1 (.slice (some ⟨g17,0,none⟩) 2 2) 2 (aK [76,0])from rfl)) ?_
  refine hx (bu 0 rfl rfl rfl Tryz.underlying27 Tryz.underlying27 (by exact .inl rfl) ey rfl (fun m=>Src.bN (m.ord 1 rfl)) aS (by unfold maxLen;omega) (by omega) (fun u=> ?_))
  refine aw (fun m=>(m.own 0 rfl).slice) ?_
  rintro⟨A_b17,c_b17,rfl,hc_b17⟩
  refine aw (fun m=>(m.ord 0 rfl).2.1) fun hA_b17=> ?_
  refine hy (fun _=>ab rfl)<|ai<|al (ρ' :=[(6,_),(14,_),(5,_),(4,_),(3,_),(2,_),(0,_)]) ⟨rfl,rfl,rfl,rfl,rfl,rfl,rfl,trivial⟩<|ak (X' :=[_,_,_]) (S' :=[_]) (fun _ m=>m)<|ag<|ah<|aj<|hy (fun _=>aa rfl)<|hy (fun _=>aa rfl)<| ?_
  refine hx (bu 0 rfl rfl rfl Tryz.underlying27 Tryz.underlying27 (by exact .inl rfl) ey rfl (fun m=>Src.bN (m.rd 0 rfl)) aS (by unfold maxLen;omega) (by omega) (fun u2=> ?_))
  refine aw (fun m=>(m.own 0 rfl).slice) ?_
  rintro⟨A_b172,c_b172,rfl,hc_b17⟩
  refine aw (fun m=>(m.ord 0 rfl).2.1) fun hA_b17=> ?_
  refine hy (fun _=>ab rfl)<|ai<|al (ρ' :=[(6,_),(14,_),(5,_),(4,_),(3,_),(2,_),(0,_)]) ⟨rfl,rfl,rfl,rfl,rfl,rfl,rfl,trivial⟩<|ak (X' :=[_,_,_]) (S' :=[_]) (fun _ m=>m)<|ag<|ah<|aj<|hy (fun _=>aa rfl)<|hy (fun _=>aa rfl)<| ?_
  refine hx (aq rfl Tryz.call180 (nN (by omega)) [] rfl [0] rfl ?_)
  rintro _ _ _ ⟨rfl,rfl,rfl⟩
  refine hx (aq rfl Tryz.call179 (jc (by omega)) [] rfl [] rfl ?_)
  rintro _ _ _ ⟨v3,rfl,rfl,rfl⟩
  refine aw (fun m=>(m.own 0 rfl).slice) ?_
  rintro⟨A_x2,c_x2,rfl,hc_x2⟩
  refine aw (fun m=>(m.ord 0 rfl).2.1) fun hA_x2=> ?_
  refine hx (bu 1 rfl rfl rfl Tryz.underlying27 Tryz.underlying27 (by exact .inl rfl) ey rfl (fun m=>Src.bN (m.ord 0 rfl)) aS (by unfold maxLen;omega) (by omega) (fun u3=> ?_))
  refine aw (fun m=>(m.own 0 rfl).slice) ?_
  rintro⟨A_b173,c_b173,rfl,hc_b17⟩
  refine aw (fun m=>(m.ord 0 rfl).2.1) fun hA_b17=> ?_
  refine hy (fun _=>ab rfl)<|ai<|al (ρ' :=[(2,_),(6,_),(14,_),(5,_),(4,_),(3,_),(0,_)]) ⟨rfl,rfl,rfl,rfl,rfl,rfl,rfl,trivial⟩<|ak (X' :=[_,_,_,_]) (S' :=[_]) (fun _ m=>m)<|ag<|aQ<| ?_
  have hol:2+4+n+4=(b4 l).length:=by rw[hq];simp[dN,hl];try omega
  rw[hol]
  have hsl:aK [76,0]++aK (gx n)++aK l++aK (gx (db l))=aK (b4 l):=by rw[hq,hl,bm,bm,bm]
  rw[hsl]
  exact bd trivial rfl rfl [0] rfl [] rfl ⟨_,rfl,rfl,rfl⟩
theorem kz{f:List UInt8}(h:f.length<10∨f.getD 0 0≠76∨1<(f.getD 1 0).toNat):ib f=none:=by unfold ib;rw[if_pos h]
theorem vu{f:List UInt8}(h:¬(f.length<10∨f.getD 0 0≠76∨1<(f.getD 1 0).toNat)):ib f=some (kB (f.drop 2)):=by unfold ib;rw[if_neg h]
theorem qV{A:Option Addr}{n c:Nat}{f:List UInt8}(hc:n≤c)(hn:n≤1000000000)(hl:f.length=n):cj Tryz.prog 211 [.slice A n c] [] [dw 1 A n (aK f)] (fun v_ X_ S_=>v_=(.tuple #[.int .i64 (((ib f).getD 0:Nat):Int),.int .i64 (if(ib f).isSome then 0 else 2)])∧X_=[]∧S_=[]):=by
 have b0:=(f.getD 0 0).toNat_lt
 have b1:=(f.getD 1 0).toNat_lt
 refine aU (N:=34) Tryz.func211 rfl rfl (by simp) fun b=> ?_
 refine ba (fun m=>fG (m.rd 0 rfl)) ?_
 rintro⟨hl_r,hA_r⟩
 refine ah<|aj<|hy (fun _=>ab rfl)<|hy (fun _=>ab rfl)<|ai<|ag<|ah<|ah<|aj<|hy (fun _=>aa rfl)<|hy (fun _=>aX rfl Tryz.underlying27)<|hy (fun _=>bk rfl rfl)<|hy (fun _=>aa rfl)<| ?_
 refine eG 9 rfl (fun h1=> ?_) (fun h1=> ?_)
 ·refine a6 rfl rfl rfl (by decide)<|a6 rfl rfl rfl (by decide)<|a6 rfl rfl rfl (by decide)<|a6 rfl rfl rfl (by decide)<|hy (fun _=>bo rfl rfl)<|hy (fun _=>aa rfl)<| ?_
  rw[kz (.inl (by omega))]
  refine a6 rfl rfl rfl (by decide)<|a6 rfl rfl rfl (by decide)<|a6 rfl rfl rfl (by decide)<|a6 rfl rfl rfl (by decide)<|hy (fun _=>bo rfl rfl)<|ai<|al (ρ' :=[(20,_),(3,_),(2,_),(0,_)]) ⟨rfl,rfl,rfl,rfl,trivial⟩<|ag<| ?_
  refine fe rfl (rfl) ?_
  refine ah<|aj<|hy (fun _=>ab rfl)<|hy (fun _=>ab rfl)<|ai<|ag<|aQ<|ay<| ?_
  exact cW trivial rfl rfl rfl [] rfl [] rfl ⟨rfl,rfl,rfl⟩
 ·refine ca (o:=_) rfl rfl rfl (fun _=>aa rfl)<|ca (o:=_) rfl rfl rfl (fun _=>aL rfl rfl Tryz.underlying27 dE hA_r (show((0:Nat):Int)=0 from rfl) (by omega))<|ca (o:=_) rfl rfl rfl (fun m=>av rfl iy ((m.rd 0 rfl).cell (bC (by omega))))<|ca (o:=_) rfl rfl rfl (fun _=>cM rfl rfl)<|hy (fun _=>a7 rfl rfl)<|hy (fun _=>aa rfl)<| ?_
  refine eG 15 rfl (fun h2=> ?_) (fun h2=> ?_)
  ·rw[kz (.inr (.inl (fun e=>h2 (by rw[e];rfl))))]
   refine a6 rfl rfl rfl (by decide)<|a6 rfl rfl rfl (by decide)<|a6 rfl rfl rfl (by decide)<|a6 rfl rfl rfl (by decide)<|hy (fun _=>bo rfl rfl)<|ai<|al (ρ' :=[(20,_),(3,_),(2,_),(0,_)]) ⟨rfl,rfl,rfl,rfl,trivial⟩<|ag<| ?_
   refine fe rfl (rfl) ?_
   refine ah<|aj<|hy (fun _=>ab rfl)<|hy (fun _=>ab rfl)<|ai<|ag<|aQ<|ay<| ?_
   exact cW trivial rfl rfl rfl [] rfl [] rfl ⟨rfl,rfl,rfl⟩
  ·refine ca (o:=_) rfl rfl rfl (fun _=>aa rfl)<|ca (o:=_) rfl rfl rfl (fun _=>aL rfl rfl Tryz.underlying27 dE hA_r (show((1:Nat):Int)=1 from rfl) (by omega))<|ca (o:=_) rfl rfl rfl (fun m=>av rfl iy ((m.rd 0 rfl).cell (bC (by omega))))<|ca (o:=_) rfl rfl rfl (fun _=>cF rfl rfl)<|hy (fun _=>a7 rfl rfl)<|ai<|al (ρ' :=[(20,_),(3,_),(2,_),(0,_)]) ⟨rfl,rfl,rfl,rfl,trivial⟩<|ag<| ?_
   refine cI rfl (fun h3=> ?_) (fun h3=> ?_)
   ·rw[kz (.inr (.inr (by omega)))]
    refine ah<|aj<|hy (fun _=>ab rfl)<|hy (fun _=>ab rfl)<|ai<|ag<|aQ<|ay<| ?_
    exact cW trivial rfl rfl rfl [] rfl [] rfl ⟨rfl,rfl,rfl⟩
   ·have h2' :f.getD 0 0=76:=UInt8.toNat_inj.1 (by have:=Decidable.not_not.1 h2;show _=76;omega)
    rw[vu (by rintro(q|q|q);omega;exact q h2';omega)]
    refine aC<|ag<|ah<|aj<|hy (fun _=>ab rfl)<|ai<|ag<|ah<|ah<|aj<|hy (fun _=>ab rfl)<|ai<|ag<|aN<| ?_
    refine dA (fun j=>4-j) (fun j=>[(4,.int .i64 ((acc ((f.drop 2).take 4) j:Nat):Int)),(5,.int .i64 (5-(j:Int)))]) (fun j=>[]) (fun j=>[]) (fun j=>j≤4) 0 [(20,_),(3,_),(2,_),(0,_)] ⟨rfl,rfl,rfl,rfl,trivial⟩ [] rfl [] rfl (Nat.zero_le _) ⟨rfl,rfl,trivial⟩ (fun j hI=> ?_)
    refine ah<|ah<|aj<|hy (fun _=>aa rfl)<|hy (fun _=>cF rfl rfl)<|ai<|al (ρ' :=[(22,_),(4,_),(5,_),(20,_),(3,_),(2,_),(0,_)]) ⟨rfl,rfl,rfl,rfl,rfl,rfl,rfl,trivial⟩<|ag<| ?_
    refine cI rfl (fun hj=> ?_) (fun hj=> ?_)
    ·have hl4:((f.drop 2).take 4).length=4:=by rw[List.length_take,List.length_drop];omega
     have hac:=yx ((f.drop 2).take 4) (show j≤4 by omega)
     have hby:(((f.drop 2).take 4).getD (3-j) 0).toNat<256:=UInt8.toNat_lt _
     have hget:f.getD (5-j) 0=((f.drop 2).take 4).getD (3-j) 0:=by
      simp only[List.getD,List.getElem?_take,List.getElem?_drop]
      rw[if_pos (by omega),show 2+(3-j)=5-j by omega]
     refine aC<|ag<|ah<|aN<|aj<|hy (fun _=>aa rfl)<|hy (fun _=>qc (p:=256) rfl rfl (by decide) (by decide) (by decide) (bB (by omega) (by omega)))<|hy (fun _=>aa rfl)<|hy (fun _=>aa rfl)<|hy (fun _=>aL rfl rfl Tryz.underlying27 dE hA_r (show((5-j:Nat):Int)=_ by omega) (by omega))<|hy (fun m=>yV (av rfl iy ((m.rd 0 rfl).cell (bC (by omega)))) ((show B8 (f.getD (5-j) 0)=B8 (((f.drop 2).take 4).getD (3-j) 0) by rw[hget])))<|hy (fun _=>bJ rfl Tryz.underlying5 Tryz.underlying3 (wm _))<|hy (fun _=>fX (by simp) rfl rfl (um _ _ hac hby))<|hy (fun _=>ab rfl)<|ai<|al (ρ' :=[(4,_),(22,_),(5,_),(20,_),(3,_),(2,_),(0,_)]) ⟨rfl,rfl,rfl,rfl,rfl,rfl,rfl,trivial⟩<|aW<|ag<|aj<|hy (fun _=>aa rfl)<|hy (fun _=>yV (b6 rfl rfl (bB (by omega) (by omega))) ((show Value.int .i64 ((5-(j:Int))-1)= .int .i64 (5-((j+1:Nat):Int)) by congr 1;omega)))<|hy (fun _=>ab rfl)<|ai<|al (ρ' :=[(5,_),(4,_),(22,_),(20,_),(3,_),(2,_),(0,_)]) ⟨rfl,rfl,rfl,rfl,rfl,rfl,rfl,trivial⟩<| ?_
     refine cS (j+1) ⟨rfl,rfl,rfl,rfl,rfl,rfl,trivial⟩ [] rfl [0] rfl (by omega) (by omega)
    ·obtain rfl:j=4:=by omega
     have e4:acc ((f.drop 2).take 4) 4=kB (f.drop 2):=by
      rw[Ds]
      have hx:∀q:Nat,q<4→((f.drop 2).take 4).getD q 0=(f.drop 2).getD q 0:=fun q hq=>by simp only[List.getD,List.getElem?_take,if_pos hq]
      unfold kB
      rw[hx 0 (by decide),hx 1 (by decide),hx 2 (by decide),hx 3 (by decide)]
     rw[e4]
     refine bS<|ar<|ar<|aE<|ag<|ah<|aj<|hy (fun _=>aa rfl)<|hy (fun _=>ab rfl)<|hy (fun _=>ab rfl)<|ai<|al (ρ' :=[(3,_),(2,_),(22,_),(4,_),(5,_),(20,_),(0,_)]) ⟨rfl,rfl,rfl,rfl,rfl,rfl,rfl,trivial⟩<|ag<|aQ<| ?_
     exact cW trivial rfl rfl rfl [] rfl [] rfl ⟨rfl,rfl,rfl⟩
theorem zw{A:Option Addr}{n c:Nat}{f:List UInt8}(hc:n≤c)(hn:n≤1000000000)(hl:f.length=n):cj Tryz.prog 213 [.slice A n c] [] [dw 1 A n (aK f)] (fun v_ X_ S_=>v_=(.bool (decide ((ib f).isSome∧f.getD 1 0=1)))∧X_=[]∧S_=[]):=by
 refine aU (N:=18) Tryz.func213 rfl rfl (by simp) fun b=> ?_
 refine ba (fun m=>fG (m.rd 0 rfl)) ?_
 rintro⟨hl_r,hA_r⟩
 refine ah<|aj<|hy (fun _=>ab rfl)<|ai<|ag<|ah<|aj<|hy (fun _=>aa rfl)<| ?_
 refine hx (aq rfl Tryz.call211 (qV (by omega) (by omega) (by omega)) [] rfl [0] rfl ?_)
 rintro _ _ _ ⟨rfl,rfl,rfl⟩
 refine hy (fun _=>aa rfl)<|hy (fun _=>ao rfl rfl)<|hy (fun _=>ao rfl rfl)<|hy (fun _=>ab rfl)<|hy (fun _=>ab rfl)<|ai<|al (ρ' :=[(4,_),(2,_),(0,_)]) ⟨rfl,rfl,rfl,trivial⟩<|ak (X' :=[]) (S' :=[_]) (fun _ m=>m)<|ag<|ah<|aj<|hy (fun _=>aa rfl)<|hy (fun _=>cy rfl rfl)<|hy (fun _=>aa rfl)<| ?_
 refine eG 12 rfl (fun hs=> ?_) (fun hs=> ?_)
 ·have hs1:(ib f).isSome=true:=by
   cases h:(ib f).isSome with
   |true=>rfl
   |false=>rw[h]at hs;exact absurd hs (by decide)
  have hn10:¬n<10:=fun h=>by rw[kz (.inl (by omega))]at hs1;cases hs1
  have hd:decide ((ib f).isSome∧f.getD 1 0=1)=decide (((f.getD 1 0).toNat:Int)=1):=decide_eq_decide.2 ⟨fun h=>by rw[h.2];rfl,fun h=>⟨hs1,UInt8.toNat_inj.1 (by show _=1;omega)⟩⟩
  rw[hd]
  refine ca (o:=_) rfl rfl rfl (fun _=>aa rfl)<|ca (o:=_) rfl rfl rfl (fun _=>aL rfl rfl Tryz.underlying27 dE hA_r (show((1:Nat):Int)=1 from rfl) (by omega))<|ca (o:=_) rfl rfl rfl (fun m=>av rfl iy ((m.rd 0 rfl).cell (bC (by omega))))<|ca (o:=_) rfl rfl rfl (fun _=>cy rfl rfl)<|hy (fun _=>bo rfl rfl)<|hy (fun _=>ab rfl)<|ai<|al (ρ' :=[(2,_),(4,_),(0,_)]) ⟨rfl,rfl,rfl,trivial⟩<|ag<|aQ<| ?_
  exact bd trivial rfl rfl [] rfl [] rfl ⟨rfl,rfl,rfl⟩
 ·have hd:decide ((ib f).isSome∧f.getD 1 0=1)=false:=decide_eq_false fun h=>hs (by rw[h.1];rfl)
  rw[hd]
  refine a6 rfl rfl rfl (by decide)<|a6 rfl rfl rfl (by decide)<|a6 rfl rfl rfl (by decide)<|a6 rfl rfl rfl (by decide)<|hy (fun _=>a7 rfl rfl)<|hy (fun _=>ab rfl)<|ai<|al (ρ' :=[(2,_),(4,_),(0,_)]) ⟨rfl,rfl,rfl,trivial⟩<|ag<|aQ<| ?_
  exact bd trivial rfl rfl [] rfl [] rfl ⟨rfl,rfl,rfl⟩
end Go.Proofs.YtmibdabdlgmafaaGreatDoor
end
section
set_option maxRecDepth 20000
set_option maxHeartbeats 2000000
namespace Go.Proofs.YtmibdabdlgmafaaGreatDoor
open Go.Eng Go.Hx
theorem D6{v:Value}(h:v.oneCell' =true:=by rfl):∀u∈ [v],u.oneCell' =true:=fun u hu=>by rw[List.mem_singleton.1 hu];exact h
theorem nb{q:Bool}{e:Int}:Cv Tryz.prog 212 [.bool q,.int .i64 e] [] [] (fun v_ X_ S_=>v_=(.tuple #[])∧X_=[]∧S_=[]∧(q=true)) (fun v_ X_ S_=>v_=(.iface 288 (.agg #[.int .i64 e]))∧X_=[]∧S_=[]∧(q=false)):=by
 refine An (N:=9) Tryz.func212 rfl rfl (by simp) fun b=> ?_
 refine ah<|aj<|hy (fun _=>aa rfl)<|hy (fun _=>(mN rfl))<|ai<|al (ρ' :=[(5,_),(0,_),(1,_)]) ⟨rfl,rfl,rfl,trivial⟩<|ag<| ?_
 refine yg rfl (fun hq=> ?_) (fun hq=> ?_)
 ·refine aj<|hy (fun _=>aa rfl)<|hy (fun _=>cD uP rfl rfl (by kernel_rfl) (.cons (o:=0) (sz:=1) (by kernel_rfl) rfl rfl (Nat.le_of_ble_eq_true rfl) .nil))<|hy (fun _=>kS rfl Tryz.underlying288 (fun _ h=>by cases h))<| ?_
  refine cN (wG rfl ?_)
  exact DT [] rfl [] rfl ⟨rfl,rfl,rfl,(by simpa using hq)⟩
 ·refine aC<| ?_
  refine Dq ?_
  exact gH trivial rfl [] rfl [] rfl ⟨rfl,rfl,rfl,(by simpa using hq)⟩
theorem fW{g4 g5:Nat}{v:Value}{e0 e:Int}:zC Tryz.prog 210 [.pointer (some ⟨g4,0,none⟩),.pointer (some ⟨g5,0,none⟩)] (.panicking (C1 (.iface 288 (.agg #[.int .i64 e])))) [aH g4 27 [v],aH g5 47 [.int .i64 e0]] [] (fun u_ X_ S_=>u_= .returning∧X_=[aH g4 27 [.slice none 0 0],aH g5 47 [.int .i64 e]]∧S_=[]):=by
 refine tU (N:=12) Tryz.func210 rfl rfl (by simp) fun b c_0 cs_ hu_=> ?_
 show sW _ _ _ _ _ [0,1,2,3,4,5,6,7] _ _ _ _ _
 refine zS rfl hu_ ?_
 refine kQ rfl (fun _=>pC rfl (yB Tryz.underlying288))<|kQ rfl (fun _=>aa rfl)<|kQ rfl (fun _=>ao rfl rfl)<|kQ rfl (fun _=>ao rfl rfl)<| ?_
 refine Bc rfl (aJ uP (fun g2=> ?_))
 refine yl rfl (aG 0 rfl rfl rfl Bj rfl D6 rfl ?_)
 refine B7 (fun w m=>m.bQ 0 rfl (show _=aH g2 288 [.int .i64 e]from rfl)) ?_
 refine kQ rfl (fun _=>ab rfl)<|sg<|bD (X' :=[_,_,_]) (S' :=[]) (fun _ m=>m)<|ah<|aj<|hy (fun _=>aa rfl)<|ai<|al (ρ' :=[(9,_),(3,_),(2,_),(0,_),(1,_)]) ⟨rfl,rfl,rfl,rfl,rfl,trivial⟩<|ag<| ?_
 refine fe rfl (rfl) ?_
 refine xS [0] [] rfl rfl [2,3] [(0,some 1),(1,some 1),(2,none),(3,none)] (by kernel_rfl) (by kernel_rfl) rfl 99<|an (aI rfl AO (by decide))<|cn (fun m=>av rfl kE (aB (m.aT 0 rfl) (i:=0) rfl))<| ?_
 refine ja (dQ 1 rfl rfl rfl mq rfl (by first|exact Nat.le_of_ble_eq_true rfl|simp) ⟨(fun _=>wk [1] [] rfl rfl), ?_⟩)
 refine ja (dQ 2 rfl rfl rfl vA rfl (by first|exact Nat.le_of_ble_eq_true rfl|simp) ⟨(fun _=>wk [2] [] rfl rfl), ?_⟩)
 refine bE<|al (ρ' :=[(9,_),(3,_),(2,_),(0,_),(1,_)]) ⟨rfl,rfl,rfl,rfl,rfl,trivial⟩<|ak (X' :=[_,_,_]) (S' :=[]) (fun _ m=>m)<| ?_
 exact gH trivial rfl [1,0] rfl [] rfl ⟨rfl,rfl,rfl,rfl⟩
theorem sl{g4 g5:Nat}{v:Value}{e:Int}:zC Tryz.prog 210 [.pointer (some ⟨g4,0,none⟩),.pointer (some ⟨g5,0,none⟩)] .returning [aH g4 27 [v],aH g5 47 [.int .i64 e]] [] (fun u_ X_ S_=>u_= .returning∧X_=[aH g4 27 [v],aH g5 47 [.int .i64 e]]∧S_=[]):=by
 refine tU (N:=12) Tryz.func210 rfl rfl (by simp) fun b c_0 cs_ hu_=> ?_
 show sW _ _ _ _ _ [0,1,2,3,4,5,6,7] _ _ _ _ _
 refine yL rfl hu_ ?_
 refine kQ rfl (fun _=>pC rfl (wy Tryz.underlying288 uP))<|kQ rfl (fun _=>aa rfl)<|kQ rfl (fun _=>ao rfl rfl)<|kQ rfl (fun _=>ao rfl rfl)<| ?_
 refine Bc rfl (aJ uP (fun g2=> ?_))
 refine yl rfl (aG 0 rfl rfl rfl Bj rfl D6 rfl ?_)
 refine kQ rfl (fun _=>ab rfl)<|sg<|bD (X' :=[_,_,_]) (S' :=[]) (fun _ m=>m)<|ah<|aj<|hy (fun _=>aa rfl)<|ai<|al (ρ' :=[(9,_),(3,_),(2,_),(0,_),(1,_)]) ⟨rfl,rfl,rfl,rfl,rfl,trivial⟩<|ag<| ?_
 refine dx rfl (rfl) ?_
 refine aC<| ?_
 exact gH trivial rfl [1,1] rfl [] rfl ⟨rfl,rfl,rfl,rfl⟩
end Go.Proofs.YtmibdabdlgmafaaGreatDoor
end
section
set_option maxRecDepth 20000
set_option maxHeartbeats 2000000
namespace Go.Proofs.YtmibdabdlgmafaaGreatDoor
open Go.Eng Go.Hx
theorem Bz{A:Option Addr}{n c:Nat}{l:List UInt8}(h0:0<n)(hn:n≤140737488351232):cj Tryz.prog 257 [.slice A n c] [] [dw 1 A n (aK l)] (fun v_ X_ S_=>v_=(.tuple #[.int .i64 ((cT l).1:Nat),.int .i64 ((cT l).2.1:Nat),.int .i64 ((cT l).2.2.1:Nat),.bool (cT l).2.2.2])∧X_=[]∧S_=[]):=by
 have b0:=(l.getD 0 0).toNat_lt
 have b1:=(l.getD 1 0).toNat_lt
 have b2:=(l.getD 2 0).toNat_lt
 refine aU (N:=39) Tryz.func257 rfl rfl (by simp) fun b=> ?_
 refine ba (fun m=>fG (m.rd 0 rfl)) ?_
 rintro⟨hl_r,hA_r⟩
 refine ah<|aj<|hy (fun _=>ab rfl)<|hy (fun _=>ab rfl)<|hy (fun _=>ab rfl)<|hy (fun _=>ab rfl)<|ai<|ag<|ah<|aj<|hy (fun _=>aa rfl)<|hy (fun _=>aL rfl rfl Tryz.underlying27 dE hA_r (show((0:Nat):Int)=0 from rfl) (by omega))<|hy (fun m=>av rfl iy ((m.rd 0 rfl).cell (bC (by omega))))<|hy (fun _=>bJ rfl Tryz.underlying5 Tryz.underlying3 (bB (by omega) (by omega)))<|hy (fun _=>ab rfl)<|ai<|al (ρ' :=[(6,_),(5,_),(4,_),(3,_),(2,_),(0,_)]) ⟨rfl,rfl,rfl,rfl,rfl,rfl,trivial⟩<|ag<|ah<|ah<|aj<|hy (fun _=>aa rfl)<|hy (fun _=>bk rfl rfl)<|ai<|al (ρ' :=[(12,_),(6,_),(5,_),(4,_),(3,_),(2,_),(0,_)]) ⟨rfl,rfl,rfl,rfl,rfl,rfl,rfl,trivial⟩<|ag<| ?_
 refine cI rfl (fun h1=> ?_) (fun h1=> ?_)
 ·have e:cT l=((l.getD 0 0).toNat+2,(l.getD 0 0).toNat+1,0,decide ((l.getD 0 0).toNat+2≤l.length)):=by rw[cT,if_pos (by omega)]
  rw[e]
  refine ah<|aj<|hy (fun _=>aa rfl)<|hy (fun _=>aM rfl rfl (bB (by omega) (by omega)))<|hy (fun _=>aa rfl)<|hy (fun _=>aM rfl rfl (bB (by omega) (by omega)))<|hy (fun _=>aa rfl)<|hy (fun _=>aX rfl Tryz.underlying27)<|hy (fun _=>aa rfl)<|hy (fun _=>aM rfl rfl (bB (by omega) (by omega)))<|hy (fun _=>yV (gG rfl rfl) ((congrArg Value.bool (decide_eq_decide.2 (by omega)):Value.bool (decide ((n:Int)≥((l.getD 0 0).toNat:Int)+2))= .bool (decide ((l.getD 0 0).toNat+2≤l.length)))))<|hy (fun _=>ab rfl)<|hy (fun _=>ab rfl)<|hy (fun _=>ab rfl)<|hy (fun _=>ab rfl)<|ai<|al (ρ' :=[(5,_),(4,_),(3,_),(2,_),(12,_),(6,_),(0,_)]) ⟨rfl,rfl,rfl,rfl,rfl,rfl,rfl,trivial⟩<|ag<|aQ<|ay<| ?_
  exact yn trivial rfl rfl rfl rfl rfl [] rfl [] rfl ⟨rfl,rfl,rfl⟩
 ·refine aC<|ag<|ah<|ah<|aj<|hy (fun _=>aa rfl)<|hy (fun _=>aX rfl Tryz.underlying27)<|hy (fun _=>bk rfl rfl)<|ai<|al (ρ' :=[(24,_),(12,_),(6,_),(5,_),(4,_),(3,_),(2,_),(0,_)]) ⟨rfl,rfl,rfl,rfl,rfl,rfl,rfl,rfl,trivial⟩<|ag<| ?_
  refine cI rfl (fun h3=> ?_) (fun h3=> ?_)
  ·have e:cT l=(0,0,0,false):=by rw[cT,if_neg (by omega),if_pos (by omega)]
   rw[e]
   refine ah<|aj<|hy (fun _=>ab rfl)<|hy (fun _=>ab rfl)<|hy (fun _=>ab rfl)<|hy (fun _=>ab rfl)<|ai<|ag<|aQ<|ay<| ?_
   exact yn trivial rfl rfl rfl rfl rfl [] rfl [] rfl ⟨rfl,rfl,rfl⟩
  ·have e:cT l=(3,(l.getD 0 0).toNat-124,1+(l.getD 1 0).toNat+256*(l.getD 2 0).toNat,true):=by rw[cT,if_neg (by omega),if_neg (by omega)]
   rw[e]
   refine aC<|ag<|ah<|cV [] [(0,some 0),(1,some 0),(2,some 0),(3,some 0),(4,some 0),(5,some 0),(6,some 0),(7,some 0),(8,some 0),(9,some 0),(10,some 0),(11,some 0),(12,some 0),(13,some 0),(14,some 0),(15,some 0),(16,some 0),(17,some 0)] (by kernel_rfl) (by kernel_rfl) rfl 99<|an (aa rfl)<|an (b6 rfl rfl (bB (by omega) (by omega)))<|an (yV (aM rfl rfl (bB (by omega) (by omega))) ((show Value.int .i64 (((l.getD 0 0).toNat:Int)-128+4)= .int .i64 (((l.getD 0 0).toNat-124:Nat):Int) by congr 1;omega)))<|an (aa rfl)<|an (aL rfl rfl Tryz.underlying27 dE hA_r (show((1:Nat):Int)=1 from rfl) (by omega))<|cn (fun m=>av rfl iy ((m.rd 0 rfl).cell (bC (by omega))))<|an (bJ rfl Tryz.underlying5 Tryz.underlying3 (bB (by omega) (by omega)))<|an (aM rfl rfl (bB (by omega) (by omega)))<|an (aa rfl)<|an (aL rfl rfl Tryz.underlying27 dE hA_r (show((2:Nat):Int)=2 from rfl) (by omega))<|cn (fun m=>av rfl iy ((m.rd 0 rfl).cell (bC (by omega))))<|an (bJ rfl Tryz.underlying5 Tryz.underlying3 (bB (by omega) (by omega)))<|an (qc (p:=256) rfl rfl (by decide) (by decide) (by decide) (bB (by omega) (by omega)))<|an (yV (aM rfl rfl (bB (by omega) (by omega))) ((show Value.int .i64 (1+((l.getD 1 0).toNat:Int)+((l.getD 2 0).toNat:Int)*256)= .int .i64 ((1+(l.getD 1 0).toNat+256*(l.getD 2 0).toNat:Nat):Int) by congr 1;omega)))<|an (ab rfl)<|an (ab rfl)<|an (ab rfl)<|an (ab rfl)<|bE<|al (ρ' :=[(5,_),(4,_),(3,_),(2,_),(24,_),(12,_),(6,_),(0,_)]) ⟨rfl,rfl,rfl,rfl,rfl,rfl,rfl,rfl,trivial⟩<|ag<|aQ<| ?_
   exact yn trivial rfl rfl rfl rfl rfl [] rfl [] rfl ⟨rfl,rfl,rfl⟩
theorem Ad{A:Option Addr}{c:Nat}{l:List UInt8}{z:Int}(hc:l.length≤c)(hn:l.length≤10000000)(hz:z≤10000000):cj Tryz.prog 214 [.slice A l.length c,.int .i64 z] [] [dw 1 A l.length (aK l)] (fun v_ X_ S_=>∃v,v_=(.tuple #[v,.int .i64 (kq z l []).2])∧X_=[aF 5 1 v (kq z l []).1.length (aK (kq z l []).1)]∧S_=[]):=by
 refine aU (N:=66) Tryz.func214 rfl rfl (by simp) fun b=> ?_
 refine ba (fun m=>fG (m.rd 0 rfl)) ?_
 rintro⟨hl_r,hA_r⟩
 refine ah<|aj<|hy (fun _=>ab rfl)<|hy (fun _=>ab rfl)<|ai<|ag<|ah<|aj<|hy (fun _=>ab rfl)<|ai<|ag<|ah<|aN<| ?_
 refine bD (fun w m=>m.cL (r' :=aF 5 1 (.slice none 0 0) 0 []) (.refl _ _) (Own.nil _ _ _ _) (fun k hk=>hk.elim)) ?_
 refine q6 (fun p o A2 c2 A3 c3=>p.length) (fun p o A2 c2 A3 c3=>[(0,.slice A2 p.length c2),(6,.slice A3 o.length c3)]) (fun p o A2 c2 A3 c3=>[aF 5 1 (.slice A3 o.length c3) o.length (aK o)]) (fun p o A2 c2 A3 c3=>[dw 1 A2 p.length (aK p)]) (fun p o A2 c2 A3 c3=>p.length≤c2∧p.length≤10000000∧o.length≤10000000∧kq z p o=kq z l []) l [] A c none 0 [(1,_)] ⟨rfl,trivial⟩ [0] rfl [0] rfl (⟨hc,hn,by decide,rfl⟩) ⟨rfl,rfl,trivial⟩ (fun p o A2 c2 A3 c3 ⟨hpc,hpn,hon,hU⟩=> ?_)
 refine ah<|ah<|aj<|hy (fun _=>aa rfl)<|hy (fun _=>aX rfl Tryz.underlying27)<|hy (fun _=>cF rfl rfl)<|ai<|al (ρ' :=[(14,_),(0,_),(6,_),(1,_)]) ⟨rfl,rfl,rfl,rfl,trivial⟩<|ag<| ?_
 refine cI rfl (fun hlt=> ?_) (fun hlt=> ?_)
 ·have hp0:p≠ []:=fun e=>by rw[e]at hlt;exact absurd hlt (by decide)
  obtain⟨ht1,ht2⟩:=BK p
  refine aC<|ag<|aN<|ah<|aj<|hy (fun _=>aa rfl)<| ?_
  refine hx (aq rfl Tryz.call257 (Bz (by omega) (by omega)) [] rfl [0] rfl ?_)
  rintro _ _ _ ⟨rfl,rfl,rfl⟩
  refine hy (fun _=>aa rfl)<|hy (fun _=>ao rfl rfl)<|hy (fun _=>ao rfl rfl)<|hy (fun _=>ao rfl rfl)<|hy (fun _=>ao rfl rfl)<|hy (fun _=>ab rfl)<|hy (fun _=>ab rfl)<|hy (fun _=>ab rfl)<|hy (fun _=>ab rfl)<|ai<|al (ρ' :=[(10,_),(9,_),(8,_),(7,_),(14,_),(0,_),(6,_),(1,_)]) ⟨rfl,rfl,rfl,rfl,rfl,rfl,rfl,rfl,trivial⟩<|ak (X' :=[_]) (S' :=[_,_]) (fun _ m=>m)<|ag<|ah<|ah<|aj<|hy (fun _=>aa rfl)<|hy (fun _=>(mN rfl))<|hy (fun _=>aa rfl)<| ?_
  refine AX 24 rfl (fun hw=> ?_) (fun hw=> ?_)
  ·rw[kj hp0 (fun h=>by rw[h.1]at hw;cases hw)]at hU
   rw[←hU]
   refine a6 rfl rfl rfl (by decide)<|a6 rfl rfl rfl (by decide)<|a6 rfl rfl rfl (by decide)<|a6 rfl rfl rfl (by decide)<|hy (fun _=>bo rfl rfl)<|ai<|al (ρ' :=[(29,_),(10,_),(9,_),(8,_),(7,_),(14,_),(0,_),(6,_),(1,_)]) ⟨rfl,rfl,rfl,rfl,rfl,rfl,rfl,rfl,rfl,trivial⟩<|ag<| ?_
   refine fe rfl (rfl) ?_
   refine ah<|aj<|hy (fun _=>ab rfl)<|hy (fun _=>ab rfl)<|ai<|ag<|aQ<|ay<|bc<|ay<|bc<|ay<| ?_
   refine ak (fun w m=>m.cL (r' :=aF 5 1 (.slice none 0 0) 0 []) (.refl _ _) (Own.nil _ _ _ _) (fun k hk=>hk.elim)) ?_
   exact cW trivial rfl rfl rfl [0] rfl [] rfl ⟨_,rfl,rfl,rfl⟩
  ·have hw1:(cT p).2.2.2=true:=by simpa using hw
   refine ca (o:=_) rfl rfl rfl (fun _=>aa rfl)<|ca (o:=_) rfl rfl rfl (fun _=>aa rfl)<|ca (o:=_) rfl rfl rfl (fun _=>aX rfl Tryz.underlying27)<|ca (o:=_) rfl rfl rfl (fun _=>cF rfl rfl)<|hy (fun _=>a7 rfl rfl)<|ai<|al (ρ' :=[(29,_),(10,_),(9,_),(8,_),(7,_),(14,_),(0,_),(6,_),(1,_)]) ⟨rfl,rfl,rfl,rfl,rfl,rfl,rfl,rfl,rfl,trivial⟩<|ag<| ?_
   refine cI rfl (fun hd=> ?_) (fun hd=> ?_)
   ·rw[kj hp0 (fun h=>by omega)]at hU
    rw[←hU]
    refine ah<|aj<|hy (fun _=>ab rfl)<|hy (fun _=>ab rfl)<|ai<|ag<|aQ<|ay<|bc<|ay<|bc<|ay<| ?_
    refine ak (fun w m=>m.cL (r' :=aF 5 1 (.slice none 0 0) 0 []) (.refl _ _) (Own.nil _ _ _ _) (fun k hk=>hk.elim)) ?_
    exact cW trivial rfl rfl rfl [0] rfl [] rfl ⟨_,rfl,rfl,rfl⟩
   ·have hd1:(cT p).2.2.1≤o.length:=by omega
    refine aC<|ag<|ah<|ah<|aj<|hy (fun _=>aa rfl)<|hy (fun _=>aX rfl Tryz.underlying27)<|hy (fun _=>aa rfl)<|hy (fun _=>aM rfl rfl (bB (by omega) (by omega)))<|hy (fun _=>aa rfl)<|hy (fun _=>cF rfl rfl)<|ai<|al (ρ' :=[(35,_),(29,_),(10,_),(9,_),(8,_),(7,_),(14,_),(0,_),(6,_),(1,_)]) ⟨rfl,rfl,rfl,rfl,rfl,rfl,rfl,rfl,rfl,rfl,trivial⟩<|ag<| ?_
    refine cI rfl (fun hm=> ?_) (fun hm=> ?_)
    ·rw[nJ hp0 hw1 hd1 (by omega)]at hU
     rw[←hU]
     refine ah<|aj<|hy (fun _=>ab rfl)<|hy (fun _=>ab rfl)<|ai<|ag<|aQ<|ay<|bc<|ay<|bc<|ay<| ?_
     refine ak (fun w m=>m.cL (r' :=aF 5 1 (.slice none 0 0) 0 []) (.refl _ _) (Own.nil _ _ _ _) (fun k hk=>hk.elim)) ?_
     exact cW trivial rfl rfl rfl [0] rfl [] rfl ⟨_,rfl,rfl,rfl⟩
    ·rw[qI hp0 hw1 hd1 (by omega)]at hU
     obtain⟨hs2,hs3⟩:=kv hw1
     have hml:=nc (o:=o) hw1
     have hmn:(made p o).length≤10000000:=by omega
     have hdl:p.length-(cT p).1=(p.drop (cT p).1).length:=by rw[List.length_drop]
     generalize hsz:(cT p).1=sz at hs2 hs3 hU hdl ⊢
     refine aC<|ag<|ah<|ah<|aj<|hy (fun _=>aa rfl)<|hy (fun _=>cy rfl rfl)<|ai<|al (ρ' :=[(37,_),(35,_),(29,_),(10,_),(9,_),(8,_),(7,_),(14,_),(0,_),(6,_),(1,_)]) ⟨rfl,rfl,rfl,rfl,rfl,rfl,rfl,rfl,rfl,rfl,rfl,trivial⟩<|ag<| ?_
     refine cI rfl (fun hz0=> ?_) (fun hz0=> ?_)
     ·have hd0:(cT p).2.2.1=0:=by omega
      have hma:made p o=o++(p.drop 1).take (sz-1):=by rw[made,if_pos hd0,hsz]
      refine bD (fun w m=>m.lq 0 rfl (View.sub (n:=p.length) (c:=c2) (k:=1) (m:=sz-1) (by omega) (by omega))) ?_
      refine ba (fun m=>fG (m.rd 0 rfl)) ?_
      rintro⟨hl_q,hA_q⟩
      refine aj<|hy (fun _=>aa rfl)<|hy (fun _=>aa rfl)<|hy (fun _=>aa rfl)<|hy (fun _=>en rfl rfl rfl Tryz.underlying27 dE (show((1:Nat):Int)=1 from rfl) (rfl:((sz:Nat):Int)=_) (by omega) (by omega))<| ?_
      refine hx (bu 0 rfl rfl rfl Tryz.underlying27 Tryz.underlying27 (by exact .inl rfl) ey rfl (fun m=>Src.bN (m.rd 0 rfl)) aS (by unfold maxLen;omega) (by omega) (fun u=> ?_))
      refine aw (fun m=>(m.own 0 rfl).slice) ?_
      rintro⟨A_x,c_x,rfl,hc_x⟩
      refine aw (fun m=>(m.ord 0 rfl).2.1) fun hA_x=> ?_
      have hlm:o.length+(sz-1)=(made p o).length:=by rw[hma,List.length_append,List.length_take,List.length_drop];omega
      rw[hlm]at hc_x hA_x ⊢
      refine aV (fun w m=>m.bQ 0 rfl (show _=aF 5 1 (.slice A_x (made p o).length c_x) (made p o).length (aK (made p o))from congrArg (aF _ _ _ _) (by rw[hma,bm]))) ?_
      refine hy (fun _=>ab rfl)<|ai<|al (ρ' :=[(6,_),(37,_),(35,_),(29,_),(10,_),(9,_),(8,_),(7,_),(14,_),(0,_),(1,_)]) ⟨rfl,rfl,rfl,rfl,rfl,rfl,rfl,rfl,rfl,rfl,rfl,trivial⟩<|ak (X' :=[_]) (S' :=[_,_,_]) (fun _ m=>m)<|ag<|ah<|ah<|aj<|hy (fun _=>ab rfl)<|ai<|ag<|aN<| ?_
      refine dA (fun k2=>1) (fun k2=>[(11,.int .i64 (k2:Nat)),(6,.slice A_x (made p o).length c_x)]) (fun k2=>[aF 5 1 (.slice A_x (made p o).length c_x) (made p o).length (aK (made p o))]) (fun k2=>[]) (fun k2=>True) 0 [(37,_),(35,_),(29,_),(10,_),(9,_),(8,_),(7,_),(14,_),(0,_),(1,_)] ⟨rfl,rfl,rfl,rfl,rfl,rfl,rfl,rfl,rfl,rfl,trivial⟩ [0] rfl [] rfl (trivial) ⟨rfl,rfl,trivial⟩ (fun k2 _=> ?_)
      refine ah<|ah<|aj<|hy (fun _=>aa rfl)<|hy (fun _=>yF (cF rfl rfl) ((decide_eq_false (by omega))))<|hy (fun _=>aa rfl)<|a6 rfl rfl rfl (by decide)<|a6 rfl rfl rfl (by decide)<|a6 rfl rfl rfl (by decide)<|hy (fun _=>a7 rfl rfl)<|ai<|al (ρ' :=[(49,_),(11,_),(6,_),(37,_),(35,_),(29,_),(10,_),(9,_),(8,_),(7,_),(14,_),(0,_),(1,_)]) ⟨rfl,rfl,rfl,rfl,rfl,rfl,rfl,rfl,rfl,rfl,rfl,rfl,rfl,trivial⟩<|ag<| ?_
      refine dx rfl (rfl) ?_
      refine bD (fun w m=>m.lq 1 rfl (View.drop (n:=p.length) (c:=c2) (k:=sz) (by omega) (by omega))) ?_
      refine ba (fun m=>fG (m.rd 0 rfl)) ?_
      rintro⟨hl_p2,hA_p2⟩
      refine bS<|ar<|ar<|aE<|ag<|aj<|hy (fun _=>aa rfl)<|hy (fun _=>aa rfl)<|hy (fun _=>dm rfl rfl Tryz.underlying27 dE rfl (by omega))<|hy (fun _=>ab rfl)<|ai<|al (ρ' :=[(0,_),(49,_),(11,_),(6,_),(37,_),(35,_),(29,_),(10,_),(9,_),(8,_),(7,_),(14,_),(1,_)]) ⟨rfl,rfl,rfl,rfl,rfl,rfl,rfl,rfl,rfl,rfl,rfl,rfl,rfl,trivial⟩<|aW<| ?_
      rw[hdl]
      refine ig (p.drop sz) (made p o) _ (c2-sz) A_x c_x ⟨rfl,rfl,rfl,trivial⟩ [0] rfl [0,3] rfl (⟨by rw[←hdl];omega,by rw[←hdl];omega,hmn,hU⟩) (by rw[←hdl];omega)
     ·have hd0:0<(cT p).2.2.1:=by omega
      have hma:made p o=again (cT p).2.2.1 (cT p).2.1 o:=by rw[made,if_neg (by omega)]
      generalize hdd:(cT p).2.2.1=dd at*
      generalize hnn:(cT p).2.1=nn at*
      refine aC<|ag<|ah<|ah<|aj<|hy (fun _=>ab rfl)<|ai<|ag<|aN<| ?_
      refine lf (fun k2 o2 A4 c4=>nn-k2) (fun k2 o2 A4 c4=>[(11,.int .i64 (k2:Nat)),(6,.slice A4 o2.length c4)]) (fun k2 o2 A4 c4=>[aF 5 1 (.slice A4 o2.length c4) o2.length (aK o2)]) (fun k2 o2 A4 c4=>[]) (fun k2 o2 A4 c4=>k2≤nn∧o2.length=o.length+k2∧again dd (nn-k2) o2=made p o) 0 o A3 c3 [(37,_),(35,_),(29,_),(10,_),(9,_),(8,_),(7,_),(14,_),(0,_),(1,_)] ⟨rfl,rfl,rfl,rfl,rfl,rfl,rfl,rfl,rfl,rfl,trivial⟩ [0] rfl [] rfl (⟨Nat.zero_le _,rfl,hma.symm⟩) ⟨rfl,rfl,trivial⟩ (fun k2 o2 A4 c4 ⟨hk2,ho2,hag⟩=> ?_)
      refine ah<|ah<|aj<|hy (fun _=>aa rfl)<|hy (fun _=>yT (cF rfl rfl) ((decide_eq_true (by omega))))<|hy (fun _=>aa rfl)<|ca (o:=_) rfl rfl rfl (fun _=>aa rfl)<|ca (o:=_) rfl rfl rfl (fun _=>aa rfl)<|ca (o:=_) rfl rfl rfl (fun _=>bk rfl rfl)<|hy (fun _=>bo rfl rfl)<|ai<|al (ρ' :=[(49,_),(11,_),(6,_),(37,_),(35,_),(29,_),(10,_),(9,_),(8,_),(7,_),(14,_),(0,_),(1,_)]) ⟨rfl,rfl,rfl,rfl,rfl,rfl,rfl,rfl,rfl,rfl,rfl,rfl,rfl,trivial⟩<|ag<| ?_
      refine cI rfl (fun hkn=> ?_) (fun hkn=> ?_)
      ·have hag2:again dd (nn-(k2+1)) (o2++[o2.getD (o2.length-dd) 0])=made p o:=by
        rw[←hag,show nn-k2=(nn-(k2+1))+1 by omega]
        rfl
       refine ba (fun m=>(m.ord 0 rfl).2.1) fun hA4=> ?_
       refine aC<|ag<|ah<|aN<|aj<|hy (fun _=>aa rfl)<|hy (fun _=>aa rfl)<|hy (fun _=>aa rfl)<|hy (fun _=>aX rfl Tryz.underlying27)<|hy (fun _=>aa rfl)<|hy (fun _=>b6 rfl rfl (bB (by omega) (by omega)))<|hy (fun _=>aL rfl rfl Tryz.underlying27 dE hA4 (show((o2.length-dd:Nat):Int)=_ by omega) (by omega))<|hy (fun m=>av rfl iy ((m.ord 0 rfl).cell (bC (by omega))))<| ?_
       refine hx (cg Tryz.underlying27 ey rfl rfl rfl (by simp[Value.cells,B8]) (by decide) (by decide) (fun g60=> ?_))
       have hA_b60:0<1→(some (⟨g60,0,none⟩:Addr))≠none:=fun _ h=>by cases h
       refine aV (fun w m=>m.bQ 0 rfl (show _=aF 5 1 (.slice (some ⟨g60,0,none⟩) 1 1) 1 (aK [o2.getD (o2.length-dd) 0])from rfl)) ?_
       refine hx (bu 1 rfl rfl rfl Tryz.underlying27 Tryz.underlying27 (by exact .inl rfl) ey rfl (fun m=>Src.bN (m.ord 0 rfl)) aS (by unfold maxLen;omega) (by omega) (fun u=> ?_))
       refine aw (fun m=>(m.own 0 rfl).slice) ?_
       rintro⟨A_x,c_x,rfl,hc_x⟩
       refine aw (fun m=>(m.ord 0 rfl).2.1) fun hA_x=> ?_
       refine aV (fun w m=>m.bQ 0 rfl (show _=aF 5 1 (.slice A_x (o2.length+1) c_x) (o2.length+1) (aK (o2++[o2.getD (o2.length-dd) 0]))from congrArg (aF _ _ _ _) (bm _ _).symm)) ?_
       have hl1:o2.length+1=(o2++[o2.getD (o2.length-dd) 0]).length:=by simp
       rw[hl1]at hc_x hA_x ⊢
       refine hy (fun _=>ab rfl)<|ai<|al (ρ' :=[(6,_),(49,_),(11,_),(37,_),(35,_),(29,_),(10,_),(9,_),(8,_),(7,_),(14,_),(0,_),(1,_)]) ⟨rfl,rfl,rfl,rfl,rfl,rfl,rfl,rfl,rfl,rfl,rfl,rfl,rfl,trivial⟩<|ak (X' :=[_,_]) (S' :=[_,_]) (fun _ m=>m)<|aW<|ag<|aj<|hy (fun _=>aa rfl)<|hy (fun _=>aM rfl rfl (bB (by omega) (by omega)))<|hy (fun _=>ab rfl)<|ai<|al (ρ' :=[(11,_),(6,_),(49,_),(37,_),(35,_),(29,_),(10,_),(9,_),(8,_),(7,_),(14,_),(0,_),(1,_)]) ⟨rfl,rfl,rfl,rfl,rfl,rfl,rfl,rfl,rfl,rfl,rfl,rfl,rfl,trivial⟩<| ?_
       refine fA (k2+1) (o2++[o2.getD (o2.length-dd) 0]) A_x c_x ⟨rfl,rfl,rfl,rfl,rfl,rfl,rfl,rfl,rfl,rfl,rfl,rfl,trivial⟩ [0] rfl [0,1] rfl (⟨by omega,by rw[←hl1];omega,hag2⟩) (by omega)
      ·obtain rfl:k2=nn:=by omega
       have hag2:o2=made p o:=by rw[←hag,Nat.sub_self];rfl
       rw[hag2]
       refine bD (fun w m=>m.lq 0 rfl (View.drop (n:=p.length) (c:=c2) (k:=sz) (by omega) (by omega))) ?_
       refine ba (fun m=>fG (m.rd 0 rfl)) ?_
       rintro⟨hl_p2,hA_p2⟩
       refine bS<|ar<|ar<|aE<|ag<|aj<|hy (fun _=>aa rfl)<|hy (fun _=>aa rfl)<|hy (fun _=>dm rfl rfl Tryz.underlying27 dE rfl (by omega))<|hy (fun _=>ab rfl)<|ai<|al (ρ' :=[(0,_),(49,_),(11,_),(6,_),(37,_),(35,_),(29,_),(10,_),(9,_),(8,_),(7,_),(14,_),(1,_)]) ⟨rfl,rfl,rfl,rfl,rfl,rfl,rfl,rfl,rfl,rfl,rfl,rfl,rfl,trivial⟩<|aW<| ?_
       rw[hdl]
       refine ig (p.drop sz) (made p o) _ (c2-sz) A4 c4 ⟨rfl,rfl,rfl,trivial⟩ [0] rfl [0,2] rfl (⟨by rw[←hdl];omega,by rw[←hdl];omega,hmn,hU⟩) (by rw[←hdl];omega)
 ·have hp0:p=[]:=List.eq_nil_of_length_eq_zero (by omega)
  rw[hp0,qv]at hU
  rw[←hU]
  refine bS<|ar<|ar<|aE<|ag<|ah<|aj<|hy (fun _=>aa rfl)<|hy (fun _=>ab rfl)<|hy (fun _=>ab rfl)<|ai<|al (ρ' :=[(5,_),(4,_),(14,_),(0,_),(6,_),(1,_)]) ⟨rfl,rfl,rfl,rfl,rfl,rfl,trivial⟩<|ag<|aQ<| ?_
  exact cW trivial rfl rfl rfl [0] rfl [] rfl ⟨_,rfl,rfl,rfl⟩
end Go.Proofs.YtmibdabdlgmafaaGreatDoor
end
section
set_option maxRecDepth 20000
set_option maxHeartbeats 4000000
namespace Go.Proofs.YtmibdabdlgmafaaGreatDoor
open Go.Eng Go.Hx
theorem od{f:List UInt8}{most:Int}(h:ib f=none):dg f most=([],2):=by unfold dg;rw[h]
theorem pZ{f:List UInt8}{most:Int}{k:Nat}(h:ib f=some k)(hm:most<(k:Int)):dg f most=([],3):=by unfold dg;rw[h];simp only;rw[if_pos hm]
theorem rT{f:List UInt8}{most:Int}{k:Nat}(h:ib f=some k)(hm:¬most<(k:Int)):dg f most=gn f k:=by unfold dg;rw[h];simp only;rw[if_neg hm]
theorem r6{f:List UInt8}{k:Nat}(h:ib f=some k):10≤f.length∧k<4294967296:=by
 unfold ib at h
 split at h
 ·cases h
 ·rename_i hq
  cases h
  exact⟨by have:¬f.length<10:=fun e=>hq (.inl e);omega,rb _⟩
theorem Ef{A:Option Addr}{c:Nat}{f:List UInt8}{most:Int}(hc:f.length≤c)(hn:f.length≤10000000)(hm:most≤1000000):cj Tryz.prog 155 [.slice A f.length c,.int .i64 most] [] [dw 1 A f.length (aK f)] (fun v_ X_ S_=>∃v,v_=(.tuple #[v,.int .i64 (dg f most).2])∧X_=[aF 5 1 v (dg f most).1.length (aK (dg f most).1)]∧S_=[]):=by
 refine nE (N:=54) Tryz.func155 rfl rfl (by simp) fun b=> ?_
 refine ba (fun m=>fG (m.rd 0 rfl)) ?_
 rintro⟨hl_r,hA_r⟩
 refine ah<|aj<| ?_
 refine hx (aJ qK (fun g4=> ?_))
 refine aV (fun w m=>m.bQ 0 rfl (show _=aH g4 27 [.slice none 0 0]from rfl)) ?_
 refine hx (aJ Es (fun g5=> ?_))
 refine aV (fun w m=>m.bQ 0 rfl (show _=aH g5 47 [.int .i64 0]from rfl)) ?_
 rcases hL:ib f with _|k
 ·refine ai<|ak (X' :=[_,_]) (S' :=[_]) (fun _ m=>m)<|ag<|ah<|aj<|hy (fun _=>j1 rfl rfl)<|uD rfl rfl<|ai<|al (ρ' :=[(5,_),(4,_),(0,_),(1,_)]) ⟨rfl,rfl,rfl,rfl,trivial⟩<|ag<|ah<|aj<|hy (fun _=>aa rfl)<| ?_
  refine hx (aq rfl Tryz.call211 (qV (by omega) (by omega) rfl) [] rfl [0] rfl ?_)
  rintro _ _ _ ⟨rfl,rfl,rfl⟩
  refine hy (fun _=>aa rfl)<|hy (fun _=>ao rfl rfl)<|hy (fun _=>ao rfl rfl)<|hy (fun _=>ab rfl)<| ?_
  refine cN (dQ 0 rfl rfl rfl vA rfl (by first|exact Nat.le_of_ble_eq_true rfl|simp) ?_)
  refine ai<|al (ρ' :=[(6,_),(5,_),(4,_),(0,_),(1,_)]) ⟨rfl,rfl,rfl,rfl,rfl,trivial⟩<|ak (X' :=[_,_]) (S' :=[_]) (fun _ m=>m)<|ag<|ah<|aj<|hy (fun m=>av rfl kE (aB (m.aT 0 rfl) rfl))<|hy (fun _=>cy rfl rfl)<|hy (fun m=>av rfl kE (aB (m.aT 0 rfl) rfl))<| ?_
  refine hx (gq rfl Tryz.call212 (nb) [] rfl [] rfl ?_ ?_)
  ·rintro _ _ _ ⟨rfl,rfl,rfl,q1⟩
   refine eh<|iI<| ?_
   rw[hL]
   rw[(od hL)]
   refine l8 (by simp) Tryz.call210 (fW) [1,0] rfl [] rfl ?_
   rintro _ _ _ ⟨rfl,rfl,rfl⟩
   refine nU (fun w m=>m.cL (r' :=aF 5 1 (.slice none 0 0) 0 []) (.refl _ _) (Own.nil _ _ _ _) (fun k hk=>hk.elim)) ?_
   exact gL rfl rfl rfl dO kE (fun m=>aB (m.aT 1 rfl) (i:=0) rfl) (fun m=>aB (m.aT 2 rfl) (i:=0) rfl) [0] rfl [] rfl ⟨_,rfl,rfl,rfl⟩
  ·rintro _ _ _ ⟨rfl,rfl,rfl,q1⟩
   exact absurd q1 (by rw[hL];simp)
 ·refine ai<|ak (X' :=[_,_]) (S' :=[_]) (fun _ m=>m)<|ag<|ah<|aj<|hy (fun _=>j1 rfl rfl)<|uD rfl rfl<|ai<|al (ρ' :=[(5,_),(4,_),(0,_),(1,_)]) ⟨rfl,rfl,rfl,rfl,trivial⟩<|ag<|ah<|aj<|hy (fun _=>aa rfl)<| ?_
  refine hx (aq rfl Tryz.call211 (qV (by omega) (by omega) (by omega)) [] rfl [0] rfl ?_)
  rintro _ _ _ ⟨rfl,rfl,rfl⟩
  refine hy (fun _=>aa rfl)<|hy (fun _=>ao rfl rfl)<|hy (fun _=>ao rfl rfl)<|hy (fun _=>ab rfl)<| ?_
  refine cN (dQ 0 rfl rfl rfl vA rfl (by first|exact Nat.le_of_ble_eq_true rfl|simp) ?_)
  refine ai<|al (ρ' :=[(6,_),(5,_),(4,_),(0,_),(1,_)]) ⟨rfl,rfl,rfl,rfl,rfl,trivial⟩<|ak (X' :=[_,_]) (S' :=[_]) (fun _ m=>m)<|ag<|ah<|aj<|hy (fun m=>av rfl kE (aB (m.aT 0 rfl) rfl))<|hy (fun _=>cy rfl rfl)<|hy (fun m=>av rfl kE (aB (m.aT 0 rfl) rfl))<| ?_
  refine hx (gq rfl Tryz.call212 (nb) [] rfl [] rfl ?_ ?_)
  ·rintro _ _ _ ⟨rfl,rfl,rfl,q1⟩
   refine eh<|iI<| ?_
   exact absurd q1 (by rw[hL];simp)
  ·rintro _ _ _ ⟨rfl,rfl,rfl,q1⟩
   rw[hL,Option.getD_some]
   refine ai<|al (ρ' :=[(6,_),(5,_),(4,_),(0,_),(1,_)]) ⟨rfl,rfl,rfl,rfl,rfl,trivial⟩<|ak (X' :=[_,_]) (S' :=[_]) (fun _ m=>m)<|ag<|ah<|aj<|hy (fun _=>aa rfl)<|hy (fun _=>aa rfl)<|hy (fun _=>lA rfl rfl)<| ?_
   refine hx (gq rfl Tryz.call212 (nb) [] rfl [] rfl ?_ ?_)
   ·rintro _ _ _ ⟨rfl,rfl,rfl,q2⟩
    refine eh<|iI<| ?_
    rw[(pZ hL (Int.not_le.1 (of_decide_eq_false q2)))]
    refine l8 (by simp) Tryz.call210 (fW) [1,0] rfl [] rfl ?_
    rintro _ _ _ ⟨rfl,rfl,rfl⟩
    refine nU (fun w m=>m.cL (r' :=aF 5 1 (.slice none 0 0) 0 []) (.refl _ _) (Own.nil _ _ _ _) (fun k hk=>hk.elim)) ?_
    exact gL rfl rfl rfl dO kE (fun m=>aB (m.aT 1 rfl) (i:=0) rfl) (fun m=>aB (m.aT 2 rfl) (i:=0) rfl) [0] rfl [] rfl ⟨_,rfl,rfl,rfl⟩
   ·rintro _ _ _ ⟨rfl,rfl,rfl,q2⟩
    obtain⟨h10,hk32⟩:=r6 hL
    have hkm:(k:Int)≤most:=of_decide_eq_true q2
    have hopen:=rT hL (Int.not_lt.2 hkm)
    refine aV (fun w m=>m.lq 0 rfl (View.sub (n:=f.length) (c:=c) (k:=6) (m:=f.length-10) (by omega) (by omega))) ?_
    refine aw (fun m=>fG (m.rd 0 rfl)) ?_
    rintro⟨hl_p,hA_p⟩
    refine ai<|al (ρ' :=[(6,_),(5,_),(4,_),(0,_),(1,_)]) ⟨rfl,rfl,rfl,rfl,rfl,trivial⟩<|ak (X' :=[_,_]) (S' :=[_,_]) (fun _ m=>m)<|ag<|ah<|aj<|hy (fun _=>aa rfl)<|hy (fun _=>aa rfl)<|hy (fun _=>aX rfl Tryz.underlying27)<|hy (fun _=>yV (b6 rfl rfl (bB (by omega) (by omega))) ((show Value.int .i64 ((f.length:Int)-4)= .int .i64 ((f.length-4:Nat):Int) by congr 1;omega)))<|hy (fun _=>yV (en rfl rfl rfl Tryz.underlying27 dE (show((6:Nat):Int)=6 from rfl) rfl (by omega) (by omega)) ((show Value.slice (if c=6 then A else A.map (·.add (6*1))) (f.length-4-6) (c-6)= .slice (if c=6 then A else A.map (·.add (6*1))) (f.length-10) (c-6) by congr 1)))<| ?_
    refine hx (aq rfl Tryz.call117 (k8 (by omega)) [] rfl [0] rfl ?_)
    rintro _ _ _ ⟨v,rfl,rfl,rfl⟩
    refine aw (fun m=>(m.own 0 rfl).slice) ?_
    rintro⟨A_x,c_x,rfl,hc_x⟩
    refine aw (fun m=>(m.ord 0 rfl).2.1) fun hA_x=> ?_
    have hbl:f.length-10=(dH f).length:=by unfold dH;rw[List.length_take,List.length_drop];omega
    have hb2:(f.drop 6).take (dH f).length=dH f:=by rw[←hbl];rfl
    rw[hbl,hb2]
    rw[hbl]at hc_x
    refine cN (dQ 2 rfl rfl rfl mq rfl (by first|exact Nat.le_of_ble_eq_true rfl|simp) ?_)
    refine ai<|al (ρ' :=[(6,_),(5,_),(4,_),(0,_),(1,_)]) ⟨rfl,rfl,rfl,rfl,rfl,trivial⟩<|ak (X' :=[_,_,_]) (S' :=[_,_]) (fun _ m=>m)<|ag<|ah<|ah<|aj<|hy (fun _=>aa rfl)<| ?_
    refine hx (aq rfl Tryz.call213 (zw (by omega) (by omega) rfl) [] rfl [1] rfl ?_)
    rintro _ _ _ ⟨rfl,rfl,rfl⟩
    refine ai<|al (ρ' :=[(28,_),(6,_),(5,_),(4,_),(0,_),(1,_)]) ⟨rfl,rfl,rfl,rfl,rfl,rfl,trivial⟩<|ak (X' :=[_,_,_]) (S' :=[_,_]) (fun _ m=>m)<|ag<| ?_
    refine cI rfl (fun hpk=> ?_) (fun hpk=> ?_)
    ·have hu:vY f k=kq (k:Int) (dH f) []:=by
      unfold vY
      exact if_pos hpk.2
     have hkz:(k:Int)≤10000000:=by omega
     have hul:=oL (most:=(k:Int)) (dH f) [] (by simp)
     have hbn:(dH f).length≤10000000:=by omega
     refine ah<|aj<|hy (fun m=>av rfl dO (aB (m.aT 0 rfl) rfl))<|hy (fun _=>aa rfl)<| ?_
     refine hx (bT rfl Tryz.call214 (Ad hc_x hbn hkz) [] rfl (.x 1 rfl .own .nil) ?_)
     rintro _ _ _ ⟨v2,rfl,rfl,rfl⟩
     refine⟨rfl, ?_⟩
     refine aw (fun m=>(m.own 0 rfl).slice) ?_
     rintro⟨A_x2,c_x2,rfl,hc_x2⟩
     refine aw (fun m=>(m.ord 0 rfl).2.1) fun hA_x2=> ?_
     refine hy (fun _=>aa rfl)<|hy (fun _=>ao rfl rfl)<|hy (fun _=>ao rfl rfl)<| ?_
     refine cN (dQ 1 rfl rfl rfl mq rfl (by first|exact Nat.le_of_ble_eq_true rfl|simp) ?_)
     refine cN (dQ 3 rfl rfl rfl vA rfl (by first|exact Nat.le_of_ble_eq_true rfl|simp) ?_)
     refine ai<|al (ρ' :=[(28,_),(6,_),(5,_),(4,_),(0,_),(1,_)]) ⟨rfl,rfl,rfl,rfl,rfl,rfl,trivial⟩<|ak (X' :=[_,_,_,_]) (S' :=[_,_]) (fun _ m=>m)<|ag<|aj<|hy (fun m=>av rfl kE (aB (m.aT 0 rfl) rfl))<|hy (fun _=>cy rfl rfl)<| ?_
     refine hx (gq rfl Tryz.call212 (nb) [] rfl [] rfl ?_ ?_)
     ·rintro _ _ _ ⟨rfl,rfl,rfl,q3⟩
      refine eh<|iI<| ?_
      have hno:dg f most=([],2):=by
       rw[hopen]
       unfold gn
       rw[hu]
       exact if_pos (of_decide_eq_false q3)
      rw[hno]
      refine l8 (by simp) Tryz.call210 (fW) [1,0] rfl [] rfl ?_
      rintro _ _ _ ⟨rfl,rfl,rfl⟩
      refine nU (fun w m=>m.cL (r' :=aF 5 1 (.slice none 0 0) 0 []) (.refl _ _) (Own.nil _ _ _ _) (fun k hk=>hk.elim)) ?_
      exact gL rfl rfl rfl dO kE (fun m=>aB (m.aT 1 rfl) (i:=0) rfl) (fun m=>aB (m.aT 2 rfl) (i:=0) rfl) [0] rfl [] rfl ⟨_,rfl,rfl,rfl⟩
     ·rintro _ _ _ ⟨rfl,rfl,rfl,q3⟩
      have hE0:(kq (k:Int) (dH f) []).2=0:=of_decide_eq_true q3
      obtain⟨u,hu2⟩:∃u,kq (k:Int) (dH f) []=(u,0):=⟨_,Prod.ext rfl hE0⟩
      rw[hu2]at hu hul
      rw[hu2]
      dsimp only
      have hun:u.length≤1000000:=by
       rcases hul.1 with h|h
       ·have h:(u.length:Int)≤k:=h
        omega
       ·have h:u=[]:=h
        rw[h];exact Nat.zero_le _
      refine ai<|al (ρ' :=[(28,_),(6,_),(5,_),(4,_),(0,_),(1,_)]) ⟨rfl,rfl,rfl,rfl,rfl,rfl,trivial⟩<|ak (X' :=[_,_,_,_]) (S' :=[_,_]) (fun _ m=>m)<|ag<|ah<|aj<|hy (fun m=>av rfl dO (aB (m.aT 1 rfl) rfl))<|hy (fun _=>aX rfl Tryz.underlying27)<|hy (fun _=>aa rfl)<|hy (fun _=>cy rfl rfl)<| ?_
      refine hx (gq rfl Tryz.call212 (nb) [] rfl [] rfl ?_ ?_)
      ·rintro _ _ _ ⟨rfl,rfl,rfl,q4⟩
       refine eh<|iI<| ?_
       have hno:dg f most=([],2):=by
        rw[hopen]
        unfold gn
        rw[hu]
        exact(if_neg (by simp)).trans (if_pos (by have:=of_decide_eq_false q4;simp only;omega))
       rw[hno]
       refine l8 (by simp) Tryz.call210 (fW) [1,0] rfl [] rfl ?_
       rintro _ _ _ ⟨rfl,rfl,rfl⟩
       refine nU (fun w m=>m.cL (r' :=aF 5 1 (.slice none 0 0) 0 []) (.refl _ _) (Own.nil _ _ _ _) (fun k hk=>hk.elim)) ?_
       exact gL rfl rfl rfl dO kE (fun m=>aB (m.aT 1 rfl) (i:=0) rfl) (fun m=>aB (m.aT 2 rfl) (i:=0) rfl) [0] rfl [] rfl ⟨_,rfl,rfl,rfl⟩
      ·rintro _ _ _ ⟨rfl,rfl,rfl,q4⟩
       have hlen:(u).length=k:=by have:=of_decide_eq_true q4;omega
       have hgo:dg f most=if gx (db u)≠f.drop (f.length-4)then([],7)else(u,0):=by
        rw[hopen]
        unfold gn
        rw[hu]
        exact(if_neg (by simp)).trans (if_neg (by simp only;omega))
       refine aV (fun w m=>m.lq 1 rfl (View.drop (n:=f.length) (c:=c) (k:=f.length-4) (by omega) (by omega))) ?_
       refine aw (fun m=>fG (m.rd 0 rfl)) ?_
       rintro⟨hl_t,hA_t⟩
       have hcl:=gT u
       refine ai<|al (ρ' :=[(28,_),(6,_),(5,_),(4,_),(0,_),(1,_)]) ⟨rfl,rfl,rfl,rfl,rfl,rfl,trivial⟩<|ak (X' :=[_,_,_,_]) (S' :=[_,_,_]) (fun _ m=>m)<|ag<|ah<|x9 [43,44,45,46,47,48,49,50,51,52] [0,0,0,0] [0,1,2] rfl rfl [1,2,8,9] [(0,some 0),(3,some 2),(4,some 4),(5,some 2),(6,some 2),(7,some 2),(1,none),(2,none),(8,none),(9,none)] (by kernel_rfl) (by kernel_rfl) (by kernel_rfl) rfl 99<|cn (fun m=>av rfl dO (aB (m.aT 1 rfl) rfl))<|an (aa rfl)<|an (aa rfl)<|an (aX rfl Tryz.underlying27)<|an (yV (b6 rfl rfl (bB (by omega) (by omega))) ((show Value.int .i64 ((f.length:Int)-4)= .int .i64 ((f.length-4:Nat):Int) by congr 1;omega)))<|an (dm rfl rfl Tryz.underlying27 dE rfl (by omega))<| ?_
       refine eK (bT rfl Tryz.call180 (nN (by omega)) [] rfl (.x 2 rfl .own .nil) ?_)
       rintro _ _ _ ⟨rfl,rfl,rfl⟩
       refine⟨rfl, ?_⟩
       refine⟨(fun _=>wk [0,0,0,0] [0,1,2] rfl rfl), ?_⟩
       refine eK (aq rfl Tryz.call179 (jc (by omega)) [] rfl [] rfl ?_)
       rintro _ _ _ ⟨v3,rfl,rfl,rfl⟩
       refine⟨(fun _=>wk [1,1,1,1] [0,1,2] rfl rfl), ?_⟩
       refine cP (fun m=>(m.own 0 rfl).slice) ?_
       rintro⟨A_x3,c_x3,rfl,hc_x3⟩
       refine cP (fun m=>(m.ord 0 rfl).2.1) fun hA_x3=> ?_
       refine eK (bT rfl Tryz.call215 (kb) [] rfl (.x 0 rfl .own (.s 0 rfl .nil)) ?_)
       rintro _ _ _ ⟨rfl,rfl,rfl⟩
       refine⟨rfl, ?_⟩
       refine⟨(fun _=>wk [1,1,1,1] [0,1,2] rfl rfl), ?_⟩
       refine eK (gq rfl Tryz.call212 (nb) [] rfl [] rfl ?_ ?_)
       ·rintro _ _ _ ⟨rfl,rfl,rfl,q5⟩
        refine Bh<|eh<|iI<| ?_
        rw[(hgo.trans (if_pos (of_decide_eq_false q5)))]
        refine l8 (by simp) Tryz.call210 (fW) [2,1] rfl [] rfl ?_
        rintro _ _ _ ⟨rfl,rfl,rfl⟩
        refine nU (fun w m=>m.cL (r' :=aF 5 1 (.slice none 0 0) 0 []) (.refl _ _) (Own.nil _ _ _ _) (fun k hk=>hk.elim)) ?_
        exact gL rfl rfl rfl dO kE (fun m=>aB (m.aT 1 rfl) (i:=0) rfl) (fun m=>aB (m.aT 2 rfl) (i:=0) rfl) [0] rfl [] rfl ⟨_,rfl,rfl,rfl⟩
       ·rintro _ _ _ ⟨rfl,rfl,rfl,q5⟩
        refine⟨(fun _=>wk [1,1,1,1] [0,1,2] rfl rfl), ?_⟩
        rw[hgo.trans (if_neg (fun h=>h (of_decide_eq_true q5)))]
        refine xH<|al (ρ' :=[(28,_),(6,_),(5,_),(4,_),(0,_),(1,_)]) ⟨rfl,rfl,rfl,rfl,rfl,rfl,trivial⟩<|ak (X' :=[_,_,_,_,_]) (S' :=[_,_,_]) (fun _ m=>m)<|ag<|ah<|aj<|hy (fun m=>av rfl dO (aB (m.aT 2 rfl) rfl))<| ?_
        refine cN (dQ 2 rfl rfl rfl mq rfl (by first|exact Nat.le_of_ble_eq_true rfl|simp) ?_)
        refine cN (dQ 2 rfl rfl rfl vA rfl (by first|exact Nat.le_of_ble_eq_true rfl|simp) ?_)
        refine ai<|al (ρ' :=[(28,_),(6,_),(5,_),(4,_),(0,_),(1,_)]) ⟨rfl,rfl,rfl,rfl,rfl,rfl,trivial⟩<|ak (X' :=[_,_,_,_,_]) (S' :=[_,_,_]) (fun _ m=>m)<|ag<|aQ<| ?_
        refine uT trivial ?_
        refine l8 (by simp) Tryz.call210 (sl) [1,0] rfl [] rfl ?_
        rintro _ _ _ ⟨rfl,rfl,rfl⟩
        exact gL rfl rfl rfl dO kE (fun m=>aB (m.aT 0 rfl) (i:=0) rfl) (fun m=>aB (m.aT 1 rfl) (i:=0) rfl) [3] rfl [] rfl ⟨_,rfl,rfl,rfl⟩
    ·have hu:vY f k=(dH f,0):=by
      unfold vY
      exact if_neg fun e=>hpk ⟨by rw[hL];rfl,e⟩
     refine aC<|ag<|ah<|aj<|hy (fun m=>av rfl dO (aB (m.aT 0 rfl) rfl))<|hy (fun _=>aX rfl Tryz.underlying27)<|hy (fun _=>aa rfl)<|hy (fun _=>cy rfl rfl)<| ?_
     refine hx (gq rfl Tryz.call212 (nb) [] rfl [] rfl ?_ ?_)
     ·rintro _ _ _ ⟨rfl,rfl,rfl,q4⟩
      refine eh<|iI<| ?_
      have hno:dg f most=([],2):=by
       rw[hopen]
       unfold gn
       rw[hu]
       exact(if_neg (by simp)).trans (if_pos (by have:=of_decide_eq_false q4;simp only;omega))
      rw[hno]
      refine l8 (by simp) Tryz.call210 (fW) [0,1] rfl [] rfl ?_
      rintro _ _ _ ⟨rfl,rfl,rfl⟩
      refine nU (fun w m=>m.cL (r' :=aF 5 1 (.slice none 0 0) 0 []) (.refl _ _) (Own.nil _ _ _ _) (fun k hk=>hk.elim)) ?_
      exact gL rfl rfl rfl dO kE (fun m=>aB (m.aT 1 rfl) (i:=0) rfl) (fun m=>aB (m.aT 2 rfl) (i:=0) rfl) [0] rfl [] rfl ⟨_,rfl,rfl,rfl⟩
     ·rintro _ _ _ ⟨rfl,rfl,rfl,q4⟩
      have hlen:((dH f)).length=k:=by have:=of_decide_eq_true q4;omega
      have hgo:dg f most=if gx (db (dH f))≠f.drop (f.length-4)then([],7)else((dH f),0):=by
       rw[hopen]
       unfold gn
       rw[hu]
       exact(if_neg (by simp)).trans (if_neg (by simp only;omega))
      refine aV (fun w m=>m.lq 1 rfl (View.drop (n:=f.length) (c:=c) (k:=f.length-4) (by omega) (by omega))) ?_
      refine aw (fun m=>fG (m.rd 0 rfl)) ?_
      rintro⟨hl_t,hA_t⟩
      have hcl:=gT (dH f)
      refine ai<|al (ρ' :=[(28,_),(6,_),(5,_),(4,_),(0,_),(1,_)]) ⟨rfl,rfl,rfl,rfl,rfl,rfl,trivial⟩<|ak (X' :=[_,_,_]) (S' :=[_,_,_]) (fun _ m=>m)<|ag<|ah<|x9 [43,44,45,46,47,48,49,50,51,52] [0,0,0] [0,1,2] rfl rfl [1,2,8,9] [(0,some 0),(3,some 2),(4,some 4),(5,some 2),(6,some 2),(7,some 2),(1,none),(2,none),(8,none),(9,none)] (by kernel_rfl) (by kernel_rfl) (by kernel_rfl) rfl 99<|cn (fun m=>av rfl dO (aB (m.aT 0 rfl) rfl))<|an (aa rfl)<|an (aa rfl)<|an (aX rfl Tryz.underlying27)<|an (yV (b6 rfl rfl (bB (by omega) (by omega))) ((show Value.int .i64 ((f.length:Int)-4)= .int .i64 ((f.length-4:Nat):Int) by congr 1;omega)))<|an (dm rfl rfl Tryz.underlying27 dE rfl (by omega))<| ?_
      refine eK (bT rfl Tryz.call180 (nN (by omega)) [] rfl (.x 1 rfl .own .nil) ?_)
      rintro _ _ _ ⟨rfl,rfl,rfl⟩
      refine⟨rfl, ?_⟩
      refine⟨(fun _=>wk [0,0,0] [0,1,2] rfl rfl), ?_⟩
      refine eK (aq rfl Tryz.call179 (jc (by omega)) [] rfl [] rfl ?_)
      rintro _ _ _ ⟨v2,rfl,rfl,rfl⟩
      refine⟨(fun _=>wk [1,1,1] [0,1,2] rfl rfl), ?_⟩
      refine cP (fun m=>(m.own 0 rfl).slice) ?_
      rintro⟨A_x2,c_x2,rfl,hc_x2⟩
      refine cP (fun m=>(m.ord 0 rfl).2.1) fun hA_x2=> ?_
      refine eK (bT rfl Tryz.call215 (kb) [] rfl (.x 0 rfl .own (.s 0 rfl .nil)) ?_)
      rintro _ _ _ ⟨rfl,rfl,rfl⟩
      refine⟨rfl, ?_⟩
      refine⟨(fun _=>wk [1,1,1] [0,1,2] rfl rfl), ?_⟩
      refine eK (gq rfl Tryz.call212 (nb) [] rfl [] rfl ?_ ?_)
      ·rintro _ _ _ ⟨rfl,rfl,rfl,q5⟩
       refine Bh<|eh<|iI<| ?_
       rw[(hgo.trans (if_pos (of_decide_eq_false q5)))]
       refine l8 (by simp) Tryz.call210 (fW) [1,2] rfl [] rfl ?_
       rintro _ _ _ ⟨rfl,rfl,rfl⟩
       refine nU (fun w m=>m.cL (r' :=aF 5 1 (.slice none 0 0) 0 []) (.refl _ _) (Own.nil _ _ _ _) (fun k hk=>hk.elim)) ?_
       exact gL rfl rfl rfl dO kE (fun m=>aB (m.aT 1 rfl) (i:=0) rfl) (fun m=>aB (m.aT 2 rfl) (i:=0) rfl) [0] rfl [] rfl ⟨_,rfl,rfl,rfl⟩
      ·rintro _ _ _ ⟨rfl,rfl,rfl,q5⟩
       refine⟨(fun _=>wk [1,1,1] [0,1,2] rfl rfl), ?_⟩
       rw[hgo.trans (if_neg (fun h=>h (of_decide_eq_true q5)))]
       refine xH<|al (ρ' :=[(28,_),(6,_),(5,_),(4,_),(0,_),(1,_)]) ⟨rfl,rfl,rfl,rfl,rfl,rfl,trivial⟩<|ak (X' :=[_,_,_,_]) (S' :=[_,_,_]) (fun _ m=>m)<|ag<|ah<|aj<|hy (fun m=>av rfl dO (aB (m.aT 1 rfl) rfl))<| ?_
       refine cN (dQ 1 rfl rfl rfl mq rfl (by first|exact Nat.le_of_ble_eq_true rfl|simp) ?_)
       refine cN (dQ 3 rfl rfl rfl vA rfl (by first|exact Nat.le_of_ble_eq_true rfl|simp) ?_)
       refine ai<|al (ρ' :=[(28,_),(6,_),(5,_),(4,_),(0,_),(1,_)]) ⟨rfl,rfl,rfl,rfl,rfl,rfl,trivial⟩<|ak (X' :=[_,_,_,_]) (S' :=[_,_,_]) (fun _ m=>m)<|ag<|aQ<| ?_
       refine uT trivial ?_
       refine l8 (by simp) Tryz.call210 (sl) [1,0] rfl [] rfl ?_
       rintro _ _ _ ⟨rfl,rfl,rfl⟩
       exact gL rfl rfl rfl dO kE (fun m=>aB (m.aT 0 rfl) (i:=0) rfl) (fun m=>aB (m.aT 1 rfl) (i:=0) rfl) [3] rfl [] rfl ⟨_,rfl,rfl,rfl⟩
end Go.Proofs.YtmibdabdlgmafaaGreatDoor
end
section
set_option maxRecDepth 20000
namespace Go.Proofs.YtmibdabdlgmafaaGreatDoor
open Go.Eng Go.Hx
structure sH where
 h:List UInt32
 n:Nat
 A:Option Addr
 c:Nat
 rest:List UInt8
def lz(h:List UInt32)(n:Nat)(A:Option Addr)(m c:Nat):List Value:=ea h++[.int .i64 (n:Int),.slice A m c]
abbrev lP(g:Nat)(s:sH):bf:=eX [aH g 308 (lz s.h s.n s.A s.rest.length s.c),aF 5 1 (.slice s.A s.rest.length s.c) s.rest.length (aK s.rest)]
structure sH.ok(s:sH)(all:List UInt8):Prop where
 len:s.h.length=8
 n:s.n=all.length
 EU:∃d,d++s.rest=all∧d.length % 64=0∧s.h=fL oY d
theorem jC{h:List UInt32}{n:Nat}{A:Option Addr}{m c:Nat}(hh:h.length=8):(lz h n A m c).length=10:=by simp[lz,ea,hh]
theorem uZ{h:List UInt32}{n:Nat}{A:Option Addr}{m c:Nat}(hh:h.length=8):(lz h n A m c)[8]? =some (.int .i64 (n:Int)):=by
 rw[lz,List.getElem?_append_right (by rw[bs];omega),bs,hh];rfl
theorem sr{h:List UInt32}{n:Nat}{A:Option Addr}{m c:Nat}(hh:h.length=8):(lz h n A m c)[9]? =some (.slice A m c):=by
 rw[lz,List.getElem?_append_right (by rw[bs];omega),bs,hh];rfl
theorem xN{h:List UInt32}{n:Nat}{A:Option Addr}{m c:Nat}{j:Nat}{u:Value}(hu:(ea h)[j]? =some u):(lz h n A m c)[j]? =some u:=by
 rw[lz,List.getElem?_append_left ((List.getElem?_eq_some_iff.1 hu).1)];exact hu
theorem xU{h:List UInt32}{n n' :Nat}{A:Option Addr}{m c:Nat}(hh:h.length=8):(lz h n A m c).set 8 (.int .i64 (n' :Int))=lz h n' A m c:=by
 rw[lz,List.set_append_right _ _ (by rw[bs];omega),bs,hh];rfl
theorem rN{h:List UInt32}{n:Nat}{A A' :Option Addr}{m c m' c' :Nat}(hh:h.length=8):(lz h n A m c).set 9 (.slice A' m' c')=lz h n A' m' c' :=by
 rw[lz,List.set_append_right _ _ (by rw[bs];omega),bs,hh];rfl
theorem y8{h h' :List UInt32}{n:Nat}{A:Option Addr}{m c:Nat}(hh:h.length=8)(hh' :h'.length=8):bR (lz h n A m c) 0 (ea h')=lz h' n A m c:=by
 rw[bR,List.take_zero,List.nil_append,Nat.zero_add,bs,hh',lz,List.drop_append_of_le_length (by rw[bs];omega),List.drop_of_length_le (by rw[bs];omega)];rfl
theorem CZ:cj Tryz.prog 172 [] [] [] (fun v_ X_ S_=>∃g,v_=(.pointer (some ⟨g,0,none⟩))∧X_=[lP g ⟨oY,0,none,0,[]⟩]∧S_=[]):=by
 refine aU (N:=4) Tryz.func172 rfl rfl (by simp) fun b=> ?_
 refine ah<|aj<|hy (fun _=>ab rfl)<|ai<|ag<|ah<|aj<|hy (fun _=>yV (rr (n:=8) uc (by kernel_rfl) rfl (by kernel_rfl) rfl (by kernel_rfl) (by kernel_rfl) (pr (l:=[1779033703,3144134277,1013904242,2773480762,1359893119,2600822924,528734635,1541459225]))) ((rfl:_=Value.agg (ea oY).toArray)))<|hy (fun _=>yV (cD Bw rfl rfl (by kernel_rfl) (.cons (o:=0) (sz:=8) (by kernel_rfl) rfl rfl (Nat.le_of_ble_eq_true rfl) .nil)) ((rfl:_=Value.agg (lz oY 0 none 0 0).toArray)))<| ?_
 refine hx (cp rfl (fun g3=> ?_))
 refine hy (fun _=>ab rfl)<|ai<|al (ρ' :=[(0,_)]) ⟨rfl,trivial⟩<|ak (X' :=[_]) (S' :=[]) (fun _ m=>m)<|ag<|aQ<| ?_
 refine ak (fun w m=>m.bQ 0 rfl (show _=aH g3 308 (lz oY 0 none 0 0)from congrArg (aH _ _) (bq _))) ?_
 refine ak (fun w m=>m.cL (r' :=aF 5 1 (.slice none 0 0) 0 []) (.refl _ _) (Own.nil _ _ _ _) (fun k hk=>hk.elim)) ?_
 refine ak (X' :=lP g3 ⟨oY,0,none,0,[]⟩::_) (fun w m=>(m.perm (az [1,0] _ [_,_] _ rfl)).pack) ?_
 exact bd trivial rfl rfl [0] rfl [] rfl ⟨_,rfl,rfl,rfl⟩
theorem CR:sH.ok ⟨oY,0,none,0,[]⟩ []:=⟨rfl,rfl,[],rfl,rfl,rfl⟩
theorem uA{g:Nat}{s:sH}{B:Option Addr}{mb mc:Nat}{l:List UInt8}(hh:s.h.length=8)(hn:s.n+mb≤1000000000000000)(hr:s.rest.length+mb≤140737488355328):cj Tryz.prog 173 [.pointer (some ⟨g,0,none⟩),.slice B mb mc] [lP g s] [dw 1 B mb (aK l),eU] (fun v_ X_ S_=>∃s1,v_=(.tuple #[])∧X_=[lP g s1]∧S_=[]∧(s1.rest.length<64∧∀all,s.ok all→s1.ok (all++l))):=by
 refine aU (N:=49) Tryz.func173 rfl rfl (by simp) fun b=> ?_
 refine ba (fun m=>fG (m.rd 0 rfl)) ?_
 rintro⟨hl_r,hA_r⟩
 have hlm:l.length=mb:=hl_r
 have hl0:=jC (n:=s.n) (A:=s.A) (m:=s.rest.length) (c:=s.c) hh
 refine bD (fun w m=>(m.perm (az [0] _ [_] _ rfl)).unpack) ?_
 refine ah<|aj<|hy (fun _=>aa rfl)<|hy (fun _=>bx rfl)<|hy (fun _=>aI rfl lT (by decide))<|hy (fun m=>av rfl dV ((m.aT 0 rfl).au 8 _ (uZ hh)))<|hy (fun _=>aa rfl)<|hy (fun _=>aX rfl Tryz.underlying27)<|hy (fun _=>aM rfl rfl (bB (by omega) (by omega)))<|hy (fun _=>bx rfl)<|hy (fun _=>aI rfl lT (by decide))<| ?_
 refine cN (ct 0 rfl rfl rfl rl rfl (by rw[hl0];decide) ?_)
 refine ai<|al (ρ' :=[(0,_),(1,_)]) ⟨rfl,rfl,trivial⟩<|ak (X' :=[_,_]) (S' :=[_,_]) (fun _ m=>m)<|ag<|ah<|aj<| ?_
 refine aV (fun w m=>m.bQ 0 rfl (show _=aH g 308 (lz s.h (s.n+mb) s.A s.rest.length s.c)from by rw[Nat.zero_add,←Int.natCast_add,xU hh])) ?_
 refine hy (fun _=>aa rfl)<|hy (fun _=>aa rfl)<|hy (fun _=>bx rfl)<|hy (fun _=>aI rfl jx (by decide))<|hy (fun m=>av rfl dO ((m.aT 0 rfl).au 9 _ (sr hh)))<|hy (fun _=>aa rfl)<| ?_
 refine hx (bu 1 rfl rfl rfl Tryz.underlying27 Tryz.underlying27 (by exact .inl rfl) ey rfl (fun m=>Src.bN (m.rd 0 rfl)) aS (by unfold maxLen;omega) (by omega) (fun u=> ?_))
 refine aw (fun m=>(m.own 0 rfl).slice) ?_
 rintro⟨A_d1,c_d1,rfl,hc_d1⟩
 refine aw (fun m=>(m.ord 0 rfl).2.1) fun hA_d1=> ?_
 refine aV (fun w m=>m.bQ 0 rfl (show _=aF 5 1 (.slice A_d1 (s.rest++l).length c_d1) (s.rest++l).length (aK (s.rest++l))from by rw[List.length_append,hlm];simp[aK])) ?_
 have hls:=jC (n:=s.n+mb) (A:=s.A) (m:=s.rest.length) (c:=s.c) hh
 refine hy (fun _=>bx rfl)<|hy (fun _=>aI rfl jx (by decide))<| ?_
 refine cN (ct 1 rfl rfl rfl mq rfl (by rw[hls];decide) ?_)
 refine ai<|al (ρ' :=[(0,_),(1,_)]) ⟨rfl,rfl,trivial⟩<|ak (X' :=[_,_]) (S' :=[_,_]) (fun _ m=>m)<|ag<|aN<| ?_
 refine bD (fun w m=>m.bQ 0 rfl (show _=aH g 308 (lz s.h (s.n+mb) A_d1 (s.rest++l).length c_d1)from by rw[Nat.zero_add,rN hh,List.length_append,hlm])) ?_
 have hlen:(s.rest++l).length=s.rest.length+mb:=by rw[List.length_append,hlm]
 refine qM (fun h A1 c1 q dn=>q.length) (fun h A1 c1 q dn=>[]) (fun h A1 c1 q dn=>[aH g 308 (lz h (s.n+mb) A1 q.length c1),aF 5 1 (.slice A1 q.length c1) q.length (aK q)]) (fun h A1 c1 q dn=>[]) (fun h A1 c1 q dn=>h.length=8∧q.length≤c1∧dn++q=s.rest++l∧dn.length % 64=0∧∀D,D.length % 64=0→s.h=fL oY D→h=fL oY (D++dn)) s.h A_d1 c_d1 (s.rest++l) [] [(0,_),(1,_)] ⟨rfl,rfl,trivial⟩ [0,0] rfl [] rfl (⟨hh,(by omega),rfl,rfl,fun D _ e=>by rw[List.append_nil];exact e⟩) trivial (fun h A1 c1 q dn ⟨h8,hqc,hdq,hd64,hD⟩=> ?_)
 have hls:=jC (n:=s.n+mb) (A:=A1) (m:=q.length) (c:=c1) h8
 refine ah<|ah<|aj<|hy (fun _=>aa rfl)<|hy (fun _=>bx rfl)<|hy (fun _=>aI rfl jx (by decide))<|hy (fun m=>av rfl dO ((m.aT 0 rfl).au 9 _ (sr h8)))<|hy (fun _=>aX rfl Tryz.underlying27)<|hy (fun _=>gG rfl rfl)<|ai<|al (ρ' :=[(27,_),(0,_),(1,_)]) ⟨rfl,rfl,rfl,trivial⟩<|ag<| ?_
 refine cI rfl (fun hge=> ?_) (fun hge=> ?_)
 ·have hq64:64≤q.length:=by omega
  refine aC<|ag<|aN<|ah<|cV [10,13] [(0,some 1),(1,some 0),(2,some 0),(3,some 0),(4,some 0),(5,some 1),(6,some 0),(7,some 0),(8,some 0),(9,some 0),(10,none),(11,some 1),(12,some 1),(13,none)] (by kernel_rfl) (by kernel_rfl) rfl 1<|an (aa rfl)<|an (aa rfl)<|an (bx rfl)<|an (aI rfl nK (by decide))<|cn (fun m=>yV (aR rfl pz kG (by rw[bs,h8]) (fun j u hu=>(m.aT 0 rfl).au j u (xN hu))) ((rfl:_=Value.agg (ea h).toArray)))<|an (aa rfl)<|an (bx rfl)<|an (aI rfl jx (by decide))<|cn (fun m=>av rfl dO ((m.aT 0 rfl).au 9 _ (sr h8)))<|an (jA rfl rfl Tryz.underlying27 dE (show((64:Nat):Int)=64 from rfl) (by omega))<| ?_
  refine eK (bT rfl Tryz.call227 (EX (by omega) h8 (l:=(q.take 64))) [] rfl (.x 1 rfl (View.own.trans (View.take hq64)) (.s 1 rfl .nil)) ?_)
  rintro _ _ _ ⟨rfl,rfl,rfl⟩
  refine⟨rfl, ?_⟩
  refine⟨(fun _=>wk [0,0] [0,1] rfl rfl), ?_⟩
  refine an (bx rfl)<|an (aI rfl nK (by decide))<| ?_
  have hb8:=iV h8 (q.take 64)
  refine ja (Ax 0 rfl rfl rfl kG (by rw[bs,hb8]) gO (by rw[hls];decide) ⟨(fun h=>absurd h (by decide)), ?_⟩)
  refine jW (fun w m=>m.bQ 0 rfl (show _=aH g 308 (lz (eS h (q.take 64)) (s.n+mb) A1 q.length c1)from by rw[Nat.zero_add,y8 h8 hb8])) ?_
  have hls2:=jC (n:=s.n+mb) (A:=A1) (m:=q.length) (c:=c1) hb8
  refine jW (X' :=aF 5 1 (.slice (if c1=64 then A1 else A1.map (·.add (64*1))) (q.length-64) (c1-64)) (q.length-64) ((aK q).drop (64*1))::_) (fun w m=>(m.perm (az [1] _ [_] _ rfl)).xl (View.qW hq64 hqc)) ?_
  refine bE<|al (ρ' :=[(27,_),(0,_),(1,_)]) ⟨rfl,rfl,rfl,trivial⟩<|ak (X' :=[_,_]) (S' :=[_,_]) (fun _ m=>m)<|ag<|aj<|hy (fun _=>aa rfl)<|hy (fun _=>aa rfl)<|hy (fun _=>bx rfl)<|hy (fun _=>aI rfl jx (by decide))<|hy (fun m=>av rfl dO ((m.aT 1 rfl).au 9 _ (sr hb8)))<|hy (fun _=>dm rfl rfl Tryz.underlying27 dE (show((64:Nat):Int)=64 from rfl) (by omega))<|hy (fun _=>bx rfl)<|hy (fun _=>aI rfl jx (by decide))<| ?_
  refine cN (ct 1 rfl rfl rfl mq rfl (by rw[hls2];decide) ?_)
  refine ai<|al (ρ' :=[(27,_),(0,_),(1,_)]) ⟨rfl,rfl,rfl,trivial⟩<|ak (X' :=[_,_]) (S' :=[_,_]) (fun _ m=>m)<|aW<| ?_
  have hqd:(q.drop 64).length=q.length-64:=List.length_drop
  have e9:(aK q).drop (64*1)=aK (q.drop 64):=by simp[aK,List.map_drop]
  generalize hA2:(if c1=64 then A1 else A1.map (·.add (64*1)))=A2
  refine ak (fun w m=>m.bQ 0 rfl (show _=aH g 308 (lz (eS h (q.take 64)) (s.n+mb) A2 (q.drop 64).length (c1-64))from by rw[Nat.zero_add,rN hb8,hqd])) ?_
  refine ak (fun w m=>m.bQ 1 rfl (show _=aF 5 1 (.slice A2 (q.drop 64).length (c1-64)) (q.drop 64).length (aK (q.drop 64))from by rw[hqd,e9])) ?_
  refine mg (eS h (q.take 64)) A2 (c1-64) (q.drop 64) (dn++q.take 64) ⟨rfl,rfl,trivial⟩ [1,0] rfl [0,1] rfl (⟨hb8,by omega,by rw[List.append_assoc,List.take_append_drop];exact hdq,by rw[List.length_append,List.length_take];omega,fun D h1 h2=>by rw[←List.append_assoc,ot (by rw[List.length_append];omega) (by rw[List.length_take];omega),←hD D h1 h2]⟩) (by omega)
 ·refine bS<|ar<|ar<|aE<| ?_
  have hok:∀all,s.ok all→sH.ok ⟨h,s.n+mb,A1,c1,q⟩ (all++l):=fun all ok=>by
   obtain⟨D,e1,e2,e3⟩:=ok.EU
   refine⟨h8, ?_,D++dn, ?_, ?_,hD D e2 e3⟩
   ·show s.n+mb=_
    rw[List.length_append,ok.n,hlm]
   ·show(D++dn)++q=_
    rw[List.append_assoc,hdq,←List.append_assoc,e1]
   ·rw[List.length_append];omega
  refine ak (X' :=lP g ⟨h,s.n+mb,A1,c1,q⟩::_) (fun w m=>(m.perm (az [0,0] _ [_,_] _ rfl)).pack) ?_
  exact gH trivial rfl [0] rfl [] rfl ⟨_,rfl,rfl,rfl,⟨(by show q.length<64;omega),hok⟩⟩
theorem AD{h:List UInt32}{n:Nat}{A:Option Addr}{m c:Nat}(hh:h.length=8){z:List Value}(hz:z.length=10):bR (bR (bR z 0 (ea h)) 8 [.int .i64 (n:Int)]) 9 [.slice A m c]=lz h n A m c:=by
 have hw:(ea h).length=8:=by rw[bs,hh]
 have e1:bR z 0 (ea h)=ea h++z.drop 8:=by simp[bR,hw]
 match hq:z.drop 8,(show(z.drop 8).length=2 by rw[List.length_drop,hz])with
 | [x,y],_=>
  rw[e1,hq]
  have e2:bR (ea h++[x,y]) 8 [.int .i64 (n:Int)]=ea h++[.int .i64 (n:Int),y]:=by
   rw[bR,List.take_append_of_le_length (by omega),List.take_of_length_le (by omega),List.drop_append,List.drop_of_length_le (by omega)]
   simp[hw]
  rw[e2,bR,List.take_append,List.take_of_length_le (by omega),List.drop_of_length_le (by simp[hw])]
  simp[hw,lz]
theorem Cm{P:Program}{pl:Nat→Option (Nat×Nat)}{h:List UInt32}(hh:h.length=8){zs:List Value}(hz:zs.length=10)(p0:pl 0=some (0,8))(p1:pl 1=some (8,1))(p2:pl 2=some (9,1)){n:Nat}{A:Option Addr}{m c:Nat}:
  sX P pl zs [(0,.agg (ea h).toArray),(1,.int .i64 (n:Int)),(2,.slice A m c)] (lz h n A m c):=by
 have hw:(ea h).length=8:=by rw[bs,hh]
 have l1:(bR zs 0 (ea h)).length=10:=by rw[gi (by omega),hz]
 have l2:(bR (bR zs 0 (ea h)) 8 [Value.int .i64 (n:Int)]).length=10:=by rw[gi (by rw[l1];show 8+1≤10;decide),l1]
 refine .cons (vs:=ea h) p0 rfl hw (by omega) (.cons (vs:=[.int .i64 (n:Int)]) p1 rfl rfl (by omega) (.cons (vs:=[.slice A m c]) p2 rfl rfl (by omega) ?_))
 have e:=AD (n:=n) (A:=A) (m:=m) (c:=c) hh hz
 show sX P pl (bR (bR (bR zs 0 (ea h)) 8 [.int .i64 (n:Int)]) 9 [.slice A m c]) [] _
 rw[e]
 exact .nil
theorem AQ{g:Nat}{s:sH}(hh:s.h.length=8)(hr:s.rest.length≤140737488351232):cj Tryz.prog 228 [.pointer (some ⟨g,0,none⟩)] [lP g s] [] (fun v_ X_ S_=>∃g2 s2,v_=(.pointer (some ⟨g2,0,none⟩))∧X_=[lP g s,lP g2 s2]∧S_=[]∧(s2.h=s.h∧s2.n=s.n∧s2.rest=s.rest)):=by
 refine aU (N:=18) Tryz.func228 rfl rfl (by simp) fun b=> ?_
 refine bD (fun w m=>(m.perm (az [0] _ [_] _ rfl)).unpack) ?_
 have hl0:=jC (n:=s.n) (A:=s.A) (m:=s.rest.length) (c:=s.c) hh
 refine ah<|aj<|hy (fun _=>ab rfl)<|ai<|ag<|ah<|cV [12,14] [(0,some 2),(1,some 1),(2,some 1),(3,some 1),(4,some 2),(5,some 1),(6,some 1),(7,some 1),(8,some 2),(9,some 2),(10,some 0),(11,some 0),(12,none),(13,some 1),(14,none),(15,some 2)] (by kernel_rfl) (by kernel_rfl) rfl 99<|an (aa rfl)<|an (bx rfl)<|an (aI rfl nK (by decide))<|cn (fun m=>yV (aR rfl pz kG (by rw[bs,hh]) (fun j u hu=>(m.aT 0 rfl).au j u (xN hu))) ((rfl:_=Value.agg (ea s.h).toArray)))<|an (aa rfl)<|an (bx rfl)<|an (aI rfl lT (by decide))<|cn (fun m=>av rfl dV ((m.aT 0 rfl).au 8 _ (uZ hh)))<|an (aa rfl)<|an (bx rfl)<|an (aI rfl jx (by decide))<|cn (fun m=>av rfl dO ((m.aT 0 rfl).au 9 _ (sr hh)))<| ?_
 refine eK (bT rfl Tryz.call117 (k8 (by omega)) [] rfl (.x 1 rfl .own .nil) ?_)
 rintro _ _ _ ⟨v,rfl,rfl,rfl⟩
 refine⟨rfl, ?_⟩
 refine⟨(fun _=>wk [1,1] [] rfl rfl), ?_⟩
 refine cP (fun m=>(m.own 0 rfl).slice) ?_
 rintro⟨A_x,c_x,rfl,hc_x⟩
 refine cP (fun m=>(m.ord 0 rfl).2.1) fun hA_x=> ?_
 refine an (cD Bw rfl rfl (by kernel_rfl) (Cm hh rfl (by kernel_rfl) (by kernel_rfl) (by kernel_rfl)))<| ?_
 refine eK (cp rfl (fun g17=>⟨(fun _=>wk [2,2] [] rfl rfl), ?_⟩))
 refine an (ab rfl)<|bE<|al (ρ' :=[(2,_),(0,_)]) ⟨rfl,rfl,trivial⟩<|ak (X' :=[_,_,_,_]) (S' :=[]) (fun _ m=>m)<|ag<|aQ<| ?_
 refine ak (fun w m=>m.bQ 0 rfl (show _=aH g17 308 (lz s.h s.n A_x s.rest.length c_x)from congrArg (aH _ _) (bq _))) ?_
 refine ak (X' :=lP g s::_) (fun w m=>(m.perm (az [2,2] _ [_,_] _ rfl)).pack) ?_
 refine ak (X' :=lP g17 ⟨s.h,s.n,A_x,c_x,s.rest⟩::_) (fun w m=>(m.perm (az [1,1] _ [_,_] _ rfl)).pack) ?_
 exact bd trivial rfl rfl [1,0] rfl [] rfl ⟨_,_,rfl,rfl,rfl,⟨rfl,rfl,rfl⟩⟩
end Go.Proofs.YtmibdabdlgmafaaGreatDoor
end
section
set_option maxRecDepth 20000
namespace Go.Proofs.YtmibdabdlgmafaaGreatDoor
open Go.Eng Go.Hx
theorem wu(n:Nat)(h:n<18446744073709551616):IntKind.u64.wrap (n:Int)=(n:Int):=by
 simp[IntKind.wrap,IntKind.signed,IntKind.bits];omega
theorem yW{n i:Nat}(hi:i<8):(rn n).take (i+1)=(rn n).take i++[UInt8.ofNat (n/256 ^ (7-i))]:=by
 rw[rn,←List.map_take,←List.map_take,List.take_range,List.take_range,show min (i+1) 8=i+1 by omega,show min i 8=i by omega,List.range_succ,List.map_append];rfl
theorem Ff{i:Nat}(hi:i<8):2 ^ (56-8*i)=256 ^ (7-i):=by
 rw[show(256:Nat)=2 ^ 8 from rfl,←Nat.pow_mul];congr 1;omega
theorem ug(h:List UInt32)(j:Nat)(hj:j<h.length):eO (h.take (j+1))=eO (h.take j)++y5 (h.getD j 0):=by
 rw[List.take_succ_eq_append_getElem hj,eO,eO,List.flatMap_append]
 simp[List.getD,List.getElem?_eq_getElem hj]
theorem oX(h:List UInt32):∀j,j≤h.length→(eO (h.take j)).length=4*j
 |0,_=>rfl
 |j+1,hj=>by rw[ug h j (by omega),List.length_append,oX h j (by omega)];show 4*j+4=_;omega
theorem E0{p r:List UInt8}{k:Nat}{a b c d x y z u:UInt8}(hp:p.length=k):
  ((((aK (p++x::y::z::u::r)).set k (B8 a)).set (k+1) (B8 b)).set (k+2) (B8 c)).set (k+3) (B8 d)=aK (p++a::b::c::d::r):=by
 subst hp
 simp[aK,List.set_append]
theorem Em{g:Nat}{s:sH}{all:List UInt8}(ok:s.ok all)(hr:s.rest.length<64)(ha:all.length≤140737488351232):cj Tryz.prog 174 [.pointer (some ⟨g,0,none⟩)] [lP g s] [eU] (fun v_ X_ S_=>v_=(.agg (aK (bF all)).toArray)∧X_=[lP g s]∧S_=[]):=by
 have hh:=ok.len
 have hsn:=ok.n
 have hl0:=jC (n:=s.n) (A:=s.A) (m:=s.rest.length) (c:=s.c) hh
 have hz64:iw s.n<64:=Nat.mod_lt _ (by decide)
 have hzp:(s.n+(1+iw s.n)) % 64=56:=by unfold iw;omega
 have hzm:∀j,j<iw s.n→(s.n+(1+j)) % 64≠56:=fun j hj=>by unfold iw at hj;omega
 refine aU (N:=83) Tryz.func174 rfl rfl (by simp) fun b=> ?_
 refine ah<|aj<| ?_
 refine hx (aJ cX (fun g2=> ?_))
 refine ai<|ak (X' :=[_,_]) (S' :=[_]) (fun _ m=>m)<|ag<|ah<|aj<|hy (fun _=>aa rfl)<| ?_
 refine hx (aq rfl Tryz.call228 (AQ (by omega) (by omega)) [1] rfl [] rfl ?_)
 rintro _ _ _ ⟨g22,s2,rfl,rfl,rfl,hp⟩
 refine hy (fun _=>ab rfl)<|ai<|al (ρ' :=[(3,_),(2,_),(0,_)]) ⟨rfl,rfl,rfl,trivial⟩<|ak (X' :=[_,_,_]) (S' :=[_]) (fun _ m=>m)<|ag<|ah<|aj<| ?_
 refine hx (cg Tryz.underlying27 ey rfl rfl rfl (by simp[Value.cells,B8]) (by decide) (by decide) (fun g12=> ?_))
 have hA_b12:0<1→(some (⟨g12,0,none⟩:Addr))≠none:=fun _ h=>by cases h
 refine hy (fun _=>ab rfl)<|ai<|al (ρ' :=[(4,_),(3,_),(2,_),(0,_)]) ⟨rfl,rfl,rfl,rfl,trivial⟩<|ak (X' :=[_,_,_,_]) (S' :=[_]) (fun _ m=>m)<|ag<|ah<|aN<| ?_
 obtain⟨c1,c2,c3⟩:=hp
 refine bD (fun w m=>m.bQ 0 rfl (show _=aF 5 1 (.slice (some ⟨g12,0,none⟩) 1 1) (1+0) (aK (128::List.replicate 0 0))from rfl)) ?_
 refine gY (fun j A1 cc=>iw s.n-j) (fun j A1 cc=>[(4,.slice A1 (1+j) cc)]) (fun j A1 cc=>[aF 5 1 (.slice A1 (1+j) cc) (1+j) (aK (128::List.replicate j 0)),lP g s]) (fun j A1 cc=>[]) (fun j A1 cc=>j≤iw s.n) 0 (some ⟨g12,0,none⟩) 1 [(3,_),(2,_),(0,_)] ⟨rfl,rfl,rfl,trivial⟩ [0,0] rfl [] rfl (Nat.zero_le _) ⟨rfl,trivial⟩ (fun j A1 cc hjz=> ?_)
 refine bD (fun w m=>(m.perm (az [1] _ [_] _ rfl)).unpack) ?_
 refine ah<|ah<|aj<|hy (fun _=>aa rfl)<|hy (fun _=>bx rfl)<|hy (fun _=>aI rfl lT (by decide))<|hy (fun m=>av rfl dV ((m.aT 0 rfl).au 8 _ (uZ hh)))<|hy (fun _=>aa rfl)<|hy (fun _=>aX rfl Tryz.underlying27)<|hy (fun _=>aM rfl rfl (bB (by omega) (by omega)))<|hy (fun _=>gr rfl rfl (by omega) (by omega))<|hy (fun _=>cM rfl rfl)<|ai<|al (ρ' :=[(21,_),(4,_),(3,_),(2,_),(0,_)]) ⟨rfl,rfl,rfl,rfl,rfl,trivial⟩<|ag<| ?_
 refine bD (X' :=lP g s::_) (fun w m=>(m.perm (az [0,0] _ [_,_] _ rfl)).pack) ?_
 refine cI rfl (fun hne=> ?_) (fun hne=> ?_)
 ·have hj:j<iw s.n:=by
   rcases Nat.lt_or_eq_of_le hjz with h|h
   ·exact h
   ·rw[←h]at hzp;omega
  refine aC<|ag<|aN<|aj<|hy (fun _=>aa rfl)<| ?_
  refine hx (cg Tryz.underlying27 ey rfl rfl rfl (by simp[Value.cells,B8]) (by decide) (by decide) (fun g23=> ?_))
  have hA_b23:0<1→(some (⟨g23,0,none⟩:Addr))≠none:=fun _ h=>by cases h
  refine aV (fun w m=>m.bQ 0 rfl (show _=aF 5 1 (.slice (some ⟨g23,0,none⟩) 1 1) 1 (aK [0])from rfl)) ?_
  refine hx (bu 2 rfl rfl rfl Tryz.underlying27 Tryz.underlying27 (by exact .inl rfl) ey rfl (fun m=>Src.bN (m.ord 0 rfl)) aS (by unfold maxLen;omega) (by omega) (fun u=> ?_))
  refine aw (fun m=>(m.own 0 rfl).slice) ?_
  rintro⟨A_b12,c_b12,rfl,hc_b12⟩
  refine aw (fun m=>(m.ord 0 rfl).2.1) fun hA_b12=> ?_
  refine hy (fun _=>ab rfl)<|ai<|al (ρ' :=[(4,_),(21,_),(3,_),(2,_),(0,_)]) ⟨rfl,rfl,rfl,rfl,rfl,trivial⟩<|ak (X' :=[_,_,_,_,_]) (S' :=[_]) (fun _ m=>m)<|aW<| ?_
  refine ak (fun w m=>m.bQ 0 rfl (show _=aF 5 1 (.slice A_b12 (1+(j+1)) c_b12) (1+(j+1)) (aK (128::List.replicate (j+1) 0))from by rw[Nat.add_assoc,List.replicate_succ',aK,aK,aK,←List.map_append];rfl)) ?_
  refine gV (j+1) A_b12 c_b12 ⟨rfl,rfl,rfl,rfl,trivial⟩ [0,1,1,1] rfl [0] rfl (by omega) (by omega)
 ·have hj:j=iw s.n:=by
   refine Decidable.byContradiction fun hn=> ?_
   have:=hzm j (by omega)
   omega
  subst hj
  have hsl:IntKind.u64.wrap ((s.n:Int)*8)=((8*s.n:Nat):Int):=by
   rw[show(s.n:Int)*8=((8*s.n:Nat):Int) by omega]
   exact wu _ (by omega)
  refine bS<|ar<|ar<|aE<|ag<|ah<|aj<|hy (fun _=>aa rfl)<|hy (fun _=>bx rfl)<|hy (fun _=>aI rfl lT (by decide))<|hy (fun m=>av rfl dV ((show eP _ _ _ _ from m.Er 0 rfl 0 rfl).au 8 _ (uZ hh)))<|hy (fun _=>bJ rfl Tryz.underlying3 Tryz.underlying310 (wu s.n (by omega)))<|hy (fun _=>qc (p:=8) rfl rfl (by decide) (by decide) (by decide) hsl)<|hy (fun _=>ab rfl)<|ai<|al (ρ' :=[(5,_),(21,_),(4,_),(3,_),(2,_),(0,_)]) ⟨rfl,rfl,rfl,rfl,rfl,rfl,trivial⟩<|ag<|ah<|ah<|aj<|hy (fun _=>aa rfl)<|ai<|ag<|aN<| ?_
  generalize hz:iw s.n=z at hz64
  refine bD (fun w m=>m.bQ 1 rfl (show _=aF 5 1 (.slice A1 (1+z+0) cc) (1+z+0) (aK (128::List.replicate z 0++(rn (8*s.n)).take 0))from by rw[List.take_zero,List.append_nil];rfl)) ?_
  refine gY (fun i A2 ce=>8-i) (fun i A2 ce=>[(4,.slice A2 (1+z+i) ce),(31,.int .i64 (i:Nat))]) (fun i A2 ce=>[aF 5 1 (.slice A2 (1+z+i) ce) (1+z+i) (aK (128::List.replicate z 0++(rn (8*s.n)).take i))]) (fun i A2 ce=>[]) (fun i A2 ce=>i≤8) 0 A1 cc [(5,_),(21,_),(3,_),(2,_),(0,_)] ⟨rfl,rfl,rfl,rfl,rfl,trivial⟩ [0] rfl [] rfl (Nat.zero_le _) ⟨rfl,rfl,trivial⟩ (fun i A2 ce hi8=> ?_)
  refine ah<|aj<|hy (fun _=>bk rfl rfl)<|ai<|ag<|ah<| ?_
  refine cI rfl (fun hi=> ?_) (fun hi=> ?_)
  ·have hcv:IntKind.u8.wrap (((8*s.n:Nat):Int)/((2 ^ (56-8*i):Nat):Int))=((UInt8.ofNat (8*s.n/256 ^ (7-i))).toNat:Int):=by
    rw[←Int.natCast_ediv,Ff (by omega)]
    exact fl _
   have hsb:(56:Int)-8*(i:Int)=((56-8*i:Nat):Int):=by omega
   refine aC<|ag<|ah<|aN<|ah<|aj<|hy (fun _=>aa rfl)<|hy (fun _=>ab rfl)<|ai<|al (ρ' :=[(6,_),(32,_),(4,_),(31,_),(5,_),(21,_),(3,_),(2,_),(0,_)]) ⟨rfl,rfl,rfl,rfl,rfl,rfl,rfl,rfl,rfl,trivial⟩<|ag<|aj<|hy (fun _=>aa rfl)<|hy (fun _=>aa rfl)<|hy (fun _=>aa rfl)<|hy (fun _=>fv rfl rfl (bB (by omega) (by omega)))<|hy (fun _=>b6 rfl rfl (bB (by omega) (by omega)))<| ?_
   rw[hsb]
   refine hy (fun _=>kO rfl rfl (by omega) (by simp[IntKind.bits];omega) (show(2:Int) ^ (((56-8*i:Nat):Int)).toNat=((2 ^ (56-8*i):Nat):Int) by rw[Int.toNat_natCast];simp))<|hy (fun _=>bJ rfl Tryz.underlying310 Tryz.underlying5 hcv)<| ?_
   refine hx (cg Tryz.underlying27 ey rfl rfl rfl (by simp[Value.cells,B8]) (by decide) (by decide) (fun g41=> ?_))
   have hA_b41:0<1→(some (⟨g41,0,none⟩:Addr))≠none:=fun _ h=>by cases h
   refine aV (fun w m=>m.bQ 0 rfl (show _=aF 5 1 (.slice (some ⟨g41,0,none⟩) 1 1) 1 (aK [UInt8.ofNat (8*s.n/256 ^ (7-i))])from rfl)) ?_
   refine hx (bu 1 rfl rfl rfl Tryz.underlying27 Tryz.underlying27 (by exact .inl rfl) ey rfl (fun m=>Src.bN (m.ord 0 rfl)) aS (by unfold maxLen;omega) (by omega) (fun u=> ?_))
   refine aw (fun m=>(m.own 0 rfl).slice) ?_
   rintro⟨A_b12,c_b12,rfl,hc_b12⟩
   refine aw (fun m=>(m.ord 0 rfl).2.1) fun hA_b12=> ?_
   refine hy (fun _=>ab rfl)<|ai<|al (ρ' :=[(4,_),(6,_),(32,_),(31,_),(5,_),(21,_),(3,_),(2,_),(0,_)]) ⟨rfl,rfl,rfl,rfl,rfl,rfl,rfl,rfl,rfl,trivial⟩<|ak (X' :=[_,_,_,_,_]) (S' :=[_]) (fun _ m=>m)<|aW<|ag<|aj<|hy (fun _=>aM rfl rfl (bB (by omega) (by omega)))<|hy (fun _=>aa rfl)<|ai<|al (ρ' :=[(31,_),(4,_),(6,_),(32,_),(5,_),(21,_),(3,_),(2,_),(0,_)]) ⟨rfl,rfl,rfl,rfl,rfl,rfl,rfl,rfl,rfl,trivial⟩<| ?_
   refine ak (fun w m=>m.bQ 0 rfl (show _=aF 5 1 (.slice A_b12 (1+z+(i+1)) c_b12) (1+z+(i+1)) (aK (128::List.replicate z 0++(rn (8*s.n)).take (i+1)))from by rw[yW (by omega),←List.append_assoc];simp[aK,Nat.add_assoc])) ?_
   refine gV (i+1) A_b12 c_b12 ⟨rfl,rfl,rfl,rfl,rfl,rfl,rfl,trivial⟩ [0,1,1,1] rfl [0] rfl (by omega) (by omega)
  ·obtain rfl:i=8:=by omega
   have hpad:all++(128::List.replicate z 0++(rn (8*s.n)).take 8)=jb all:=by
    rw[List.take_of_length_le (by simp[rn]),jb,←hsn,hz,List.append_assoc]
   refine bS<|ar<|ar<|aE<|ag<|ah<|aj<|hy (fun _=>aa rfl)<|hy (fun _=>aa rfl)<| ?_
   refine hx (bT rfl Tryz.call173 (uA (by rw[c1];exact hh) (by rw[c2];omega) (by rw[c3];omega) (s:=s2) (l:=(128::List.replicate z 0++(rn (8*s.n)).take 8))) [2] rfl (.x 0 rfl .own (.s 0 rfl .nil)) ?_)
   rintro _ _ _ ⟨s1,rfl,rfl,rfl,hw⟩
   refine⟨rfl, ?_⟩
   obtain⟨hw1,hw2⟩:=hw
   have ok2:s2.ok all:=⟨by rw[c1];exact hh,by rw[c2];exact hsn,by rw[c1,c3];exact ok.EU⟩
   have ok3:=hw2 all ok2
   rw[hpad]at ok3
   have hh3:=ok3.len
   have hfin:s1.h=fL oY (jb all):=by
    obtain⟨D,e1,e2,e3⟩:=ok3.EU
    have hl:=congrArg List.length e1
    rw[List.length_append]at hl
    have hp:=mU all
    have:s1.rest=[]:=List.eq_nil_of_length_eq_zero (by omega)
    rw[this,List.append_nil]at e1
    rw[e3,e1]
   have hsha:eO s1.h=bF all:=by rw[hfin];rfl
   have hd32:=oX s1.h
   have hl3:=jC (n:=s1.n) (A:=s1.A) (m:=s1.rest.length) (c:=s1.c) hh3
   refine aV (fun w m=>(m.perm (az [0] _ [_] _ rfl)).unpack) ?_
   refine ai<|al (ρ' :=[(32,_),(4,_),(31,_),(5,_),(21,_),(3,_),(2,_),(0,_)]) ⟨rfl,rfl,rfl,rfl,rfl,rfl,rfl,rfl,trivial⟩<|ak (X' :=[_,_,_,_,_]) (S' :=[_]) (fun _ m=>m)<|ag<|ah<|aj<| ?_
   refine hx (aJ cX (fun g7=> ?_))
   refine aV (fun w m=>m.bQ 0 rfl (show _=aH g7 53 (aK (eO (s1.h.take 0)++List.replicate (32-4*0) 0))from rfl)) ?_
   refine ai<|ak (X' :=[_,_,_,_,_,_]) (S' :=[_]) (fun _ m=>m)<|ag<|ah<|ah<|aj<|hy (fun _=>aa rfl)<|hy (fun _=>bx rfl)<|hy (fun _=>aI rfl nK (by decide))<|hy (fun m=>yV (aR rfl pz kG (by rw[bs,hh3]) (fun j u hu=>(m.aT 1 rfl).au j u (xN hu))) ((rfl:_=Value.agg (ea s1.h).toArray)))<|hy (fun _=>aa rfl)<|ai<|al (ρ' :=[(51,_),(50,_),(7,_),(32,_),(4,_),(31,_),(5,_),(21,_),(3,_),(2,_),(0,_)]) ⟨rfl,rfl,rfl,rfl,rfl,rfl,rfl,rfl,rfl,rfl,rfl,trivial⟩<|ag<|aN<| ?_
   refine dA (fun k=>8-k) (fun k=>[(51,.int .i64 (k:Nat))]) (fun k=>[aH g7 53 (aK (eO (s1.h.take k)++List.replicate (32-4*k) 0))]) (fun k=>[]) (fun k=>k≤8) 0 [(50,_),(7,_),(32,_),(4,_),(31,_),(5,_),(21,_),(3,_),(2,_),(0,_)] ⟨rfl,rfl,rfl,rfl,rfl,rfl,rfl,rfl,rfl,rfl,trivial⟩ [0] rfl [] rfl (Nat.zero_le _) ⟨rfl,trivial⟩ (fun k hk8=> ?_)
   refine ah<|aj<|hy (fun _=>bk rfl rfl)<|ai<|ag<|ah<| ?_
   refine cI rfl (fun hk=> ?_) (fun hk=> ?_)
   ·have hdk:=hd32 k (by omega)
    have hr4:List.replicate (32-4*k) (0:UInt8)=0::0::0::0::List.replicate (32-4*(k+1)) 0:=by
     rw[show 32-4*k=(32-4*(k+1))+4 by omega];rfl
    refine aC<|ag<|ah<|aN<|ah<|aj<|hy (fun _=>aa rfl)<|hy (fun _=>yV (CJ rfl rfl Tryz.underlying306 bL bU rfl (by omega) (bg (by omega))) ((rfl:_=Wd (s1.h.getD k 0))))<|hy (fun _=>ab rfl)<|hy (fun _=>ab rfl)<|ai<|al (ρ' :=[(9,_),(8,_),(52,_),(51,_),(50,_),(7,_),(32,_),(4,_),(31,_),(5,_),(21,_),(3,_),(2,_),(0,_)]) ⟨rfl,rfl,rfl,rfl,rfl,rfl,rfl,rfl,rfl,rfl,rfl,rfl,rfl,rfl,trivial⟩<|ag<|aj<|hy (fun _=>aa rfl)<|hy (fun _=>fv rfl rfl (bB (by omega) (by omega)))<|hy (fun _=>aa rfl)<|hy (fun _=>fv rfl rfl (bB (by omega) (by omega)))<|hy (fun _=>aM rfl rfl (bB (by omega) (by omega)))<|hy (fun _=>aa rfl)<|hy (fun _=>fv rfl rfl (bB (by omega) (by omega)))<|hy (fun _=>aM rfl rfl (bB (by omega) (by omega)))<|hy (fun _=>aa rfl)<|hy (fun _=>fv rfl rfl (bB (by omega) (by omega)))<|hy (fun _=>aM rfl rfl (bB (by omega) (by omega)))<|hy (fun _=>aa rfl)<|hy (fun _=>lN (k:=24) (b:=16777216) (by decide) rfl rfl rfl)<|hy (fun _=>yU rfl Tryz.underlying166 Tryz.underlying5)<|hy (fun _=>aa rfl)<|hy (fun _=>lN (k:=16) (b:=65536) (by decide) rfl rfl rfl)<|hy (fun _=>yU rfl Tryz.underlying166 Tryz.underlying5)<|hy (fun _=>aa rfl)<|hy (fun _=>lN (k:=8) (b:=256) (by decide) rfl rfl rfl)<|hy (fun _=>yU rfl Tryz.underlying166 Tryz.underlying5)<|hy (fun _=>aa rfl)<|hy (fun _=>yU rfl Tryz.underlying166 Tryz.underlying5)<|hy (fun _=>bV rfl rfl Tryz.underlying53 dE (show((4*k:Nat):Int)=_ by omega) (by omega))<| ?_
    refine cN (ct 0 rfl rfl rfl dE rfl (by simp[aK];omega) ?_)
    refine hy (fun _=>bV rfl rfl Tryz.underlying53 dE (show((4*k+1:Nat):Int)=_ by omega) (by omega))<| ?_
    refine cN (ct 0 rfl rfl rfl dE rfl (by simp[aK];omega) ?_)
    refine hy (fun _=>bV rfl rfl Tryz.underlying53 dE (show((4*k+2:Nat):Int)=_ by omega) (by omega))<| ?_
    refine cN (ct 0 rfl rfl rfl dE rfl (by simp[aK];omega) ?_)
    refine hy (fun _=>bV rfl rfl Tryz.underlying53 dE (show((4*k+3:Nat):Int)=_ by omega) (by omega))<| ?_
    refine cN (ct 0 rfl rfl rfl dE rfl (by simp[aK];omega) ?_)
    refine ai<|al (ρ' :=[(9,_),(8,_),(52,_),(51,_),(50,_),(7,_),(32,_),(4,_),(31,_),(5,_),(21,_),(3,_),(2,_),(0,_)]) ⟨rfl,rfl,rfl,rfl,rfl,rfl,rfl,rfl,rfl,rfl,rfl,rfl,rfl,rfl,trivial⟩<|ak (X' :=[_,_,_,_,_,_]) (S' :=[_]) (fun _ m=>m)<|aW<|ag<|aj<|hy (fun _=>aM rfl rfl (bB (by omega) (by omega)))<|hy (fun _=>aa rfl)<|ai<|al (ρ' :=[(51,_),(9,_),(8,_),(52,_),(50,_),(7,_),(32,_),(4,_),(31,_),(5,_),(21,_),(3,_),(2,_),(0,_)]) ⟨rfl,rfl,rfl,rfl,rfl,rfl,rfl,rfl,rfl,rfl,rfl,rfl,rfl,rfl,trivial⟩<| ?_
    refine ak (fun w m=>m.bQ 0 rfl (show _=aH g7 53 (aK (eO (s1.h.take (k+1))++List.replicate (32-4*(k+1)) 0))from by rw[hr4,Nat.zero_add,Nat.zero_add,Nat.zero_add,Nat.zero_add,E0 hdk,ug _ _ (by omega)];simp[y5])) ?_
    refine cS (k+1) ⟨rfl,rfl,rfl,rfl,rfl,rfl,rfl,rfl,rfl,rfl,rfl,trivial⟩ [0,0,0,0,0,0] rfl [0] rfl (by omega) (by omega)
   ·obtain rfl:k=8:=by omega
    refine bD (fun w m=>m.bQ 0 rfl (show _=aH g7 53 (aK (bF all))from by rw[List.take_of_length_le (by omega),hsha];simp)) ?_
    refine bS<|ar<|ar<|aE<|ag<|ah<|aj<|hy (fun m=>yV (aR rfl b5 bj (by rw[ax,bh]) ((m.aT 0 rfl).au)) ((rfl:_=Value.agg (aK (bF all)).toArray)))<| ?_
    refine cN (aG 5 rfl rfl rfl bj (by rw[ax,bh]) aS rfl ?_)
    refine ai<|al (ρ' :=[(52,_),(51,_),(50,_),(7,_),(32,_),(4,_),(31,_),(5,_),(21,_),(3,_),(2,_),(0,_)]) ⟨rfl,rfl,rfl,rfl,rfl,rfl,rfl,rfl,rfl,rfl,rfl,rfl,trivial⟩<|ak (X' :=[_,_,_,_,_,_]) (S' :=[_]) (fun _ m=>m)<|ag<|aQ<| ?_
    exact gw trivial rfl rfl b5 bj (by rw[ax,bh]) (fun m=>(m.aT 0 rfl).au) [5] rfl [] rfl ⟨rfl,rfl,rfl⟩
theorem qF{A:Option Addr}{n c:Nat}{l:List UInt8}(hn:n≤140737488351232):cj Tryz.prog 102 [.slice A n c] [] [dw 1 A n (aK l),eU] (fun v_ X_ S_=>v_=(.agg (aK (bF l)).toArray)∧X_=[]∧S_=[]):=by
 refine aU (N:=10) Tryz.func102 rfl rfl (by simp) fun b=> ?_
 refine ba (fun m=>fG (m.rd 0 rfl)) ?_
 rintro⟨hl_r,hA_r⟩
 have hln:l.length=n:=hl_r
 refine ah<|aj<| ?_
 refine hx (aJ cX (fun g2=> ?_))
 refine ai<|ak (X' :=[_]) (S' :=[_,_]) (fun _ m=>m)<|ag<|ah<|aj<| ?_
 refine hx (aq rfl Tryz.call172 (CZ) [] rfl [] rfl ?_)
 rintro _ _ _ ⟨g,rfl,rfl,rfl⟩
 refine hy (fun _=>ab rfl)<|ai<|al (ρ' :=[(3,_),(2,_),(0,_)]) ⟨rfl,rfl,rfl,trivial⟩<|ak (X' :=[_,_]) (S' :=[_,_]) (fun _ m=>m)<|ag<|ah<|aj<|hy (fun _=>aa rfl)<|hy (fun _=>aa rfl)<| ?_
 refine hx (aq rfl Tryz.call173 (uA rfl (by show 0+n≤_;omega) (by show 0+n≤_;omega) (s:=⟨oY,0,none,0,[]⟩)) [0] rfl [0,1] rfl ?_)
 rintro _ _ _ ⟨s1,rfl,rfl,rfl,hw⟩
 refine ai<|al (ρ' :=[(3,_),(2,_),(0,_)]) ⟨rfl,rfl,rfl,trivial⟩<|ak (X' :=[_,_]) (S' :=[_,_]) (fun _ m=>m)<|ag<|ah<|aj<| ?_
 obtain⟨hw1,hw2⟩:=hw
 have ok1:=hw2 [] CR
 rw[List.nil_append]at ok1
 refine hy (fun _=>aa rfl)<| ?_
 refine hx (aq rfl Tryz.call174 (Em ok1 hw1 (by omega) (all:=l)) [0] rfl [1] rfl ?_)
 rintro _ _ _ ⟨rfl,rfl,rfl⟩
 refine cN (aG 1 rfl rfl rfl bj (by rw[ax,bh]) aS rfl ?_)
 refine ai<|al (ρ' :=[(3,_),(2,_),(0,_)]) ⟨rfl,rfl,rfl,trivial⟩<|ak (X' :=[_,_]) (S' :=[_,_]) (fun _ m=>m)<|ag<|aQ<| ?_
 exact gw trivial rfl rfl b5 bj (by rw[ax,bh]) (fun m=>(m.aT 0 rfl).au) [] rfl [] rfl ⟨rfl,rfl,rfl⟩
end Go.Proofs.YtmibdabdlgmafaaGreatDoor
end
section
set_option maxRecDepth 20000
set_option maxHeartbeats 4000000
namespace Go.Proofs.YtmibdabdlgmafaaGreatDoor
open Go.Eng Go.Hx
theorem Du{g:Nat}{st:c7}{d:RD}{kk:Nat}{nm:List UInt8}(hD:DS st d kk)(hm:nm.length=32):cj Tryz.prog 73 [.pointer (some ⟨g,0,none⟩),.agg (aK nm).toArray] [bM g st] [eU] (fun v_ X_ S_=>∃v,v_=(.tuple #[v,.int .i64 (d.fS nm)])∧X_=[bM g st,aF 5 1 v (d.jd nm).length (aK (d.jd nm))]∧S_=[]):=by
 have hlen:=hD.tz (bz nm)
 have hol:=mx (f:=d.cR (bz nm)) (most:=4096) (by decide)
 refine aU (N:=33) Tryz.func73 rfl rfl (by simp) fun b=> ?_
 refine ah<|aj<| ?_
 refine hx (cp rfl (fun g3=> ?_))
 refine aV (fun w m=>m.bQ 0 rfl (show _=aH g3 53 (aK nm)from congrArg (aH _ _) (bq _))) ?_
 refine hy (fun _=>ab rfl)<|hy (fun _=>ab rfl)<|ai<|ak (X' :=[_,_]) (S' :=[_]) (fun _ m=>m)<|ag<|ah<|aj<|hy (fun _=>aa rfl)<|hy (fun m=>aR rfl b5 bj (by rw[ax];exact hm) ((m.aT 0 rfl).au))<| ?_
 refine hx (aq rfl Tryz.call94 (te hm) [] rfl [] rfl ?_)
 rintro _ _ _ ⟨rfl,rfl,rfl⟩
 refine hx (aq rfl Tryz.call90 (CK hD) [1] rfl [] rfl ?_)
 rintro _ _ _ ⟨v,rfl,rfl,rfl⟩
 refine aw (fun m=>(m.own 1 rfl).slice) ?_
 rintro⟨A_x,c_x,rfl,hc_x⟩
 refine aw (fun m=>(m.ord 1 rfl).2.1) fun hA_x=> ?_
 refine hy (fun _=>aa rfl)<|hy (fun _=>ao rfl rfl)<|hy (fun _=>ao rfl rfl)<|hy (fun _=>ab rfl)<|hy (fun _=>ab rfl)<|ai<|al (ρ' :=[(7,_),(6,_),(5,_),(4,_),(3,_),(0,_),(1,_)]) ⟨rfl,rfl,rfl,rfl,rfl,rfl,rfl,trivial⟩<|ak (X' :=[_,_,_]) (S' :=[_]) (fun _ m=>m)<|ag<|ah<|ah<|aj<|hy (fun _=>aa rfl)<|hy (fun _=>cM rfl rfl)<|ai<|al (ρ' :=[(17,_),(7,_),(6,_),(5,_),(4,_),(3,_),(0,_),(1,_)]) ⟨rfl,rfl,rfl,rfl,rfl,rfl,rfl,rfl,trivial⟩<|ag<| ?_
 refine cI rfl (fun h1=> ?_) (fun h1=> ?_)
 ·rw[ko h1,jq (by rw[ko h1];exact h1)]
  refine ah<|aj<|hy (fun _=>aa rfl)<|hy (fun _=>ab rfl)<|hy (fun _=>ab rfl)<|ai<|al (ρ' :=[(5,_),(4,_),(17,_),(7,_),(6,_),(3,_),(0,_),(1,_)]) ⟨rfl,rfl,rfl,rfl,rfl,rfl,rfl,rfl,trivial⟩<|ag<|aQ<|ay<| ?_
  refine ak (fun w m=>m.cL (r' :=aF 5 1 (.slice none 0 0) 0 []) (.refl _ _) (Own.nil _ _ _ _) (fun k hk=>hk.elim)) ?_
  exact cW trivial rfl rfl rfl [1,0] rfl [] rfl ⟨_,rfl,rfl,rfl⟩
 ·have h1:=Decidable.not_not.1 h1
  refine aC<|ag<|ah<|aj<|hy (fun _=>aa rfl)<| ?_
  refine hx (bT rfl Tryz.call155 (Ef hc_x (by omega) (show(4096:Int)≤1000000 by decide)) [] rfl (.x 1 rfl .own .nil) ?_)
  rintro _ _ _ ⟨v2,rfl,rfl,rfl⟩
  refine⟨rfl, ?_⟩
  refine aw (fun m=>(m.own 0 rfl).slice) ?_
  rintro⟨A_x2,c_x2,rfl,hc_x2⟩
  refine aw (fun m=>(m.ord 0 rfl).2.1) fun hA_x2=> ?_
  refine hy (fun _=>aa rfl)<|hy (fun _=>ao rfl rfl)<|hy (fun _=>ao rfl rfl)<|hy (fun _=>ab rfl)<|hy (fun _=>ab rfl)<|ai<|al (ρ' :=[(7,_),(8,_),(17,_),(6,_),(5,_),(4,_),(3,_),(0,_),(1,_)]) ⟨rfl,rfl,rfl,rfl,rfl,rfl,rfl,rfl,rfl,trivial⟩<|ak (X' :=[_,_,_,_]) (S' :=[_]) (fun _ m=>m)<|ag<|ah<|ah<|cV [4] [(0,some 0),(1,some 0),(2,some 0),(3,some 0),(5,some 1),(4,none),(6,some 1),(7,some 1)] (by kernel_rfl) (by kernel_rfl) rfl 99<|an (aa rfl)<|an (cM rfl rfl)<|an (aa rfl)<| ?_
  refine gJ 26 rfl (fun h2=> ?_) (fun h2=> ?_)
  ·have hE:=lI (d:=d) (nm:=nm) h1 (.inl h2)
   rw[hE,jq (by rw[hE];decide)]
   refine aO rfl rfl rfl (by decide)<|aO rfl rfl rfl (by decide)<|uJ rfl rfl rfl (by decide) (fun _=>wk [0,0,0,0] [0] rfl rfl)<|aO rfl rfl rfl (by decide)<|an (bo rfl rfl)<|bE<|al (ρ' :=[(31,_),(7,_),(8,_),(17,_),(6,_),(5,_),(4,_),(3,_),(0,_),(1,_)]) ⟨rfl,rfl,rfl,rfl,rfl,rfl,rfl,rfl,rfl,rfl,trivial⟩<|ag<| ?_
   refine fe rfl (rfl) ?_
   refine ah<|aj<|hy (fun _=>ab rfl)<|hy (fun _=>ab rfl)<|ai<|ag<|aQ<|ay<| ?_
   refine ak (fun w m=>m.cL (r' :=aF 5 1 (.slice none 0 0) 0 []) (.refl _ _) (Own.nil _ _ _ _) (fun k hk=>hk.elim)) ?_
   exact cW trivial rfl rfl rfl [2,0] rfl [] rfl ⟨_,rfl,rfl,rfl⟩
  ·have h2:=Decidable.not_not.1 h2
   refine bI (o:=_) rfl rfl rfl (aa rfl)<|jQ (o:=_) rfl rfl rfl (fun m=>aR rfl b5 bj (by rw[ax];exact hm) ((m.aT 3 rfl).au))<| ?_
   refine Dm (o:=_) rfl rfl rfl (bT rfl Tryz.call102 (qF (by omega)) [] rfl (.x 0 rfl .own (.s 0 rfl .nil)) ?_)
   rintro _ _ _ ⟨rfl,rfl,rfl⟩
   refine⟨rfl, ?_⟩
   refine⟨(fun _=>wk [0,0,0,0] [0] rfl rfl), ?_⟩
   refine bI (o:=_) rfl rfl rfl (u4 rfl rfl (bh _) hm)<|an (a7 rfl rfl)<|bE<|al (ρ' :=[(31,_),(7,_),(8,_),(17,_),(6,_),(5,_),(4,_),(3,_),(0,_),(1,_)]) ⟨rfl,rfl,rfl,rfl,rfl,rfl,rfl,rfl,rfl,rfl,trivial⟩<|ak (X' :=[_,_,_,_]) (S' :=[_]) (fun _ m=>m)<|ag<| ?_
   refine cI rfl (fun h3=> ?_) (fun h3=> ?_)
   ·have hE:=lI (d:=d) (nm:=nm) h1 (.inr h3)
    rw[hE,jq (by rw[hE];decide)]
    refine ah<|aj<|hy (fun _=>ab rfl)<|hy (fun _=>ab rfl)<|ai<|ag<|aQ<|ay<| ?_
    refine ak (fun w m=>m.cL (r' :=aF 5 1 (.slice none 0 0) 0 []) (.refl _ _) (Own.nil _ _ _ _) (fun k hk=>hk.elim)) ?_
    exact cW trivial rfl rfl rfl [2,0] rfl [] rfl ⟨_,rfl,rfl,rfl⟩
   ·have hE:=tZ (d:=d) (nm:=nm) h1 (fun q=>q.elim (fun q=>q h2) h3)
    rw[hE,nG hE]
    refine aC<|ag<|ah<|aj<|hy (fun _=>aa rfl)<|hy (fun _=>ab rfl)<|hy (fun _=>ab rfl)<|ai<|al (ρ' :=[(5,_),(4,_),(31,_),(7,_),(8,_),(17,_),(6,_),(3,_),(0,_),(1,_)]) ⟨rfl,rfl,rfl,rfl,rfl,rfl,rfl,rfl,rfl,rfl,trivial⟩<|ag<|aQ<| ?_
    exact cW trivial rfl rfl rfl [1,0] rfl [] rfl ⟨_,rfl,rfl,rfl⟩
end Go.Proofs.YtmibdabdlgmafaaGreatDoor
end
section
set_option maxRecDepth 20000
set_option maxHeartbeats 4000000
namespace Go.Proofs.YtmibdabdlgmafaaGreatDoor
open Go.Eng Go.Hx
theorem El:dG Tryz.prog 179=some false:=by kernel_rfl
theorem DG:fF Tryz.prog 179=some 1:=by kernel_rfl
theorem C2:TI Tryz.prog 179 .nilFunc 1 8:=by unfold TI;kernel_rfl
def sw(g:Nat)(L:List bf)(v:Value)(F:RD→RD×Int):Prop:=∃(f:Nat) (first cap:List Value),v= .func (.func f) first.toArray cap.toArray∧(∀args w,(callFunc f args).run Tryz.prog w= .ok (.enter f args) w)∧
 ∀(st:c7) (d:RD) (kk:Nat),DS st d kk→kk≤99000→cj Tryz.prog f (first++[]++cap) [bM g st] [rp L] (fun v_ X_ S_=>∃st1,v_= .int .i64 (F d).2∧X_=[bM g st1]∧S_=[]∧DS st1 (F d).1 (kk+1))
theorem Et{g:Nat}{st:c7}{d:RD}{kk:Nat}{A:Option Addr}{n c:Nat}{fs:List Value}{Fs:List (RD→RD×Int)}{L:List bf}(hD:DS st d kk)(hkk:kk+n≤99000)(hn:n≤100000)(hF:Fs.length=n)(hfs:∀(i:Nat) (F:RD→RD×Int),Fs[i]? =some F→∃v,fs[i]? =some v∧sw g L v F):cj Tryz.prog 109 [.slice A n c] [bM g st] [dw 1 A n fs,rp L] (fun v_ X_ S_=>∃st1,v_=(.int .i64 (iz Fs d).2)∧X_=[bM g st1]∧S_=[]∧(DS st1 (iz Fs d).1 (kk+n))):=by
 obtain⟨d0,hd0⟩:∃d0,d0=iz Fs d:=⟨_,rfl⟩
 rw[←hd0]
 refine aU (N:=18) Tryz.func109 rfl rfl (by simp) fun b=> ?_
 refine ba (fun m=>mX (m.rd 0 rfl)) ?_
 rintro⟨hl_f,hA_f⟩
 refine ah<|aj<|hy (fun _=>ab rfl)<|ai<|ag<|ah<|ah<|aj<|hy (fun _=>aa rfl)<|hy (fun _=>aX rfl Tryz.underlying239)<|hy (fun _=>aa rfl)<|ai<|ag<|aN<| ?_
 refine gY (fun k st d=>n-k) (fun k st d=>[(8,.int .i64 (k:Nat))]) (fun k st d=>[bM g st]) (fun k st d=>[]) (fun k st d=>k≤n∧DS st d (kk+k)∧iz (Fs.drop k) d=d0) 0 st d [(7,_),(6,_),(0,_)] ⟨rfl,rfl,rfl,trivial⟩ [0] rfl [] rfl (⟨Nat.zero_le _,hD,hd0.symm⟩) ⟨rfl,trivial⟩ (fun k st d ⟨hk,hD,hR⟩=> ?_)
 refine ah<|aj<|hy (fun _=>bk rfl rfl)<|ai<|ag<|ah<| ?_
 refine cI rfl (fun hlt=> ?_) (fun hlt=> ?_)
 ·obtain⟨F,hFk⟩:∃F,Fs[k]? =some F:=⟨_,List.getElem?_eq_getElem (by omega)⟩
  obtain⟨v,hv,f,first,cap,rfl,hcall,hcon⟩:=hfs k F hFk
  have hdr:Fs.drop k=F::Fs.drop (k+1):=by
   have hlt2:k<Fs.length:=by omega
   rw[List.drop_eq_getElem_cons hlt2]
   congr 1
   exact Option.some.inj ((List.getElem?_eq_getElem hlt2).symm.trans hFk)
  rw[hdr]at hR
  refine aC<|ag<|ah<|aN<|ah<|aj<|hy (fun _=>aL rfl rfl Tryz.underlying239 DG hA_f rfl (by omega))<|hy (fun m=>av rfl El ((m.rd 0 rfl).cell hv))<|hy (fun _=>ab rfl)<|ai<|al (ρ' :=[(4,_),(9,_),(8,_),(7,_),(6,_),(0,_)]) ⟨rfl,rfl,rfl,rfl,rfl,rfl,trivial⟩<|ag<|ah<|aj<|hy (fun _=>aa rfl)<| ?_
  refine hx (oM rfl rfl hcall (hcon st d (kk+k) hD (by omega)) [0] rfl [1] rfl ?_)
  rintro _ _ _ ⟨st1,rfl,rfl,rfl,hD1⟩
  refine hy (fun _=>ab rfl)<|ai<|al (ρ' :=[(5,_),(4,_),(9,_),(8,_),(7,_),(6,_),(0,_)]) ⟨rfl,rfl,rfl,rfl,rfl,rfl,rfl,trivial⟩<|ak (X' :=[_]) (S' :=[_,_]) (fun _ m=>m)<|ag<|ah<|aj<|hy (fun _=>aa rfl)<|hy (fun _=>cM rfl rfl)<|ai<|al (ρ' :=[(15,_),(5,_),(4,_),(9,_),(8,_),(7,_),(6,_),(0,_)]) ⟨rfl,rfl,rfl,rfl,rfl,rfl,rfl,rfl,trivial⟩<|ag<| ?_
  refine cI rfl (fun he=> ?_) (fun he=> ?_)
  ·have e0:iz (F::Fs.drop (k+1)) d=F d:=if_pos he
   rw[e0]at hR
   rw[←hR]
   refine ah<|aj<|hy (fun _=>aa rfl)<|hy (fun _=>ab rfl)<|ai<|al (ρ' :=[(2,_),(15,_),(5,_),(4,_),(9,_),(8,_),(7,_),(6,_),(0,_)]) ⟨rfl,rfl,rfl,rfl,rfl,rfl,rfl,rfl,rfl,trivial⟩<|ag<|aQ<|bc<|ay<|ay<|bc<|ay<| ?_
   exact bd trivial rfl rfl [0] rfl [] rfl ⟨st1,rfl,rfl,rfl,(hD1.le (by omega))⟩
  ·have e0:iz (F::Fs.drop (k+1)) d=iz (Fs.drop (k+1)) (F d).1:=if_neg he
   rw[e0]at hR
   refine aC<|aW<|ag<|aj<|hy (fun _=>aM rfl rfl (bB (by omega) (by omega)))<|hy (fun _=>aa rfl)<|ai<|al (ρ' :=[(8,_),(15,_),(5,_),(4,_),(9,_),(7,_),(6,_),(0,_)]) ⟨rfl,rfl,rfl,rfl,rfl,rfl,rfl,rfl,trivial⟩<| ?_
   refine gV (k+1) st1 (F d).1 ⟨rfl,rfl,rfl,rfl,trivial⟩ [0] rfl [0,1] rfl (⟨by omega,hD1,hR⟩) (by omega)
 ·obtain rfl:k=n:=by omega
  rw[List.drop_of_length_le (by omega)]at hR
  have hR:(d,0)=d0:=hR
  rw[←hR]
  refine bS<|ar<|ar<|aE<|ag<|ah<|aj<|hy (fun _=>ab rfl)<|ai<|ag<|aQ<| ?_
  exact bd trivial rfl rfl [0] rfl [] rfl ⟨st,rfl,rfl,rfl,hD⟩
end Go.Proofs.YtmibdabdlgmafaaGreatDoor
end
section
set_option maxRecDepth 20000
set_option maxHeartbeats 4000000
namespace Go.Proofs.YtmibdabdlgmafaaGreatDoor
open Go.Eng Go.Hx
theorem D9{g g2 g9 g3:Nat}{st:c7}{d:RD}{kk:Nat}{p:List UInt8}{A:Option Addr}{n c:Nat}{bb:List UInt8}(hD:DS st d kk)(hkk:kk≤99000)(hc:n≤c)(hl:bb.length=n)(hn:n≤4096):cj Tryz.prog 105 [.pointer (some ⟨g2,0,none⟩),.pointer (some ⟨g9,0,none⟩),.pointer (some ⟨g3,0,none⟩)] [bM g st] [aH g2 35 [.pointer (some ⟨g,0,none⟩)],aH g9 9 [SV p],aH g3 27 [.slice A n c],dw 1 A n (aK bb)] (fun v_ X_ S_=>∃st1,v_=(.int .i64 (d.bZ p (b4 bb)))∧X_=[bM g st1]∧S_=[]∧(DS st1 (d.write p (b4 bb)) (kk+1))):=by
 have hsl:=rP bb
 refine aU (N:=9) Tryz.func105 rfl rfl (by simp) fun b=> ?_
 refine ba (fun m=>fG (m.rd 3 rfl)) ?_
 rintro⟨hl_r,hA_r⟩
 refine ah<|aj<|hy (fun _=>ab rfl)<|ai<|ag<|ah<|cV [3,4] [(0,some 1),(1,some 1),(2,some 0),(3,none),(4,none),(5,some 2)] (by kernel_rfl) (by kernel_rfl) rfl 1<|cn (fun m=>av rfl xP (aB (m.tc 0 rfl) (i:=0) rfl))<|cn (fun m=>av rfl kL (aB (m.tc 1 rfl) (i:=0) rfl))<|cn (fun m=>av rfl dO (aB (m.tc 2 rfl) (i:=0) rfl))<| ?_
 refine eK (aq rfl Tryz.call106 (Bq (by omega) (by omega) hl) [] rfl [3] rfl ?_)
 rintro _ _ _ ⟨v,rfl,rfl,rfl⟩
 refine⟨(fun _=>wk [1] [0,1,2,3] rfl rfl), ?_⟩
 refine cP (fun m=>(m.own 0 rfl).slice) ?_
 rintro⟨A_x,c_x,rfl,hc_x⟩
 refine cP (fun m=>(m.ord 0 rfl).2.1) fun hA_x=> ?_
 refine eK (bT rfl Tryz.call33 (u0 hD (by omega) rfl (by omega)) [1] rfl (.x 0 rfl .own .nil) ?_)
 rintro _ _ _ ⟨st1,rfl,rfl,rfl,hp⟩
 refine⟨rfl, ?_⟩
 refine⟨(fun h=>absurd h (by decide)), ?_⟩
 refine an (ab rfl)<|bE<|al (ρ' :=[(3,_),(0,_),(1,_),(2,_)]) ⟨rfl,rfl,rfl,rfl,trivial⟩<|ak (X' :=[_,_]) (S' :=[_,_,_,_]) (fun _ m=>m)<|ag<|aQ<| ?_
 exact bd trivial rfl rfl [0] rfl [] rfl ⟨st1,rfl,rfl,rfl,hp⟩
theorem Eg{g g2 g9 g6:Nat}{st:c7}{d:RD}{kk:Nat}{p nm:List UInt8}(hD:DS st d kk)(hkk:kk≤99000)(hm:nm.length=32):cj Tryz.prog 107 [.pointer (some ⟨g2,0,none⟩),.pointer (some ⟨g9,0,none⟩),.pointer (some ⟨g6,0,none⟩)] [bM g st] [aH g2 35 [.pointer (some ⟨g,0,none⟩)],aH g9 9 [SV p],aH g6 53 (aK nm)] (fun v_ X_ S_=>∃st1,v_=(.int .i64 (d.cw p (bz nm)))∧X_=[bM g st1]∧S_=[]∧(DS st1 (d.rename p (bz nm)) (kk+1))):=by
 refine aU (N:=9) Tryz.func107 rfl rfl (by simp) fun b=> ?_
 refine ah<|aj<|hy (fun _=>ab rfl)<|ai<|ag<|ah<|cV [3,4] [(0,some 1),(1,some 1),(2,some 0),(3,none),(4,none),(5,some 2)] (by kernel_rfl) (by kernel_rfl) rfl 1<|cn (fun m=>av rfl xP (aB (m.tc 0 rfl) (i:=0) rfl))<|cn (fun m=>av rfl kL (aB (m.tc 1 rfl) (i:=0) rfl))<|cn (fun m=>aR rfl b5 bj (by rw[ax];exact hm) ((m.tc 2 rfl).au))<| ?_
 refine eK (aq rfl Tryz.call94 (te hm) [] rfl [] rfl ?_)
 rintro _ _ _ ⟨rfl,rfl,rfl⟩
 refine⟨(fun _=>wk [0] [0,1,2] rfl rfl), ?_⟩
 refine eK (aq rfl Tryz.call108 (xL hD (by omega) (a:=p) (c:=bz nm)) [0] rfl [] rfl ?_)
 rintro _ _ _ ⟨st1,rfl,rfl,rfl,hp⟩
 refine⟨(fun h=>absurd h (by decide)), ?_⟩
 refine an (ab rfl)<|bE<|al (ρ' :=[(3,_),(0,_),(1,_),(2,_)]) ⟨rfl,rfl,rfl,rfl,trivial⟩<|ak (X' :=[_]) (S' :=[_,_,_]) (fun _ m=>m)<|ag<|aQ<| ?_
 exact bd trivial rfl rfl [0] rfl [] rfl ⟨st1,rfl,rfl,rfl,hp⟩
abbrev jh(g g2 g9 g3 g6:Nat)(A:Option Addr)(n c:Nat)(bb nm p:List UInt8):List bf:=[aH g2 35 [.pointer (some ⟨g,0,none⟩)],aH g9 9 [SV p],aH g3 27 [.slice A n c],aH g6 53 (aK nm),dw 1 A n (aK bb)]
theorem tF{g g2 g9 g3 g6:Nat}{A:Option Addr}{n c:Nat}{bb nm p:List UInt8}(hc:n≤c)(hl:bb.length=n)(hn:n≤4096):
  sw g (jh g g2 g9 g3 g6 A n c bb nm p) (.func (.func 105) #[] #[.pointer (some ⟨g2,0,none⟩),.pointer (some ⟨g9,0,none⟩),.pointer (some ⟨g3,0,none⟩)]) (qQ p (b4 bb)):=
 ⟨105,[],[.pointer (some ⟨g2,0,none⟩),.pointer (some ⟨g9,0,none⟩),.pointer (some ⟨g3,0,none⟩)],rfl,Tryz.call105,fun st d kk hD hk=>cj.tu (D9 hD hk hc hl hn) (by
  intro s hs
  simp only[List.mem_cons,List.not_mem_nil,or_false]at hs
  rcases hs with rfl|rfl|rfl|rfl
  ·exact⟨_,List.mem_singleton.2 rfl,View.o1 0 rfl⟩
  ·exact⟨_,List.mem_singleton.2 rfl,View.o1 1 rfl⟩
  ·exact⟨_,List.mem_singleton.2 rfl,View.o1 2 rfl⟩
  ·exact⟨_,List.mem_singleton.2 rfl,View.o1 4 rfl⟩) (fun v X S h=>by
  obtain⟨st1,h1,h2,h3,h4⟩:=h
  exact⟨[],⟨st1,h1,h2,rfl,h4⟩,qE.nil⟩)⟩
theorem vU{g g2 g9 g3 g6:Nat}{A:Option Addr}{n c:Nat}{bb nm p:List UInt8}(hm:nm.length=32):
  sw g (jh g g2 g9 g3 g6 A n c bb nm p) (.func (.func 107) #[] #[.pointer (some ⟨g2,0,none⟩),.pointer (some ⟨g9,0,none⟩),.pointer (some ⟨g6,0,none⟩)]) (qq p (bz nm)):=
 ⟨107,[],[.pointer (some ⟨g2,0,none⟩),.pointer (some ⟨g9,0,none⟩),.pointer (some ⟨g6,0,none⟩)],rfl,Tryz.call107,fun st d kk hD hk=>cj.tu (Eg hD hk hm) (by
  intro s hs
  simp only[List.mem_cons,List.not_mem_nil,or_false]at hs
  rcases hs with rfl|rfl|rfl
  ·exact⟨_,List.mem_singleton.2 rfl,View.o1 0 rfl⟩
  ·exact⟨_,List.mem_singleton.2 rfl,View.o1 1 rfl⟩
  ·exact⟨_,List.mem_singleton.2 rfl,View.o1 3 rfl⟩) (fun v X S h=>by
  obtain⟨st1,h1,h2,h3,h4⟩:=h
  exact⟨[],⟨st1,h1,h2,rfl,h4⟩,qE.nil⟩)⟩
theorem pP{g:Nat}{L:List bf}:sw g L (.func (.func 110) #[.pointer (some ⟨g,0,none⟩)] #[]) ld:=
 ⟨110,[.pointer (some ⟨g,0,none⟩)],[],rfl,Tryz.call110,fun st d kk hD hk=>cj.tu (CW hD) (fun s hs=>by cases hs) (fun v X S h=>by
  obtain⟨st1,h1,h2,h3,h4⟩:=h
  exact⟨[],⟨st1,h1,h2,rfl,h4.le (by omega)⟩,qE.nil⟩)⟩
theorem fb:dX.length=32:=List.length_replicate
theorem vM:(aK dX).length=32:=by rw[ax,fb]
theorem uM{d:RD}{b:List UInt8}(h:4096<b.length):d.put b=(d,dX,3):=by unfold RD.put;rw[if_pos h]
theorem y0{d:RD}{b:List UInt8}(h:¬4096<b.length)(h6:d.fS (bF b)=6):d.put b=(d,dX,6):=by unfold RD.put;rw[if_neg h,if_pos h6]
theorem wh{d:RD}{b:List UInt8}(h:¬4096<b.length)(h6:d.fS (bF b)=0):d.put b=(d,bF b,0):=by unfold RD.put;rw[if_neg h,if_neg (by rw[h6];decide),if_pos h6]
theorem zu{d:RD}{b:List UInt8}(h:¬4096<b.length)(h6:¬d.fS (bF b)=6)(h0:¬d.fS (bF b)=0):d.put b=((d.jK b).1,if(d.jK b).2=0 then bF b else dX,(d.jK b).2):=by unfold RD.put;rw[if_neg h,if_neg h6,if_neg h0]
abbrev wQ(g g2 g9 g3 g6:Nat):List Value:=[.func (.func 105) #[] #[.pointer (some ⟨g2,0,none⟩),.pointer (some ⟨g9,0,none⟩),.pointer (some ⟨g3,0,none⟩)],.func (.func 110) #[.pointer (some ⟨g,0,none⟩)] #[],.func (.func 107) #[] #[.pointer (some ⟨g2,0,none⟩),.pointer (some ⟨g9,0,none⟩),.pointer (some ⟨g6,0,none⟩)],.func (.func 110) #[.pointer (some ⟨g,0,none⟩)] #[]]
abbrev wI(p b nm:List UInt8):List (RD→RD×Int):=[qQ p (b4 b),ld,qq p (bz nm),ld]
theorem vE{g g2 g9 g3 g6:Nat}{A:Option Addr}{n c:Nat}{bb nm p:List UInt8}(hc:n≤c)(hl:bb.length=n)(hn:n≤4096)(hm:nm.length=32):
  ∀(i:Nat) (F:RD→RD×Int),(wI p bb nm)[i]? =some F→∃v,(wQ g g2 g9 g3 g6)[i]? =some v∧sw g (jh g g2 g9 g3 g6 A n c bb nm p) v F:=by
 intro i F h
 match i with
 |0=>cases h;exact⟨_,rfl,tF hc hl hn⟩
 |1=>cases h;exact⟨_,rfl,pP⟩
 |2=>cases h;exact⟨_,rfl,vU hm⟩
 |3=>cases h;exact⟨_,rfl,pP⟩
 |i+4=>cases h
theorem D4{g:Nat}{st:c7}{d:RD}{kk:Nat}{A:Option Addr}{n c:Nat}{bb:List UInt8}(hD:DS st d kk)(hkk:kk≤90000)(hc:n≤c)(hl:bb.length=n)(hn:n≤100000):cj Tryz.prog 28 [.pointer (some ⟨g,0,none⟩),.slice A n c] [bM g st] [dw 1 A n (aK bb),eU] (fun v_ X_ S_=>∃st1,v_=(.tuple #[.agg (aK (d.put bb).2.1).toArray,.int .i64 (d.put bb).2.2])∧X_=[bM g st1]∧S_=[]∧(DS st1 (d.put bb).1 (kk+4))):=by
 have h32:(aK (bF bb)).length=32:=by rw[ax,bh]
 have hhl:(b8 (bF bb)).length=64:=by rw[dI,bh]
 refine aU (N:=53) Tryz.func28 rfl rfl (by simp) fun b=> ?_
 refine ba (fun m=>fG (m.rd 0 rfl)) ?_
 rintro⟨hl_r,hA_r⟩
 refine ah<|aj<| ?_
 refine hx (cp rfl (fun g2=> ?_))
 refine aV (fun w m=>m.bQ 0 rfl (show _=aH g2 35 [.pointer (some ⟨g,0,none⟩)]from rfl)) ?_
 refine hx (cp rfl (fun g3=> ?_))
 refine aV (fun w m=>m.bQ 0 rfl (show _=aH g3 27 [.slice A n c]from rfl)) ?_
 refine hx (aJ cX (fun g4=> ?_))
 refine hy (fun _=>ab rfl)<|ai<|ak (X' :=[_,_,_,_]) (S' :=[_,_]) (fun _ m=>m)<|ag<|ah<|ah<|aj<|hy (fun m=>av rfl dO (aB (m.aT 1 rfl) rfl))<|hy (fun _=>aX rfl Tryz.underlying27)<|hy (fun _=>cF rfl rfl)<|ai<|al (ρ' :=[(15,_),(5,_),(4,_),(3,_),(2,_),(0,_),(1,_)]) ⟨rfl,rfl,rfl,rfl,rfl,rfl,rfl,trivial⟩<|ag<| ?_
 refine cI rfl (fun h1=> ?_) (fun h1=> ?_)
 ·have hb:4096<bb.length:=by omega
  rw[uM hb]
  refine ah<|aj<|hy (fun _=>yV (cK cX rfl (by kernel_rfl)) ((rfl:_=Value.agg (aK dX).toArray)))<| ?_
  refine cN (aG 0 rfl rfl rfl bj vM aS rfl ?_)
  refine hy (fun _=>ab rfl)<|ai<|al (ρ' :=[(5,_),(15,_),(4,_),(3,_),(2,_),(0,_),(1,_)]) ⟨rfl,rfl,rfl,rfl,rfl,rfl,rfl,trivial⟩<|ak (X' :=[_,_,_,_]) (S' :=[_,_]) (fun _ m=>m)<|ag<|aQ<|ay<| ?_
  exact c6 trivial rfl rfl rfl b5 bj vM (fun m=>(m.aT 0 rfl).au) [3] rfl [] rfl ⟨st,rfl,rfl,rfl,(hD.le (by omega))⟩
 ·have hb:¬4096<bb.length:=by omega
  refine aC<|ag<|ah<|aj<|hy (fun m=>av rfl dO (aB (m.aT 1 rfl) rfl))<| ?_
  refine hx (aq rfl Tryz.call102 (qF (by omega)) [] rfl [0,1] rfl ?_)
  rintro _ _ _ ⟨rfl,rfl,rfl⟩
  refine hx (aJ cX (fun g6=> ?_))
  refine cN (aG 0 rfl rfl rfl bj h32 aS rfl ?_)
  refine ai<|al (ρ' :=[(6,_),(15,_),(5,_),(4,_),(3,_),(2,_),(0,_),(1,_)]) ⟨rfl,rfl,rfl,rfl,rfl,rfl,rfl,rfl,trivial⟩<|ak (X' :=[_,_,_,_,_]) (S' :=[_,_]) (fun _ m=>m)<|ag<|ah<|aj<|hy (fun m=>av rfl xP (aB (m.aT 3 rfl) rfl))<|hy (fun m=>aR rfl b5 bj h32 ((m.aT 0 rfl).au))<| ?_
  refine hx (aq rfl Tryz.call73 (Du hD (bh _)) [4] rfl [1] rfl ?_)
  rintro _ _ _ ⟨v,rfl,rfl,rfl⟩
  refine aw (fun m=>(m.own 1 rfl).slice) ?_
  rintro⟨A_x,c_x,rfl,hc_x⟩
  refine aw (fun m=>(m.ord 1 rfl).2.1) fun hA_x=> ?_
  refine hy (fun _=>aa rfl)<|hy (fun _=>ao rfl rfl)<|hy (fun _=>ao rfl rfl)<|hy (fun _=>ab rfl)<|hy (fun _=>ab rfl)<|ai<|al (ρ' :=[(8,_),(6,_),(15,_),(5,_),(4,_),(3,_),(2,_),(0,_),(1,_)]) ⟨rfl,rfl,rfl,rfl,rfl,rfl,rfl,rfl,rfl,trivial⟩<|ak (X' :=[_,_,_,_,_,_]) (S' :=[_,_]) (fun _ m=>m)<|ag<|ah<|ah<|aj<|hy (fun _=>aa rfl)<|hy (fun _=>kS rfl Tryz.underlying47 (fun _ h=>by cases h))<|hy (fun _=>kS rfl Tryz.underlying47 (fun _ h=>by cases h))<| ?_
  refine hx (aq rfl Tryz.call103 (Cc) [] rfl [] rfl ?_)
  rintro _ _ _ ⟨rfl,rfl,rfl⟩
  refine ai<|al (ρ' :=[(28,_),(8,_),(6,_),(15,_),(5,_),(4,_),(3,_),(2,_),(0,_),(1,_)]) ⟨rfl,rfl,rfl,rfl,rfl,rfl,rfl,rfl,rfl,rfl,trivial⟩<|ak (X' :=[_,_,_,_,_,_]) (S' :=[_,_]) (fun _ m=>m)<|ag<| ?_
  refine cI rfl (fun h6=> ?_) (fun h6=> ?_)
  ·rw[y0 hb h6]
   have h6' :d.fS (bF bb)=6:=h6
   rw[h6']
   refine ah<|aj<|hy (fun _=>yV (cK cX rfl (by kernel_rfl)) ((rfl:_=Value.agg (aK dX).toArray)))<|hy (fun _=>aa rfl)<| ?_
   refine cN (aG 3 rfl rfl rfl bj vM aS rfl ?_)
   refine hy (fun _=>ab rfl)<|ai<|al (ρ' :=[(5,_),(28,_),(8,_),(6,_),(15,_),(4,_),(3,_),(2,_),(0,_),(1,_)]) ⟨rfl,rfl,rfl,rfl,rfl,rfl,rfl,rfl,rfl,rfl,trivial⟩<|ak (X' :=[_,_,_,_,_,_]) (S' :=[_,_]) (fun _ m=>m)<|ag<|aQ<|ay<| ?_
   exact c6 trivial rfl rfl rfl b5 bj vM (fun m=>(m.aT 0 rfl).au) [1] rfl [] rfl ⟨st,rfl,rfl,rfl,(hD.le (by omega))⟩
  ·refine aC<|ag<|ah<|ah<|aj<|hy (fun _=>aa rfl)<|hy (fun _=>cy rfl rfl)<|ai<|al (ρ' :=[(32,_),(28,_),(8,_),(6,_),(15,_),(5,_),(4,_),(3,_),(2,_),(0,_),(1,_)]) ⟨rfl,rfl,rfl,rfl,rfl,rfl,rfl,rfl,rfl,rfl,rfl,trivial⟩<|ag<| ?_
   refine cI rfl (fun h0=> ?_) (fun h0=> ?_)
   ·rw[wh hb h0]
    have h0' :d.fS (bF bb)=0:=h0
    rw[h0']
    refine ah<|aj<|hy (fun m=>aR rfl b5 bj h32 ((m.aT 2 rfl).au))<|hy (fun _=>aa rfl)<| ?_
    refine cN (aG 3 rfl rfl rfl bj h32 aS rfl ?_)
    refine hy (fun _=>ab rfl)<|ai<|al (ρ' :=[(5,_),(32,_),(28,_),(8,_),(6,_),(15,_),(4,_),(3,_),(2,_),(0,_),(1,_)]) ⟨rfl,rfl,rfl,rfl,rfl,rfl,rfl,rfl,rfl,rfl,rfl,trivial⟩<|ak (X' :=[_,_,_,_,_,_]) (S' :=[_,_]) (fun _ m=>m)<|ag<|aQ<|ay<| ?_
    exact c6 trivial rfl rfl rfl b5 bj h32 (fun m=>(m.aT 0 rfl).au) [1] rfl [] rfl ⟨st,rfl,rfl,rfl,(hD.le (by omega))⟩
   ·rw[zu hb h6 h0]
    refine aC<|ag<|ah<|aj<|hy (fun m=>aR rfl b5 bj h32 ((m.aT 2 rfl).au))<| ?_
    refine hx (aq rfl Tryz.call104 (wH (bh _)) [] rfl [] rfl ?_)
    rintro _ _ _ ⟨rfl,rfl,rfl⟩
    refine hy (fun _=>yV (iR rfl rfl (iJ (a:=[116,47]) (b:=b8 (bF bb)) (by simp[hhl]))) ((show Value.string (strOf [116,47]++strOf (b8 (bF bb)))=SV (cd (bF bb))from congrArg Value.string (dk _ _))))<| ?_
    refine hx (aJ EJ (fun g9=> ?_))
    refine cN (dQ 0 rfl rfl rfl E4 rfl (by first|exact Nat.le_of_ble_eq_true rfl|simp) ?_)
    refine ai<|al (ρ' :=[(9,_),(32,_),(28,_),(8,_),(6,_),(15,_),(5,_),(4,_),(3,_),(2,_),(0,_),(1,_)]) ⟨rfl,rfl,rfl,rfl,rfl,rfl,rfl,rfl,rfl,rfl,rfl,rfl,trivial⟩<|ak (X' :=[_,_,_,_,_,_,_]) (S' :=[_,_]) (fun _ m=>m)<|ag<|ah<|aj<|hy (fun _=>j1 rfl rfl)<|hy (fun _=>ab rfl)<|ai<|al (ρ' :=[(10,_),(9,_),(32,_),(28,_),(8,_),(6,_),(15,_),(5,_),(4,_),(3,_),(2,_),(0,_),(1,_)]) ⟨rfl,rfl,rfl,rfl,rfl,rfl,rfl,rfl,rfl,rfl,rfl,rfl,rfl,trivial⟩<|ag<|ah<|aj<|hy (fun _=>j1 rfl rfl)<|hy (fun _=>ab rfl)<|ai<|al (ρ' :=[(11,_),(10,_),(9,_),(32,_),(28,_),(8,_),(6,_),(15,_),(5,_),(4,_),(3,_),(2,_),(0,_),(1,_)]) ⟨rfl,rfl,rfl,rfl,rfl,rfl,rfl,rfl,rfl,rfl,rfl,rfl,rfl,rfl,trivial⟩<|ag<|ah<|ah<|aj<|hy (fun _=>aa rfl)<|hy (fun m=>av rfl xP (aB (m.aT 6 rfl) rfl))<|hy (fun _=>j1 rfl rfl)<|hy (fun _=>aa rfl)<|hy (fun m=>av rfl xP (aB (m.aT 6 rfl) rfl))<|hy (fun _=>j1 rfl rfl)<| ?_
    refine hx (cg Tryz.underlying239 C2 rfl rfl rfl (by simp[Value.cells,B8]) (by decide) (by decide) (fun g46=> ?_))
    have hA_b46:0<4→(some (⟨g46,0,none⟩:Addr))≠none:=fun _ h=>by cases h
    refine aV (fun w m=>m.bQ 1 rfl (show _=aH g9 9 [SV (cd (bF bb))]from rfl)) ?_
    refine aV (fun w m=>m.bQ 4 rfl (show _=aH g6 53 (aK (bF bb))from rfl)) ?_
    refine aV (fun w m=>m.bQ 2 rfl (show _=aF 179 1 (.slice (some ⟨g46,0,none⟩) 4 4) 4 (wQ g g2 g9 g3 g6)from rfl)) ?_
    refine aV (fun w m=>(m.perm (az [7] _ [_] _ rfl)).freeze) ?_
    refine aV (fun w m=>(m.perm (az [2] _ [_] _ rfl)).freeze) ?_
    refine aV (fun w m=>(m.perm (az [5] _ [_] _ rfl)).freeze) ?_
    refine aV (fun w m=>(m.perm (az [1] _ [_] _ rfl)).freeze) ?_
    refine aV (S' :=rp (jh g g2 g9 g3 g6 A n c bb (bF bb) (cd (bF bb)))::_) (fun w m=>m.Ed [3,2,1,0,4] rfl) ?_
    refine hx (bT rfl Tryz.call109 (Et hD (by omega) (show 4≤100000 by decide) rfl (vE hc hl (by omega) (bh _)) (kk:=kk) (Fs:=(wI (cd (bF bb)) bb (bF bb))) (fs:=(wQ g g2 g9 g3 g6)) (L:=(jh g g2 g9 g3 g6 A n c bb (bF bb) (cd (bF bb))))) [1] rfl (.x 0 rfl .own (.s 0 rfl .nil)) ?_)
    rintro _ _ _ ⟨st1,rfl,rfl,rfl,hD1⟩
    refine⟨rfl, ?_⟩
    refine hy (fun _=>ab rfl)<|ai<|al (ρ' :=[(12,_),(11,_),(10,_),(9,_),(32,_),(28,_),(8,_),(6,_),(15,_),(5,_),(4,_),(3,_),(2,_),(0,_),(1,_)]) ⟨rfl,rfl,rfl,rfl,rfl,rfl,rfl,rfl,rfl,rfl,rfl,rfl,rfl,rfl,rfl,trivial⟩<|ak (X' :=[_,_,_,_]) (S' :=[_,_,_,_,_,_,_]) (fun _ m=>m)<|ag<|ah<|aj<|hy (fun _=>aa rfl)<|hy (fun _=>cM rfl rfl)<|ai<|al (ρ' :=[(49,_),(12,_),(11,_),(10,_),(9,_),(32,_),(28,_),(8,_),(6,_),(15,_),(5,_),(4,_),(3,_),(2,_),(0,_),(1,_)]) ⟨rfl,rfl,rfl,rfl,rfl,rfl,rfl,rfl,rfl,rfl,rfl,rfl,rfl,rfl,rfl,rfl,trivial⟩<|ag<| ?_
    refine cI rfl (fun h2=> ?_) (fun h2=> ?_)
    ·have hn2:¬(d.jK bb).2=0:=h2
     rw[if_neg hn2]
     refine ah<|aj<|hy (fun _=>yV (cK cX rfl (by kernel_rfl)) ((rfl:_=Value.agg (aK dX).toArray)))<|hy (fun _=>aa rfl)<| ?_
     refine cN (aG 3 rfl rfl rfl bj vM aS rfl ?_)
     refine hy (fun _=>ab rfl)<|ai<|al (ρ' :=[(5,_),(49,_),(12,_),(11,_),(10,_),(9,_),(32,_),(28,_),(8,_),(6,_),(15,_),(4,_),(3,_),(2,_),(0,_),(1,_)]) ⟨rfl,rfl,rfl,rfl,rfl,rfl,rfl,rfl,rfl,rfl,rfl,rfl,rfl,rfl,rfl,rfl,trivial⟩<|ak (X' :=[_,_,_,_]) (S' :=[_,_,_,_,_,_,_]) (fun _ m=>m)<|ag<|aQ<|ay<| ?_
     exact c6 trivial rfl rfl rfl b5 bj vM (fun m=>(m.aT 0 rfl).au) [1] rfl [] rfl ⟨st1,rfl,rfl,rfl,hD1⟩
    ·have h2:=Decidable.not_not.1 h2
     have h2' :(iz (wI (cd (bF bb)) bb (bF bb)) d).2=0:=h2
     have h2'' :(d.jK bb).2=0:=h2'
     rw[if_pos h2'',h2'']
     refine aC<|ag<|ah<|aj<|hy (fun m=>aR rfl b5 bj h32 ((m.tc 1 rfl).au))<| ?_
     refine cN (aG 3 rfl rfl rfl bj h32 aS rfl ?_)
     refine hy (fun _=>ab rfl)<|ai<|al (ρ' :=[(5,_),(49,_),(12,_),(11,_),(10,_),(9,_),(32,_),(28,_),(8,_),(6,_),(15,_),(4,_),(3,_),(2,_),(0,_),(1,_)]) ⟨rfl,rfl,rfl,rfl,rfl,rfl,rfl,rfl,rfl,rfl,rfl,rfl,rfl,rfl,rfl,rfl,trivial⟩<|ak (X' :=[_,_,_,_]) (S' :=[_,_,_,_,_,_,_]) (fun _ m=>m)<|ag<|aQ<| ?_
     exact c6 trivial rfl rfl rfl b5 bj h32 (fun m=>(m.aT 0 rfl).au) [1] rfl [] rfl ⟨st1,rfl,rfl,rfl,hD1⟩
end Go.Proofs.YtmibdabdlgmafaaGreatDoor
end
section
set_option maxRecDepth 20000
namespace Go.Proofs.YtmibdabdlgmafaaGreatDoor
open Go.Eng Go.Hx
def ss(l:List (List UInt8)):List Value:=l.map SV
theorem wD{l:List (List UInt8)}{i:Nat}(h:i<l.length):(ss l)[i]? =some (SV (l.getD i [])):=by simp[ss,List.getElem?_map,List.getElem?_eq_getElem h,List.getD]
theorem BH{l:List (List UInt8)}:∀u∈ss l,u.oneCell' =true:=by
 intro u hu
 obtain⟨x,_,rfl⟩:=List.mem_map.1 hu
 rfl
end Go.Proofs.YtmibdabdlgmafaaGreatDoor
end
section
namespace Go.Proofs
open Go.Shelf
def Tryz.rz:Go.Shelf.Ren:=⟨fun|190=>165|125=>207|258=>223|128=>254|129=>255|302=>258|303=>259|304=>260|305=>261|306=>262|307=>263|308=>264|309=>265|310=>266|333=>291|329=>287|330=>288|334=>292|335=>293|336=>294|344=>307|n=>n,fun|31=>152|9=>9|3=>3|46=>263|0=>0|51=>166|53=>310|4=>4|183=>339|182=>338|131=>343|5=>5|218=>376|222=>380|228=>391|229=>324|n=>n,fun|n=>n⟩
theorem Tryz.AP:Go.Proofs.Lays.n190 Tryz.prog Tryz.rz:={
 mixed:=by kernel_rfl
 f125:=Tryz.func207.trans (congrArg some (by kernel_rfl))
 f128:=Tryz.func254.trans (congrArg some (by kernel_rfl))
 f129:=Tryz.func255.trans (congrArg some (by kernel_rfl))
 f190:=Tryz.func165.trans (congrArg some (by kernel_rfl))
 f258:=Tryz.func223.trans (congrArg some (by kernel_rfl))
 f302:=Tryz.func258.trans (congrArg some (by kernel_rfl))
 f303:=Tryz.func259.trans (congrArg some (by kernel_rfl))
 f304:=Tryz.func260.trans (congrArg some (by kernel_rfl))
 f305:=Tryz.func261.trans (congrArg some (by kernel_rfl))
 f306:=Tryz.func262.trans (congrArg some (by kernel_rfl))
 f307:=Tryz.func263.trans (congrArg some (by kernel_rfl))
 f308:=Tryz.func264.trans (congrArg some (by kernel_rfl))
 f309:=Tryz.func265.trans (congrArg some (by kernel_rfl))
 f310:=Tryz.func266.trans (congrArg some (by kernel_rfl))
 f329:=Tryz.func287.trans (congrArg some (by kernel_rfl))
 f330:=Tryz.func288.trans (congrArg some (by kernel_rfl))
 f333:=Tryz.func291.trans (congrArg some (by kernel_rfl))
 f334:=Tryz.func292.trans (congrArg some (by kernel_rfl))
 f335:=Tryz.func293.trans (congrArg some (by kernel_rfl))
 f336:=Tryz.func294.trans (congrArg some (by kernel_rfl))
 f344:=Tryz.func307.trans (congrArg some (by kernel_rfl))
 t0:=Tryz.underlying0
 a0:=Tryz.isAgg0
 z0:=Tryz.sizeOf0
 v0:=Tryz.zeroValue0
 t3:=Tryz.underlying3
 a3:=Tryz.isAgg3
 z3:=Tryz.sizeOf3
 v3:=Tryz.zeroValue3
 t4:=Tryz.underlying4
 a4:=Tryz.isAgg4
 z4:=Tryz.sizeOf4
 v4:=Tryz.zeroValue4
 t5:=Tryz.underlying5
 a5:=Tryz.isAgg5
 z5:=Tryz.sizeOf5
 v5:=Tryz.zeroValue5
 t9:=Tryz.underlying9
 a9:=Tryz.isAgg9
 z9:=Tryz.sizeOf9
 v9:=Tryz.zeroValue9
 t31:=Tryz.underlying152
 a31:=Tryz.isAgg152
 z31:=Tryz.sizeOf152
 v31:=Tryz.zeroValue152
 t46:=Tryz.underlying263
 a46:=Tryz.isAgg263
 z46:=Tryz.sizeOf263
 v46:=Tryz.zeroValue263
 t51:=Tryz.underlying166
 a51:=Tryz.isAgg166
 z51:=Tryz.sizeOf166
 v51:=Tryz.zeroValue166
 t53:=Tryz.underlying310
 a53:=Tryz.isAgg310
 z53:=Tryz.sizeOf310
 v53:=Tryz.zeroValue310
 t131:=Tryz.underlying343
 a131:=Tryz.isAgg343
 z131:=Tryz.sizeOf343
 v131:=Tryz.zeroValue343
 t182:=Tryz.underlying338
 a182:=Tryz.isAgg338
 z182:=Tryz.sizeOf338
 v182:=Tryz.zeroValue338
 t183:=Tryz.underlying339
 a183:=Tryz.isAgg339
 z183:=Tryz.sizeOf339
 v183:=Tryz.zeroValue339
 t218:=Tryz.underlying376
 a218:=Tryz.isAgg376
 z218:=Tryz.sizeOf376
 v218:=Tryz.zeroValue376
 t222:=Tryz.underlying380
 a222:=Tryz.isAgg380
 z222:=Tryz.sizeOf380
 v222:=Tryz.zeroValue380
 t228:=Tryz.underlying391
 a228:=Tryz.isAgg391
 z228:=Tryz.sizeOf391
 v228:=Tryz.zeroValue391
 t229:=Tryz.underlying324
 a229:=Tryz.isAgg324
 z229:=Tryz.sizeOf324
 v229:=Tryz.zeroValue324}
end Go.Proofs
end
section
set_option maxRecDepth 20000
namespace Go.Proofs.YtmibdabdlgmafaaGreatDoor
open Go.Eng Go.Hx Go.Sort
def vi(l:List (List UInt8)):List (List UInt8):=l.mergeSort fun x y=>decide (x≤y)
theorem yA{w:World}{g n o:Nat}{os:Array Obj}{cur:Array Value}{e:TypeId}{fr:Nat×Nat}(d:Array (List UInt8))(hb:w.heap[g]? =some (.cells cur e fr)):
  (grow (putRow encStr (Go.Sort.ahead w n) g o d) os).heap[g]? =some (.cells (putCells encStr o d cur) e fr):=by
 have hg:g<w.heap.size:=(Array.getElem?_eq_some_iff.1 hb).1
 rw[heap_grow_old _ _ (by simpa using hg)]
 simp[putRow,mapBlock,Go.Sort.ahead,Array.getElem?_modify,hb,onCells]
theorem BC{w:World}{g n o:Nat}{os:Array Obj}(d:Array (List UInt8)):Fr (fun k=>k=g) w (grow (putRow encStr (Go.Sort.ahead w n) g o d) os):=by
 refine⟨rfl,rfl,rfl,by simp,fun k hk hne=> ?_⟩
 rw[heap_grow_old _ _ (by simpa using hk)]
 have:g≠k:=fun e=>hne e.symm
 simp[putRow,mapBlock,Go.Sort.ahead,Array.getElem?_modify,this]
theorem yG(cur:List Value)(o:Nat)(ts:List (List UInt8))(h:o+ts.length≤cur.length):((putCells encStr o ts.toArray cur.toArray).toList.drop o).take ts.length=ss ts:=by
 apply List.ext_getElem?
 intro j
 by_cases hj:j<ts.length
 ·rw[List.getElem?_take_of_lt hj,List.getElem?_drop,Array.getElem?_toList]
  simp[putCells,hj,ss,show o+j<cur.length by omega,SV,strOf]
 ·rw[List.getElem?_take_eq_none (by omega),List.getElem?_eq_none (by simp[ss];omega)]
theorem re(l:List (List UInt8)):(vi l).length=l.length:=List.length_mergeSort ..
theorem BB{A:Option Addr}{n c base:Nat}{e:TypeId}{l:List (List UInt8)}{w:World}(h:Go.Eng.Own w base e 1 (.slice A n c) n (ss l))(hn6:n≤1000000):
  Calls Tryz.prog 165 #[.slice A n c] w fun r w' =>r= .returned (.tuple #[])∧Go.Eng.Own w' base e 1 (.slice A n c) n (ss (vi l))∧Fr (jL (.slice A n c)) w w' :=by
 obtain⟨h1,h2⟩:=h
 have hl:l.length=n:=by simpa[ss]using h1
 rcases h2 with⟨hv,hn⟩|⟨g,o,cap,cur,hv,hb,⟨fr,hh,hf,hfl⟩,hnc,hcm,hfit,hcs⟩
 ·cases hv
  obtain rfl:l=[]:=List.eq_nil_of_length_eq_zero hl
  refine Calls.mono (pA z1 (by intro s hs;cases hs)) (fun r w' ⟨hr,hf⟩=>⟨hr,⟨by simp[vi,ss],.inl ⟨rfl,rfl⟩⟩,hf.mono (fun _ _ e=>e.elim)⟩)
 ·cases hv
  subst hl
  have hB:eP w g e cur:=⟨fr,hh,hf,hfl⟩
  have hH:Holds encStr w g o l.toArray:=by
   intro j hj
   have hj' :j<l.length:=by simpa using hj
   have h3:((cur.drop o).take (l.length*1))[j]? =(ss l)[j]? :=by rw[hcs]
   rw[List.getElem?_take_of_lt (by omega),List.getElem?_drop,wD hj']at h3
   refine⟨?_,hB.frozen (by omega)⟩
   rw[hB.cell h3]
   simp[List.getD,List.getElem?_eq_getElem hj',hj',SV,strOf]
  refine Calls.mono (Any.slices_Sort_string Tryz.AP g o c l w hH hB.lt (by omega)) ?_
  rintro r w' ⟨hr,k,os,rfl⟩
  refine⟨hr,⟨by simp[ss,re],.inr ⟨g,o,c,(putCells encStr o (vi l).toArray cur.toArray).toList,rfl,hb, ?_,hnc,hcm,by simp[putCells];omega, ?_⟩⟩,BC _⟩
  ·have:=yA (n:=k) (o:=o) (os:=os) (vi l).toArray hh
   exact⟨fr,by simpa[vi]using this,fun i hi=>hf i (by simpa[putCells]using hi),by simpa[putCells]using hfl⟩
  ·have:=yG cur o (vi l) (by rw[re];omega)
   rw[re]at this
   rw[Nat.mul_one];exact this
theorem Di{A:Option Addr}{n c:Nat}{e:TypeId}{l:List (List UInt8)}(hn:n≤1000000):cj Tryz.prog 165 [.slice A n c] [aF e 1 (.slice A n c) n (ss l)] [] (fun v_ X_ S_=>v_=(.tuple #[])∧X_=[aF e 1 (.slice A n c) n (ss (vi l))]∧S_=[]):=by
 refine fun w m=>Calls.mono (BB (m.own 0 rfl) hn) ?_
 rintro r w' ⟨hr,ho,hf⟩
 exact⟨_,_,_,hr,⟨rfl,rfl,rfl⟩,m.change (r' :=aF e 1 (.slice A n c) n (ss (vi l))) hf ho (fun k hk=>.inl hk)⟩
end Go.Proofs.YtmibdabdlgmafaaGreatDoor
end
section
set_option maxRecDepth 20000
namespace Go.Proofs.YtmibdabdlgmafaaGreatDoor
open Go.Eng Go.Hx
theorem og{α:Type}:∀{l:List α} {j:Nat} {x:α},l[j]? =some x→l.Perm (x::l.eraseIdx j)
 | [],j,x,h=>by simp at h
 |a::r,0,x,h=>by
  simp only[List.getElem?_cons_zero,Option.some.injEq]at h
  subst h;exact List.Perm.refl _
 |a::r,j+1,x,h=>by
  have:=og (l:=r) (j:=j) (x:=x) (by simpa using h)
  exact(List.Perm.cons a this).trans (List.Perm.swap x a _)
def pre(p s:List UInt8):Bool:=decide (s.take p.length=p)
theorem qN{s p:List UInt8}:cj Tryz.prog 222 [.string (strOf s),.string (strOf p)] [] [] (fun v_ X_ S_=>v_=(.bool (pre p s))∧X_=[]∧S_=[]):=by
 have hs1:=cU s
 have hs2:=cU p
 refine aU (N:=18) Tryz.func222 rfl rfl (by simp) fun b=> ?_
 by_cases h:p.length≤s.length
 ·refine ah<|aj<|hy (fun _=>ab rfl)<|ai<|ag<|ah<|aj<|hy (fun _=>aa rfl)<|hy (fun _=>cQ rfl Tryz.underlying9)<|hy (fun _=>aa rfl)<|hy (fun _=>cQ rfl Tryz.underlying9)<|hy (fun _=>yT (gG rfl rfl) ((decide_eq_true (by omega))))<|hy (fun _=>aa rfl)<|ca (o:=_) rfl rfl rfl (fun _=>aa rfl)<|ca (o:=_) rfl rfl rfl (fun _=>aa rfl)<|ca (o:=_) rfl rfl rfl (fun _=>cQ rfl Tryz.underlying9)<|ca (o:=_) rfl rfl rfl (fun _=>yV (qP rfl rfl Tryz.underlying9 (show((p.length:Nat):Int)=_ by omega) (by rw[pb];exact h)) ((rfl:Value.string _= .string (strOf (s.take p.length)))))<|ca (o:=_) rfl rfl rfl (fun _=>aa rfl)<|ca (o:=_) rfl rfl rfl (fun _=>p6 rfl rfl)<|hy (fun _=>bo rfl rfl)<|hy (fun _=>ab rfl)<|ai<|al (ρ' :=[(4,_),(0,_),(1,_)]) ⟨rfl,rfl,rfl,trivial⟩<|ag<|aQ<| ?_
  exact bd trivial rfl rfl [] rfl [] rfl ⟨(congrArg Value.bool (decide_eq_decide.2 cE)),rfl,rfl⟩
 ·refine ah<|aj<|hy (fun _=>ab rfl)<|ai<|ag<|ah<|aj<|hy (fun _=>aa rfl)<|hy (fun _=>cQ rfl Tryz.underlying9)<|hy (fun _=>aa rfl)<|hy (fun _=>cQ rfl Tryz.underlying9)<|hy (fun _=>yF (gG rfl rfl) ((decide_eq_false (by omega))))<|hy (fun _=>aa rfl)<|a6 rfl rfl rfl (by decide)<|a6 rfl rfl rfl (by decide)<|a6 rfl rfl rfl (by decide)<|a6 rfl rfl rfl (by decide)<|a6 rfl rfl rfl (by decide)<|a6 rfl rfl rfl (by decide)<|hy (fun _=>a7 rfl rfl)<|hy (fun _=>ab rfl)<|ai<|al (ρ' :=[(4,_),(0,_),(1,_)]) ⟨rfl,rfl,rfl,trivial⟩<|ag<|aQ<| ?_
  exact bd trivial rfl rfl [] rfl [] rfl ⟨(congrArg Value.bool (decide_eq_false (fun e=>h (by rw[←e,List.length_take];omega))).symm),rfl,rfl⟩
theorem tK{s p:List UInt8}:cj Tryz.prog 164 [.string (strOf s),.string (strOf p)] [] [] (fun v_ X_ S_=>v_=(.bool (pre p s))∧X_=[]∧S_=[]):=by
 refine aU (N:=8) Tryz.func164 rfl rfl (by simp) fun b=> ?_
 refine ah<|aj<|hy (fun _=>ab rfl)<|ai<|ag<|ah<|aj<|hy (fun _=>aa rfl)<|hy (fun _=>aa rfl)<| ?_
 refine hx (aq rfl Tryz.call222 (qN) [] rfl [] rfl ?_)
 rintro _ _ _ ⟨rfl,rfl,rfl⟩
 refine hy (fun _=>ab rfl)<|ai<|al (ρ' :=[(4,_),(0,_),(1,_)]) ⟨rfl,rfl,rfl,trivial⟩<|ak (X' :=[]) (S' :=[]) (fun _ m=>m)<|ag<|aQ<| ?_
 exact bd trivial rfl rfl [] rfl [] rfl ⟨rfl,rfl,rfl⟩
theorem C3{g:Nat}{st:c7}{p:List UInt8}(hk:st.seen.length≤100000):cj Tryz.prog 86 [.pointer (some ⟨g,0,none⟩),.string (strOf p)] [bM g st] [] (fun v_ X_ S_=>∃v n ks,v_=v∧X_=[bM g st,aF 9 1 v n (ss (vi ks))]∧S_=[]∧(n=ks.length∧ks.Perm ((b7 st.seen).filter (pre p)))):=by
 refine aU (N:=26) Tryz.func86 rfl rfl (by simp) fun b=> ?_
 refine bD (fun w m=>(m.perm (az [0] _ [_] _ rfl)).unpack) ?_
 refine ah<|aj<|hy (fun _=>ab rfl)<|ai<|ag<|ah<|aj<|hy (fun _=>ab rfl)<|ai<|ag<|ah<|ah<|aj<|hy (fun _=>aa rfl)<|hy (fun _=>bx rfl)<|hy (fun _=>aI rfl iB (by decide))<|hy (fun m=>av rfl mP (aB (m.aT 0 rfl) rfl))<| ?_
 refine hx (rA 1 rfl rfl Tryz.underlying174 (fun r11=> ?_))
 refine ai<|al (ρ' :=[(11,_),(5,_),(4,_),(0,_),(1,_)]) ⟨rfl,rfl,rfl,rfl,rfl,trivial⟩<|ak (X' :=[_,_,_,_,_]) (S' :=[]) (fun _ m=>m)<|ag<|aN<| ?_
 refine bD (fun w m=>m.cL (r' :=aF 9 1 (.slice none 0 0) 0 []) (.refl _ _) (Own.nil _ _ _ _) (fun k hk=>hk.elim)) ?_
 refine q6 (fun left cur A1 k c1 ks=>left.length) (fun left cur A1 k c1 ks=>[(5,.slice A1 k c1)]) (fun left cur A1 k c1 ks=>[aF 9 1 (.slice A1 k c1) k (ss ks),j4 SV r11 st.gs (dW st.seen) (dW left) cur]) (fun left cur A1 k c1 ks=>[]) (fun left cur A1 k c1 ks=>k=ks.length∧k+left.length≤st.seen.length∧(ks++(b7 left).filter (pre p)).Perm ((b7 st.seen).filter (pre p))) st.seen none none 0 0 [] [(11,_),(4,_),(0,_),(1,_)] ⟨rfl,rfl,rfl,rfl,trivial⟩ [0,0] rfl [] rfl (⟨rfl,by omega,List.Perm.refl _⟩) ⟨rfl,trivial⟩ (fun left cur A1 k c1 ks ⟨hkn,hkl,hpm⟩=> ?_)
 refine ah<|aj<| ?_
 refine hx (uQ 1 rfl rfl (fun h0=> ?_) (fun j x hx1=> ?_))
 ·obtain rfl:left=[]:=List.map_eq_nil_iff.1 h0
  refine hy (fun _=>ao rfl rfl)<|ai<|al (ρ' :=[(13,_),(5,_),(11,_),(4,_),(0,_),(1,_)]) ⟨rfl,rfl,rfl,rfl,rfl,rfl,trivial⟩<|ag<|ah<| ?_
  refine dx rfl (rfl) ?_
  refine bS<|ar<|ar<|aE<|ag<|ah<|aj<|hy (fun _=>aa rfl)<| ?_
  refine hx (aq rfl Tryz.call165 (Di (by omega)) [0] rfl [] rfl ?_)
  rintro _ _ _ ⟨rfl,rfl,rfl⟩
  refine ai<|al (ρ' :=[(13,_),(5,_),(11,_),(4,_),(0,_),(1,_)]) ⟨rfl,rfl,rfl,rfl,rfl,rfl,trivial⟩<|ak (X' :=[_,_,_,_,_,_]) (S' :=[]) (fun _ m=>m)<|ag<|ah<|aj<|hy (fun _=>aa rfl)<|hy (fun _=>ab rfl)<|ai<|al (ρ' :=[(4,_),(13,_),(5,_),(11,_),(0,_),(1,_)]) ⟨rfl,rfl,rfl,rfl,rfl,rfl,trivial⟩<|ag<|aQ<| ?_
  refine ak (fun w m=>m.xe 1 rfl) ?_
  refine ak (X' :=bM g st::_) (fun w m=>(m.perm (az [2,0,1,1,1] _ [_,_,_,_,_] _ rfl)).pack) ?_
  exact bd trivial rfl rfl [0,0] rfl [] rfl ⟨_,_,_,rfl,rfl,rfl,⟨hkn,by simpa[b7]using hpm⟩⟩
 ·obtain⟨key,v⟩:=x
  obtain⟨r,hr,e⟩:=uU hx1
  obtain rfl:v=r.val:=e
  have hlt:=(List.getElem?_eq_some_iff.1 hr).1
  simp only at hr
  have hpe:=og hr
  have hpa:(b7 left).Perm (key::b7 (left.eraseIdx j)):=by simpa[b7]using hpe.map Prod.fst
  have hpf:=hpa.filter (pre p)
  refine hy (fun _=>ao rfl rfl)<|ai<|al (ρ' :=[(13,_),(5,_),(11,_),(4,_),(0,_),(1,_)]) ⟨rfl,rfl,rfl,rfl,rfl,rfl,trivial⟩<|ag<|ah<| ?_
  refine fe rfl (rfl) ?_
  refine aC<|ag<|aN<|ah<|aj<|hy (fun m=>sd rfl (m.DF 0 rfl))<|hy (fun _=>ao rfl rfl)<|hy (fun _=>ab rfl)<|ai<|al (ρ' :=[(6,_),(13,_),(5,_),(11,_),(4,_),(0,_),(1,_)]) ⟨rfl,rfl,rfl,rfl,rfl,rfl,rfl,trivial⟩<|ag<|ah<|aj<|hy (fun _=>aa rfl)<|hy (fun _=>aa rfl)<| ?_
  refine hx (aq rfl Tryz.call164 (tK) [] rfl [] rfl ?_)
  rintro _ _ _ ⟨rfl,rfl,rfl⟩
  refine ai<|al (ρ' :=[(18,_),(6,_),(13,_),(5,_),(11,_),(4,_),(0,_),(1,_)]) ⟨rfl,rfl,rfl,rfl,rfl,rfl,rfl,rfl,trivial⟩<|ak (X' :=[_,_,_,_,_,_]) (S' :=[]) (fun _ m=>m)<|ag<| ?_
  refine yg rfl (fun hpr=> ?_) (fun hpr=> ?_)
  ·have hp2:(ks++[key]++(b7 (left.eraseIdx j)).filter (pre p)).Perm ((b7 st.seen).filter (pre p)):=by
    rw[List.filter_cons,if_pos hpr]at hpf
    rw[List.append_assoc]
    exact((List.Perm.append_left ks hpf).symm.trans hpm)
   refine aj<|hy (fun _=>aa rfl)<|hy (fun _=>aa rfl)<| ?_
   refine hx (cg Tryz.underlying152 EJ rfl rfl rfl (by simp[Value.cells,SV]) (by decide) (by decide) (fun g21=> ?_))
   have hA_b21:0<1→(some (⟨g21,0,none⟩:Addr))≠none:=fun _ h=>by cases h
   refine aV (fun w m=>m.bQ 0 rfl (show _=aF 9 1 (.slice (some ⟨g21,0,none⟩) 1 1) 1 (ss [key])from rfl)) ?_
   refine hx (bu 2 rfl rfl rfl Tryz.underlying152 Tryz.underlying152 (by exact .inl rfl) EJ rfl (fun m=>Src.bN (m.ord 0 rfl)) BH (by unfold maxLen;omega) (by omega) (fun u=> ?_))
   refine aw (fun m=>(m.own 0 rfl).slice) ?_
   rintro⟨A_o,c_o,rfl,hc_o⟩
   refine aw (fun m=>(m.ord 0 rfl).2.1) fun hA_o=> ?_
   refine aV (fun w m=>m.bQ 0 rfl (show _=aF 9 1 (.slice A_o (k+1) c_o) (k+1) (ss (ks++[key]))from by simp[ss])) ?_
   refine hy (fun _=>ab rfl)<|ai<|al (ρ' :=[(5,_),(18,_),(6,_),(13,_),(11,_),(4,_),(0,_),(1,_)]) ⟨rfl,rfl,rfl,rfl,rfl,rfl,rfl,rfl,trivial⟩<|ak (X' :=[_,_,_,_,_,_,_]) (S' :=[]) (fun _ m=>m)<|aW<| ?_
   refine ak (fun w m=>m.bQ 2 rfl (show _=j4 SV r11 st.gs (dW st.seen) (dW (left.eraseIdx j)) (some (key,r.val))from congrArg (fun q=>j4 SV r11 st.gs (dW st.seen) q (some (key,r.val))) (kW left j))) ?_
   refine ig (left.eraseIdx j) (some (key,r.val)) A_o (k+1) c_o (ks++[key]) ⟨rfl,rfl,rfl,rfl,rfl,trivial⟩ [1,0,1,1,1,1] rfl [] rfl (⟨by rw[List.length_append,hkn];rfl,by rw[List.length_eraseIdx,if_pos hlt];omega,hp2⟩) (by rw[List.length_eraseIdx,if_pos hlt];omega)
  ·have hp2:(ks++(b7 (left.eraseIdx j)).filter (pre p)).Perm ((b7 st.seen).filter (pre p)):=by
    rw[List.filter_cons,if_neg (by rw[show pre p key=false from hpr];decide)]at hpf
    exact((List.Perm.append_left ks hpf).symm.trans hpm)
   refine aC<|aW<| ?_
   refine ak (fun w m=>m.bQ 0 rfl (show _=j4 SV r11 st.gs (dW st.seen) (dW (left.eraseIdx j)) (some (key,r.val))from congrArg (fun q=>j4 SV r11 st.gs (dW st.seen) q (some (key,r.val))) (kW left j))) ?_
   refine ig (left.eraseIdx j) (some (key,r.val)) A1 k c1 ks ⟨rfl,rfl,rfl,rfl,rfl,trivial⟩ [1,0,0,0,0,0] rfl [] rfl (⟨hkn,by rw[List.length_eraseIdx,if_pos hlt];omega,hp2⟩) (by rw[List.length_eraseIdx,if_pos hlt];omega)
end Go.Proofs.YtmibdabdlgmafaaGreatDoor
end
section
set_option maxRecDepth 20000
namespace Go.Proofs.YtmibdabdlgmafaaGreatDoor
open Go.Eng Go.Hx
def gz(d:RD)(p:List UInt8):List (List UInt8):=(d.seen.map (·.1)).filter (pre p)
theorem fO.gz{fs:dM}{l:List FP}(h:fO fs l){q:List UInt8→Bool}{ks:List (List UInt8)}(hk:ks.Perm ((b7 fs).filter q)):vi ks=(l.map (·.1)).filter q:=by
 have h1:(vi ks).Perm ((l.map (·.1)).filter q):=(List.mergeSort_perm _ _).trans (hk.trans (h.keys.filter q))
 have h2:(vi ks).Pairwise (· ≤·):=by
  have:=List.pairwise_mergeSort (le:=fun x y:List UInt8=>decide (x≤y)) (fun a b c hab hbc=>by simpa using List.le_trans (by simpa using hab) (by simpa using hbc)) (fun a b=>by simpa using List.le_total a b) ks
  exact this.imp (fun hab=>by simpa using hab)
 have h3:((l.map (·.1)).filter q).Pairwise (· ≤·):=(h.ord.imp (fun hlt=>List.le_of_lt hlt)).filter q
 exact h1.eq_of_pairwise (fun a b _ _ hab hba=>List.le_antisymm hab hba) h2 h3
theorem B4{g:Nat}{st:c7}{d:RD}{kk:Nat}{p:List UInt8}(hD:DS st d kk)(hkk:kk≤99000):cj Tryz.prog 86 [.pointer (some ⟨g,0,none⟩),.string (strOf p)] [bM g st] [] (fun v_ X_ S_=>∃v,v_=v∧X_=[bM g st,aF 9 1 v (gz d p).length (ss (gz d p))]∧S_=[]∧((gz d p).length≤kk)):=by
 have h1:st.seen.length≤kk:=hD.ok.seen
 have h2:d.seen.length≤kk:=hD.ny.seen
 have h3:(gz d p).length≤kk:=Nat.le_trans (List.length_filter_le _ _) (by rw[List.length_map];exact h2)
 exact cj.mono (C3 (p:=p) (by omega)) (fun v X S h=>by
  obtain⟨v1,n,ks,h1,h2,h3',h4,h5⟩:=h
  have e:=hD.pe.files.gz h5
  have hl:n=(gz d p).length:=by
   unfold gz
   rw[←e,h4]
   exact(List.mergeSort_perm _ _).length_eq.symm
  subst hl
  refine⟨v1,h1, ?_,h3',h3⟩
  rw[h2,e]
  rfl)
end Go.Proofs.YtmibdabdlgmafaaGreatDoor
end
section
namespace Go.Hx
open Go.Eng
end Go.Hx
end
section
namespace Go.Proofs.YtmibdabdlgmafaaGreatDoor
open Go.Eng Go.Hx
end Go.Proofs.YtmibdabdlgmafaaGreatDoor
end
section
set_option maxRecDepth 20000
set_option maxHeartbeats 4000000
namespace Go.Proofs.YtmibdabdlgmafaaGreatDoor
open Go.Eng Go.Hx
def e7(c:UInt8):List UInt8→Nat
 | []=>0
 |x::r=>if 0<e7 c r then e7 c r+1 else if x=c then 1 else 0
theorem jk{c:UInt8}:∀{s:List UInt8} {k:Nat},k≤s.length→(0<k→s.getD (k-1) 0=c)→(∀j,k≤j→j<s.length→s.getD j 0≠c)→e7 c s=k
 | [],k,hk,_,_=>by
  have:k=0:=by simpa using hk
  subst this;rfl
 |x::r,0,hk,h1,h2=>by
  have ih:=jk (c:=c) (s:=r) (k:=0) (Nat.zero_le _) (fun h=>absurd h (by decide)) (fun j _ hj=>by
   have:=h2 (j+1) (Nat.zero_le _) (by rw[List.length_cons];omega)
   simpa using this)
  have hx:x≠c:=by
   have:=h2 0 (Nat.le_refl _) (by simp)
   simpa using this
  unfold e7
  rw[ih,if_neg (by decide),if_neg hx]
 |x::r,1,hk,h1,h2=>by
  have ih:=jk (c:=c) (s:=r) (k:=0) (Nat.zero_le _) (fun h=>absurd h (by decide)) (fun j _ hj=>by
   have:=h2 (j+1) (by omega) (by rw[List.length_cons];omega)
   simpa using this)
  have hx:x=c:=by simpa using h1 (by decide)
  unfold e7
  rw[ih,if_neg (by decide),if_pos hx]
 |x::r,k+2,hk,h1,h2=>by
  have ih:=jk (c:=c) (s:=r) (k:=k+1) (by rw[List.length_cons]at hk;omega) (fun _=>by
   have:=h1 (by omega)
   simpa using this) (fun j hj hl=>by
   have:=h2 (j+1) (by omega) (by rw[List.length_cons];omega)
   simpa using this)
  unfold e7
  rw[ih,if_pos (by omega)]
theorem vF{s:List UInt8}{c:UInt8}(hs:s.length≤1000000000):cj Tryz.prog 167 [.string (strOf s),B8 c] [] [] (fun v_ X_ S_=>v_=(.int .i64 ((e7 c s:Nat)-1))∧X_=[]∧S_=[]):=by
 have hsz:=cU s
 refine aU (N:=19) Tryz.func167 rfl rfl (by simp) fun b=> ?_
 refine ah<|aj<|hy (fun _=>ab rfl)<|ai<|ag<|ah<|ah<|aj<|hy (fun _=>aa rfl)<|hy (fun _=>cQ rfl Tryz.underlying9)<|hy (fun _=>b6 rfl rfl (bB (by omega) (by omega)))<|hy (fun _=>ab rfl)<|ai<|al (ρ' :=[(5,_),(4,_),(0,_),(1,_)]) ⟨rfl,rfl,rfl,rfl,trivial⟩<|ag<|aN<| ?_
 refine dA (fun k=>k) (fun k=>[(5,.int .i64 ((k:Nat)-1))]) (fun k=>[]) (fun k=>[]) (fun k=>k≤s.length∧∀j,k≤j→j<s.length→s.getD j 0≠c) s.length [(0,_),(1,_)] ⟨rfl,rfl,trivial⟩ [] rfl [] rfl (⟨Nat.le_refl _,fun j h1 h2=>absurd h2 (by omega)⟩) ⟨rfl,trivial⟩ (fun k ⟨hk,hno⟩=> ?_)
 refine ah<|ah<|aj<|hy (fun _=>aa rfl)<|hy (fun _=>gG rfl rfl)<|ai<|al (ρ' :=[(10,_),(5,_),(0,_),(1,_)]) ⟨rfl,rfl,rfl,rfl,trivial⟩<|ag<| ?_
 refine cI rfl (fun h=> ?_) (fun h=> ?_)
 ·have hil:k-1<s.length:=by omega
  refine aC<|ag<|ah<|aN<|ah<|aj<|hy (fun _=>aa rfl)<|hy (fun _=>aa rfl)<|hy (fun _=>eC rfl rfl Tryz.underlying9 (show((k-1:Nat):Int)=_ by omega) (ic hil))<|hy (fun _=>aa rfl)<|hy (fun _=>cy rfl rfl)<|ai<|al (ρ' :=[(17,_),(10,_),(5,_),(0,_),(1,_)]) ⟨rfl,rfl,rfl,rfl,rfl,trivial⟩<|ag<| ?_
  refine cI rfl (fun h0=> ?_) (fun h0=> ?_)
  ·have h00:s.getD (k-1) 0=c:=UInt8.toNat_inj.1 (by omega)
   rw[jk hk (fun _=>h00) hno]
   refine ah<|aj<|hy (fun _=>aa rfl)<|hy (fun _=>ab rfl)<|ai<|al (ρ' :=[(4,_),(17,_),(10,_),(5,_),(0,_),(1,_)]) ⟨rfl,rfl,rfl,rfl,rfl,rfl,trivial⟩<|ag<|aQ<|bc<|ay<|ay<|bc<|ay<| ?_
   exact bd trivial rfl rfl [] rfl [] rfl ⟨rfl,rfl,rfl⟩
  ·have h00:s.getD (k-1) 0≠c:=fun e=>h0 (by rw[e])
   have hno2:∀j,k-1≤j→j<s.length→s.getD j 0≠c:=fun j h1 h2=>by
    rcases Nat.lt_or_ge j k with hlt|hge
    ·rw[show j=k-1 by omega];exact h00
    ·exact hno j hge h2
   refine aC<|aW<|ag<|aj<|hy (fun _=>aa rfl)<|hy (fun _=>yV (b6 rfl rfl (bB (by omega) (by omega))) ((show Value.int .i64 _= .int .i64 (((k-1:Nat):Int)-1) by congr 1;omega)))<|hy (fun _=>ab rfl)<|ai<|al (ρ' :=[(5,_),(17,_),(10,_),(0,_),(1,_)]) ⟨rfl,rfl,rfl,rfl,rfl,trivial⟩<| ?_
   refine cS (k-1) ⟨rfl,rfl,rfl,trivial⟩ [] rfl [] rfl (⟨by omega,hno2⟩) (by omega)
 ·obtain rfl:k=0:=by omega
  rw[jk (Nat.zero_le _) (fun h=>absurd h (by decide)) hno]
  refine bS<|ar<|ar<|aE<|ag<|ah<|aj<|hy (fun _=>ab rfl)<|ai<|ag<|aQ<| ?_
  exact bd trivial rfl rfl [] rfl [] rfl ⟨rfl,rfl,rfl⟩
theorem tv{s:List UInt8}(hs:s.length≤1000000000):cj Tryz.prog 93 [.string (strOf s),.string (strOf [47])] [] [] (fun v_ X_ S_=>v_=(.int .i64 ((e7 47 s:Nat)-1))∧X_=[]∧S_=[]):=by
 refine aU (N:=36) Tryz.func93 rfl rfl (by simp) fun b=> ?_
 refine ah<|aj<|hy (fun _=>ab rfl)<|ai<|ag<|ah<|aj<|hy (fun _=>aa rfl)<|hy (fun _=>cQ rfl Tryz.underlying9)<|hy (fun _=>ab rfl)<|ai<|al (ρ' :=[(5,_),(4,_),(0,_),(1,_)]) ⟨rfl,rfl,rfl,rfl,trivial⟩<|ag<|ah<|aN<|ah<|aj<|hy (fun _=>aa rfl)<|hy (fun _=>cy rfl rfl)<|hy (fun _=>ab rfl)<|ai<|al (ρ' :=[(8,_),(5,_),(4,_),(0,_),(1,_)]) ⟨rfl,rfl,rfl,rfl,rfl,trivial⟩<|ag<| ?_
 refine dx rfl ((decide_eq_false (by decide))) ?_
 refine ah<|aj<|hy (fun _=>aa rfl)<|hy (fun _=>cy rfl rfl)<|hy (fun _=>ab rfl)<|ai<|al (ρ' :=[(13,_),(8,_),(5,_),(4,_),(0,_),(1,_)]) ⟨rfl,rfl,rfl,rfl,rfl,rfl,trivial⟩<|ag<| ?_
 refine fe rfl ((decide_eq_true (by decide))) ?_
 refine ah<|aj<|hy (fun _=>aa rfl)<|hy (fun _=>aa rfl)<|hy (fun _=>eC rfl rfl Tryz.underlying9 rfl (show(strOf [47]).data[0]? =some 47 from rfl))<| ?_
 refine hx (aq rfl Tryz.call167 (vF hs (c:=47)) [] rfl [] rfl ?_)
 rintro _ _ _ ⟨rfl,rfl,rfl⟩
 refine hy (fun _=>ab rfl)<|ai<|al (ρ' :=[(4,_),(13,_),(8,_),(5,_),(0,_),(1,_)]) ⟨rfl,rfl,rfl,rfl,rfl,rfl,trivial⟩<|ak (X' :=[]) (S' :=[]) (fun _ m=>m)<|ag<|aQ<|bc<|ay<| ?_
 exact bd trivial rfl rfl [] rfl [] rfl ⟨rfl,rfl,rfl⟩
theorem vB(l:List UInt8):¬(47:UInt8)∈b8 l:=by
 have hd:∀i:Nat,i<16→jN.getD i 0≠47:=by decide
 intro h
 unfold b8 at h
 obtain⟨x,hx,hc⟩:=List.mem_flatMap.1 h
 have hb:=x.toNat_lt
 simp only[o9,List.mem_cons,List.not_mem_nil,or_false]at hc
 rcases hc with hc|hc
 ·exact hd _ (by omega) hc.symm
 ·exact hd _ (by omega) hc.symm
theorem rJ{nm:List UInt8}(h:nm.length=32):e7 47 (bz nm)=5:=by
 have h64:(b8 nm).length=64:=by rw[dI,h]
 obtain⟨a,b,r,hr⟩:∃a b r,b8 nm=a::b::r:=by
  match hq:b8 nm with
  | []=>rw[hq]at h64;cases h64
  | [_]=>rw[hq]at h64;cases h64
  |a::b::r=>exact⟨a,b,r,rfl⟩
 have hp:bz nm=[99,47,a,b,47]++b8 nm:=by unfold bz;rw[hr];rfl
 refine jk (by rw[e8 h];decide) (fun _=>by rw[hp];rfl) (fun j h1 h2 e=> ?_)
 rw[hp]at e h2
 rw[List.getD_eq_getElem?_getD,List.getElem?_append_right (by exact h1)]at e
 have hj:j-5<(b8 nm).length:=by simp at h2;omega
 have e2:(b8 nm)[j-5]?.getD 0=47:=e
 rw[List.getElem?_eq_getElem hj]at e2
 exact vB nm (by rw[←show(b8 nm)[j-5]=47 from e2];exact List.getElem_mem hj)
def ke(p q:List UInt8):Option (List UInt8):=if(bY q).2=0∧bz (bY q).1=p then some (bY q).1 else none
theorem eF{p q nm:List UInt8}(h:ke p q=some nm):nm.length=32∧p=bz nm:=by
 unfold ke at h
 split at h
 ·rename_i hq
  cases h
  exact⟨gA _,hq.2.symm⟩
 ·cases h
theorem rH{nm:List UInt8}(h:nm.length=32):ke (bz nm) (b8 nm)=some nm:=by
 unfold ke
 rw[pa nm h,if_pos ⟨rfl,rfl⟩]
def gP(p:List UInt8):Option (List UInt8):=ke p (p.drop (e7 47 p))
def jO(p:List UInt8):Option (List UInt8):=if p.length=69 then ke p (p.drop 5)else none
theorem j6(p:List UInt8):gP p=jO p:=by
 have h1:∀{nm:List UInt8},nm.length=32→gP (bz nm)=some nm∧jO (bz nm)=some nm:=fun{nm} h=>by
  unfold gP jO
  rw[rJ h,sA h,e8 h,if_pos rfl]
  exact⟨rH h,rH h⟩
 cases h:gP p with
 |some nm=>
  obtain⟨h2,rfl⟩:=eF h
  exact(h1 h2).2.symm
 |none=>
  cases h3:jO p with
  |none=>rfl
  |some nm=>
   have h4:ke p (p.drop 5)=some nm:=by
    unfold jO at h3
    split at h3
    ·exact h3
    ·cases h3
   obtain⟨h2,rfl⟩:=eF h4
   rw[(h1 h2).1]at h
   cases h
def bW(d:RD):List (List UInt8):=(d.seen.map (·.1)).filterMap jO
end Go.Proofs.YtmibdabdlgmafaaGreatDoor
end
section
set_option maxRecDepth 20000
set_option maxHeartbeats 4000000
namespace Go.Proofs.YtmibdabdlgmafaaGreatDoor
open Go.Eng Go.Hx
def yu:List UInt8:=[99,47]
theorem sk(c:UInt8):∀s:List UInt8,e7 c s≤s.length
 | []=>Nat.le_refl _
 |x::r=>by
  have:=sk c r
  unfold e7
  split
  ·rw[List.length_cons];omega
  ·split <;> (rw[List.length_cons];omega)
theorem wq{p nm:List UInt8}(h:gP p=some nm):pre yu p=true:=by
 obtain⟨h1,rfl⟩:=eF h
 unfold pre
 exact decide_eq_true rfl
theorem qH(d:RD):(gz d yu).filterMap gP=bW d:=by
 unfold gz bW
 rw[show jO=gP from funext fun p=>(j6 p).symm]
 generalize d.seen.map (·.1)=l
 induction l with
 |nil=>rfl
 |cons p r ih=>
  rw[List.filter_cons]
  cases h:gP p with
  |some nm=>rw[if_pos (wq h),List.filterMap_cons,List.filterMap_cons,h,ih]
  |none=>
   rw[List.filterMap_cons,h]
   split
   ·rw[List.filterMap_cons,h];exact ih
   ·exact ih
theorem vh{ns:List (List UInt8)}{i:Nat}(h:i<ns.length):(ns.take (i+1)).filterMap gP=(ns.take i).filterMap gP++(gP (ns.getD i [])).toList:=by
 have h1:ns.take (i+1)=ns.take i++[ns.getD i []]:=by
  rw[List.take_add_one,List.getElem?_eq_getElem h]
  simp[List.getD,List.getElem?_eq_getElem h]
 rw[h1,List.filterMap_append]
 generalize ns.getD i []=x
 cases hq:gP x <;> simp[hq]
theorem BO{g:Nat}{st:c7}{d:RD}{kk:Nat}(hD:DS st d kk)(hkk:kk≤99000)(hnl:∀x∈d.seen,x.1.length≤1000000):cj Tryz.prog 20 [.pointer (some ⟨g,0,none⟩)] [bM g st] [] (fun v_ X_ S_=>∃v k,v_=v∧X_=[bM g st,aF 53 32 v k (dc (bW d))]∧S_=[]∧(k=(bW d).length)):=by
 have hcn:=qH d
 have hnl2:∀p∈gz d yu,p.length≤1000000:=fun p hp=>by
  obtain⟨x,hx,rfl⟩:=List.mem_map.1 (List.mem_filter.1 hp).1
  exact hnl x hx
 refine aU (N:=38) Tryz.func20 rfl rfl (by simp) fun b=> ?_
 refine ah<|aj<|hy (fun _=>ab rfl)<|ai<|ag<|ah<|aj<|hy (fun _=>ab rfl)<|ai<|ag<|ah<|ah<|aj<|hy (fun _=>aa rfl)<| ?_
 refine hx (aq rfl Tryz.call86 (B4 hD hkk (p:=yu)) [0] rfl [] rfl ?_)
 rintro _ _ _ ⟨v,rfl,rfl,rfl,hn⟩
 refine aw (fun m=>(m.own 1 rfl).slice) ?_
 rintro⟨A_x,c_x,rfl,hc_x⟩
 refine aw (fun m=>(m.ord 1 rfl).2.1) fun hA_x=> ?_
 generalize gz d yu=ns at hn hcn hnl2 hc_x hA_x ⊢
 refine hy (fun _=>aX rfl Tryz.underlying152)<|hy (fun _=>aa rfl)<|ai<|al (ρ' :=[(11,_),(10,_),(9,_),(3,_),(2,_),(0,_)]) ⟨rfl,rfl,rfl,rfl,rfl,rfl,trivial⟩<|ak (X' :=[_,_]) (S' :=[]) (fun _ m=>m)<|ag<|aN<| ?_
 refine bD (fun w m=>m.cL (r' :=aF 53 32 (.slice none 0 0) 0 []) (.refl _ _) (Own.nil _ _ _ _) (fun k hk=>hk.elim)) ?_
 refine lf (fun i k A1 c1=>ns.length-i) (fun i k A1 c1=>[(3,.slice A1 k c1),(11,.int .i64 (i:Nat))]) (fun i k A1 c1=>[aF 53 32 (.slice A1 k c1) k (dc ((ns.take i).filterMap gP))]) (fun i k A1 c1=>[]) (fun i k A1 c1=>i≤ns.length∧k=((ns.take i).filterMap gP).length∧k≤i) 0 0 none 0 [(10,_),(9,_),(2,_),(0,_)] ⟨rfl,rfl,rfl,rfl,trivial⟩ [0] rfl [] rfl (⟨Nat.zero_le _,rfl,Nat.le_refl _⟩) ⟨rfl,rfl,trivial⟩ (fun i k A1 c1 ⟨hin,hk,hki⟩=> ?_)
 refine ah<|aj<|hy (fun _=>bk rfl rfl)<|ai<|ag<|ah<| ?_
 refine cI rfl (fun hlt=> ?_) (fun hlt=> ?_)
 ·have hi2:i<ns.length:=by omega
  have hsn:=vh hi2
  have hpl:=hnl2 (ns.getD i []) (by rw[List.getD,List.getElem?_eq_getElem hi2];exact List.getElem_mem hi2)
  refine aC<|ag<|ah<|aN<|ah<|aj<|hy (fun _=>aL rfl rfl Tryz.underlying152 E4 hA_x rfl (by omega))<|hy (fun m=>av rfl kL ((m.ord 2 rfl).cell (wD hi2)))<|hy (fun _=>ab rfl)<|ai<|al (ρ' :=[(5,_),(12,_),(3,_),(11,_),(10,_),(9,_),(2,_),(0,_)]) ⟨rfl,rfl,rfl,rfl,rfl,rfl,rfl,rfl,trivial⟩<|ag<|ah<|aj<|hy (fun _=>aa rfl)<|hy (fun _=>aa rfl)<| ?_
  generalize ns.getD i []=p at hsn hpl ⊢
  have hlp:=sk 47 p
  have hdl:=gA (p.drop (e7 47 p))
  have h32:(aK (bY (p.drop (e7 47 p))).1).length=32:=by rw[ax,hdl]
  have hql:(p.drop (e7 47 p)).length≤1000000:=by rw[List.length_drop];omega
  have ho1:gP p=if(bY (p.drop (e7 47 p))).2=0∧bz (bY (p.drop (e7 47 p))).1=p then some (bY (p.drop (e7 47 p))).1 else none:=rfl
  refine hx (aq rfl Tryz.call93 (tv (by omega) (s:=p)) [] rfl [] rfl ?_)
  rintro _ _ _ ⟨rfl,rfl,rfl⟩
  refine hy (fun _=>aM rfl rfl (bB (by omega) (by omega)))<|hy (fun _=>pY rfl rfl Tryz.underlying9 (show((e7 47 p:Nat):Int)=_ by omega) hlp)<| ?_
  refine hx (aq rfl Tryz.call92 (y1 hql (s:=(p.drop (e7 47 p)))) [] rfl [] rfl ?_)
  rintro _ _ _ ⟨rfl,rfl,rfl⟩
  refine hy (fun _=>aa rfl)<|hy (fun _=>ao rfl rfl)<|hy (fun _=>ao rfl rfl)<| ?_
  refine hx (aJ cX (fun g6=> ?_))
  refine cN (aG 0 rfl rfl rfl bj h32 aS rfl ?_)
  generalize hdo:bY (p.drop (e7 47 p))=dq at hdl h32 ho1 ⊢
  by_cases hE:dq.2=0
  ·refine hy (fun _=>ab rfl)<|ai<|al (ρ' :=[(7,_),(6,_),(5,_),(12,_),(3,_),(11,_),(10,_),(9,_),(2,_),(0,_)]) ⟨rfl,rfl,rfl,rfl,rfl,rfl,rfl,rfl,rfl,rfl,trivial⟩<|ak (X' :=[_,_,_,_]) (S' :=[]) (fun _ m=>m)<|ag<|ah<|aj<|hy (fun _=>aa rfl)<|hy (fun _=>yT (cy rfl rfl) ((decide_eq_true hE)))<|hy (fun _=>aa rfl)<|ca (o:=_) rfl rfl rfl (fun m=>aR rfl b5 bj h32 ((m.aT 0 rfl).au))<| ?_
   refine tw (o:=_) rfl rfl rfl (aq rfl Tryz.call94 (te hdl) [] rfl [] rfl ?_)
   rintro _ _ _ ⟨rfl,rfl,rfl⟩
   refine ca (o:=_) rfl rfl rfl (fun _=>aa rfl)<|ca (o:=_) rfl rfl rfl (fun _=>p6 rfl rfl)<|hy (fun _=>bo rfl rfl)<|ai<|al (ρ' :=[(31,_),(7,_),(6,_),(5,_),(12,_),(3,_),(11,_),(10,_),(9,_),(2,_),(0,_)]) ⟨rfl,rfl,rfl,rfl,rfl,rfl,rfl,rfl,rfl,rfl,rfl,trivial⟩<|ak (X' :=[_,_,_,_]) (S' :=[]) (fun _ m=>m)<|ag<| ?_
   refine yg rfl (fun hp=> ?_) (fun hp=> ?_)
   ·have hp:=cE.1 (of_decide_eq_true hp)
    rw[ho1,if_pos ⟨hE,hp⟩]at hsn
    have hsn:(ns.take (i+1)).filterMap gP=(ns.take i).filterMap gP++[dq.1]:=hsn
    refine aj<|hy (fun _=>aa rfl)<|hy (fun m=>aR rfl b5 bj h32 ((m.aT 0 rfl).au))<| ?_
    refine hx (cg Tryz.underlying33 cX rfl rfl rfl (by simpa[Value.cells,B8]using h32) (by decide) (by decide) (fun g34=> ?_))
    have hA_b34:0<1→(some (⟨g34,0,none⟩:Addr))≠none:=fun _ h=>by cases h
    refine aV (fun w m=>m.bQ 0 rfl (show _=aF 53 32 (.slice (some ⟨g34,0,none⟩) 1 1) 1 (dc [dq.1])from rfl)) ?_
    refine hx (bu 2 rfl rfl rfl Tryz.underlying33 Tryz.underlying33 (by exact .inl rfl) cX rfl (fun m=>Src.bN (m.ord 0 rfl)) di (by unfold maxLen;omega) (by omega) (fun u=> ?_))
    refine aw (fun m=>(m.own 0 rfl).slice) ?_
    rintro⟨A_o,c_o,rfl,hc_o⟩
    refine aw (fun m=>(m.ord 0 rfl).2.1) fun hA_o=> ?_
    refine aV (fun w m=>m.bQ 0 rfl (show _=aF 53 32 (.slice A_o (k+1) c_o) (k+1) (dc ((ns.take (i+1)).filterMap gP))from congrArg (aF _ _ _ _) (by rw[hsn,eM]))) ?_
    refine hy (fun _=>ab rfl)<|ai<|al (ρ' :=[(3,_),(31,_),(7,_),(6,_),(5,_),(12,_),(11,_),(10,_),(9,_),(2,_),(0,_)]) ⟨rfl,rfl,rfl,rfl,rfl,rfl,rfl,rfl,rfl,rfl,rfl,trivial⟩<|ak (X' :=[_,_,_,_,_]) (S' :=[]) (fun _ m=>m)<|aW<|ag<|aj<|hy (fun _=>aM rfl rfl (bB (by omega) (by omega)))<|hy (fun _=>aa rfl)<|ai<|al (ρ' :=[(11,_),(3,_),(31,_),(7,_),(6,_),(5,_),(12,_),(10,_),(9,_),(2,_),(0,_)]) ⟨rfl,rfl,rfl,rfl,rfl,rfl,rfl,rfl,rfl,rfl,rfl,trivial⟩<| ?_
    refine fA (i+1) (k+1) A_o c_o ⟨rfl,rfl,rfl,rfl,rfl,rfl,trivial⟩ [0,2,2] rfl [] rfl (⟨by omega,by rw[hsn,hk,List.length_append];rfl,by omega⟩) (by omega)
   ·have hp:=of_decide_eq_false hp
    rw[ho1,if_neg (fun h=>hp (by rw[h.2]))]at hsn
    have hsn:(ns.take (i+1)).filterMap gP=(ns.take i).filterMap gP:=hsn.trans (List.append_nil _)
    refine bD (fun w m=>m.bQ 1 rfl (show _=aF 53 32 (.slice A1 k c1) k (dc ((ns.take (i+1)).filterMap gP))from by rw[hsn])) ?_
    refine aC<|aW<|ag<|aj<|hy (fun _=>aM rfl rfl (bB (by omega) (by omega)))<|hy (fun _=>aa rfl)<|ai<|al (ρ' :=[(11,_),(31,_),(7,_),(6,_),(5,_),(12,_),(3,_),(10,_),(9,_),(2,_),(0,_)]) ⟨rfl,rfl,rfl,rfl,rfl,rfl,rfl,rfl,rfl,rfl,rfl,trivial⟩<| ?_
    refine fA (i+1) k A1 c1 ⟨rfl,rfl,rfl,rfl,rfl,rfl,trivial⟩ [0,1,1] rfl [] rfl (⟨by omega,by rw[hsn,hk],by omega⟩) (by omega)
  ·refine hy (fun _=>ab rfl)<|ai<|al (ρ' :=[(7,_),(6,_),(5,_),(12,_),(3,_),(11,_),(10,_),(9,_),(2,_),(0,_)]) ⟨rfl,rfl,rfl,rfl,rfl,rfl,rfl,rfl,rfl,rfl,trivial⟩<|ag<|ah<|aj<|hy (fun _=>aa rfl)<|hy (fun _=>yF (cy rfl rfl) ((decide_eq_false hE)))<|hy (fun _=>aa rfl)<|a6 rfl rfl rfl (by decide)<|a6 rfl rfl rfl (by decide)<|a6 rfl rfl rfl (by decide)<|a6 rfl rfl rfl (by decide)<|hy (fun _=>a7 rfl rfl)<|ai<|al (ρ' :=[(31,_),(7,_),(6,_),(5,_),(12,_),(3,_),(11,_),(10,_),(9,_),(2,_),(0,_)]) ⟨rfl,rfl,rfl,rfl,rfl,rfl,rfl,rfl,rfl,rfl,rfl,trivial⟩<|ag<| ?_
   refine dx rfl (rfl) ?_
   rw[ho1,if_neg (fun h=>hE h.1)]at hsn
   have hsn:(ns.take (i+1)).filterMap gP=(ns.take i).filterMap gP:=hsn.trans (List.append_nil _)
   refine bD (fun w m=>m.bQ 1 rfl (show _=aF 53 32 (.slice A1 k c1) k (dc ((ns.take (i+1)).filterMap gP))from by rw[hsn])) ?_
   refine aC<|aW<|ag<|aj<|hy (fun _=>aM rfl rfl (bB (by omega) (by omega)))<|hy (fun _=>aa rfl)<|ai<|al (ρ' :=[(11,_),(31,_),(7,_),(6,_),(5,_),(12,_),(3,_),(10,_),(9,_),(2,_),(0,_)]) ⟨rfl,rfl,rfl,rfl,rfl,rfl,rfl,rfl,rfl,rfl,rfl,trivial⟩<| ?_
   refine fA (i+1) k A1 c1 ⟨rfl,rfl,rfl,rfl,rfl,rfl,trivial⟩ [0,1,1] rfl [] rfl (⟨by omega,by rw[hsn,hk],by omega⟩) (by omega)
 ·obtain rfl:i=ns.length:=by omega
  rw[List.take_length,hcn]at hk ⊢
  refine bS<|ar<|ar<|aE<|ag<|ah<|aj<|hy (fun _=>aa rfl)<|hy (fun _=>ab rfl)<|ai<|al (ρ' :=[(2,_),(12,_),(3,_),(11,_),(10,_),(9,_),(0,_)]) ⟨rfl,rfl,rfl,rfl,rfl,rfl,rfl,trivial⟩<|ag<|aQ<| ?_
  exact bd trivial rfl rfl [1,0] rfl [] rfl ⟨_,_,rfl,rfl,rfl,hk⟩
end Go.Proofs.YtmibdabdlgmafaaGreatDoor
end
section
namespace Go.Eng
open Go.RowKit
section
variable{P:Program}{fn:Func}{R:Value→List bf→List bf→Prop}{N:Nat}{ρ:Env}{b:cG}{X X' Xz S S' :List bf}{e:Exit}
theorem ff{t t2 t' sz sz2:Nat}{ty ty2:TypeId}{p p2:Addr}{cs cs2:List Value}{v' :Value}(he:Leaves e)(hr:fn.results= #[.cell t ty,.cell t2 ty2,.tmp t'])(hv:get ρ t=some (.pointer (some p)))(hv2:get ρ t2=some (.pointer (some p2)))(hv' :get ρ t' =some v')(ha:dG P ty=some true)(hs:fF P ty=some sz)(hl:cs.length=sz)
  (hc:∀{w},Mem b X S w→∀j u,cs[j]? =some u→w.cell? (p.add j)=some u) (ha2:dG P ty2=some true) (hs2:fF P ty2=some sz2) (hl2:cs2.length=sz2)
  (hc2:∀{w},Mem b X S w→∀j u,cs2[j]? =some u→w.cell? (p2.add j)=some u) (is:List Nat) (hX:bO is X=some (X',Xz)) (js:List Nat) (hS:dB js S=some S') (hR:R (.tuple #[.agg cs.toArray,.agg cs2.toArray,v']) X' S'):HQ (bodyPost P fn (RB b R)) N [] e ρ b X S:=
 fun w m=>gW he (fun a hA=>by have h1:=hA.getD hv;have h2:=hA.getD hv2;have h3:=hA.getD hv';simp at h1 h2 h3;simp[results,hr,h1,h2,h3,asAddr,jn ha hs hl (hc m),jn ha2 hs2 hl2 (hc2 m)]) ⟨_,_,_,rfl,hR,m.out is hX js hS⟩
end
end Go.Eng
end
