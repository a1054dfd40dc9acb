/- Part. -/
import Derived.Test.YtmibdabdlgmafaaGreatDoorSWW3
import Derived.RangeFuncBox
import Derived.RangeFuncLeaves
import Derived.Shelf.Abstract
import Derived.WalkKit
import Derived.OwnWalkIn
import Derived.TacticsInMore
import Derived.LoopNIn
import Derived.LoopIn
import Derived.ScopeJumps
import Derived.Shelf.Sort.Plain
import Derived.Test.YtmibdabdlgmafaaGreatDoorProg
import Derived.Sort.OwnSorted
set_option linter.all false
section
namespace Go.Eng
open Go.RowKit
def wU(D:Nat):bg where
 cZ k:=k=D
 holds w:=w.heap[D]? =some (.deferred (some []))
 hO:=fun{S w w'} f h e=>by
  have hlt:=(Array.getElem?_eq_some_iff.1 e).1
  exact(f.block D hlt (h D rfl)).trans e
 low:=fun{w k} e hk=>by
  have hk' :k=D:=hk
  rw[hk'];exact(Array.getElem?_eq_some_iff.1 e).1
theorem Mem.grown{b:cw}{X S:List bg}{w w' :World}{R:Nat→Prop}(m:Mem b X S w)(f:Fr R w w')(h1:∀k,R k→b.w.heap.size≤k)(h2:∀k,R k→∀x∈X,¬x.cZ k)(h3:∀k,R k→∀s∈S,¬s.cZ k):Mem b X S w' :=
 ⟨m.fr.trans f (fun _ e=>e) (fun i hi e=>absurd (h1 i e) (by omega)),m.xx,m.xs,fun x hx=>x.hO f (fun k hk hr=>h2 k hr x hx hk) (m.hx x hx),fun s hs=>s.hO f (fun k hk hr=>h3 k hr s hs hk) (m.hs s hs),m.nx,m.ns⟩
theorem sM{w w' :World}{row:Option Nat}(h:w.grownBy w' row):Fr (fun k=>row=some k) w w' :=⟨h.os,h.tape,h.output,h.size,fun k hk hn=>h.block k hk (fun e=>hn e.symm)⟩
def EJ(B:Nat)(M:Nat→Prop)(W W' :World):Prop:=∀k,k<B→¬M k→W'.heap[k]? =W.heap[k]?
def B7(ps:Array Tmp)(vs:List Value):Env:=(ps.toList.zip vs)
theorem Mem.zM{b:cw}{X S:List bg}{w:World}{D B:Nat}(m:Mem b X S w)(hb:b.w.heap.size≤B)(hD:B≤D)(hx:∀x∈X,∀k,x.cZ k→k<B)(hs:∀s∈S,∀k,s.cZ k→k<B)(h:w.heap[D]? =some (.deferred (some []))):Mem b (wU D::X) S w:=by
 refine⟨m.fr,List.pairwise_cons.2 ⟨fun y hy k hk hy' => ?_,m.xx⟩,fun x hx' s hs' k hk hk' => ?_,fun x hx' => ?_,m.hs,fun x hx' k hk=> ?_,m.ns⟩
 ·have hk' :k=D:=hk
  have:=hx y hy k hy'
  omega
 ·rcases List.mem_cons.1 hx' with rfl|hx'
  ·have h1:k=D:=hk
   have:=hs s hs' k hk'
   omega
  ·exact m.xs x hx' s hs' k hk hk'
 ·rcases List.mem_cons.1 hx' with rfl|hx'
  ·exact h
  ·exact m.hx x hx'
 ·rcases List.mem_cons.1 hx' with rfl|hx'
  ·have h1:k=D:=hk
   exact .inr (by omega)
  ·exact m.nx x hx' k hk
theorem Mem.off{b:cw}{X S X1 Xr:List bg}{w:World}{is:List Nat}(m:Mem b X S w)(hX:bR is X=some (X1,Xr))(j:Nat){r:bg}(hj:Xr[j]? =some r){k:Nat}(hk:r.cZ k):¬dp X1 k:=by
 have m1:=m.perm (ar _ _ _ _ hX)
 rintro⟨x,hx,hxk⟩
 exact(List.pairwise_append.1 m1.xx).2.2 x hx r (List.mem_of_getElem? hj) k hxk hk
def RQ{α σ:Type}(b:cw)(X1:σ→List bg)(Sb:List bg)(id:Nat)(step:σ→α→σ)(brk:σ→α→Prop)(s:σ)(x:α):Exit→Act→World→Prop
 | .normal,_,w=>Mem b (X1 (step s x)) Sb w
 | .exit i,_,w=>i=id∧Mem b (X1 s) Sb w∧brk s x
 |_,_,_=>False
theorem kG{α σ:Type}{b:cw}{X1:σ→List bg}{Sb:List bg}{id:Nat}{step:σ→α→σ}{brk:σ→α→Prop}{s:σ}{x:α}{N:Nat}{D:List Deferred}{ρ:Env}{X S Xz:List bg}(s' :σ)(he:step s x=s')(is:List Nat)(hX:bR is X=some (X1 s',Xz))(js:List Nat)(hS:dM js S=some Sb):
  HQ (RQ b X1 Sb id step brk s x) N D .normal ρ b X S:=fun w m a ha=>by
 show Mem b (X1 (step s x)) Sb w
 rw[he]
 exact m.out is hX js hS
theorem qV{α σ:Type}{b:cw}{X1:σ→List bg}{Sb:List bg}{id:Nat}{step:σ→α→σ}{brk:σ→α→Prop}{s:σ}{x:α}{N:Nat}{D:List Deferred}{ρ:Env}{X S Xz:List bg}(is:List Nat)(hX:bR is X=some (X1 s,Xz))(js:List Nat)(hS:dM js S=some Sb)(hb:brk s x):
  HQ (RQ b X1 Sb id step brk s x) N D (.exit id) ρ b X S:=fun w m a ha=>⟨rfl,m.out is hX js hS,hb⟩
section
variable{P:Program}{Q:Exit→Act→World→Prop}{N:Nat}{D:List Deferred}{ρ ρ' :Env}{b:cw}{X X' Xr S S' Sb:List bg}
theorem Am{α σ:Type}{g gf id:Nat}{ps:Array Tmp}{assign body:Code}{lb:List Value}(X1:σ→List bg)(s0:σ)(step:σ→α→σ)(brk:σ→α→Prop)(encs:α→List Value)(xs:List α)(ρx:α→Env)(ρk:Env)(hk:e7 ρk ρ)
  (hv:get ρ g=some (.func (.func gf) #[] lb.toArray)) (heg:∀args w,(callFunc gf args).run P w= .ok (.enter gf args) w)
  (is:List Nat) (hX:bR is X=some (X1 s0,Xr)) (hft:∀s k,dp (X1 s) k↔dp (X1 s0) k) (js:List Nat) (hS:dM js S=some Sb)
  (ah:∀w,Mem b X S w→SeqStopsK Fence.wide 2 P gf lb.toArray (fun x=>(encs x).toArray) (EJ w.heap.size (dp (X1 s0))) (fun ys=>ys=xs) (fun pre=>pre<+:xs) xs.length w)
  (hps:∀x,(encs x).length=ps.size) (hpn:∀p∈ps.toList,p<N) (hnd:∀x (a:Act),Ag N D ρ a→Ag N [] (ρ' ++B7 ps (encs x)++ρ) {tmps:=(ps.zip (encs x).toArray).foldl (fun t (p,v)=>t.setIfInBounds p v) a.tmps,defers:=[]})
  (hasg:∀(l:Nat) (b' :cw) (s:σ) (x:α) (Q' :Exit→Act→World→Prop),HQ Q' N [] .normal (ρx x++ρk) b' (X1 s) Sb→u0 l 1 P Q' N [] assign (ρ' ++B7 ps (encs x)++ρ) b' (X1 s) Sb)
  (hbody:∀(l:Nat) (b' :cw) (s:σ) (x:α),u0 l 1 P (RQ b' X1 Sb id step brk s x) N [] body (ρx x++ρk) b' (X1 s) Sb)
  (k:∀(Dk:Nat) (s:σ),(s=xs.foldl step s0∨∃pre x rest,xs=pre++x::rest∧s=pre.foldl step s0∧brk s x)→HQ Q N (⟨.collected Dk, #[]⟩::D) .normal ρ b (wU Dk::(X1 s++Xr)) S):
  HC P Q N D (.block id (.rangeFunc (.tmp g) ps assign body)) ρ b X S:=by
 intro w m a ha
 have m1:=m.perm (ar _ _ _ _ hX)
 have hSb:=ca _ _ _ hS
 obtain⟨M,hM⟩:∃M,M=dp (X1 s0):=⟨_,rfl⟩
 have hbz:b.w.heap.size≤w.heap.size:=m.fr.size
 have lowM:∀k,M k→k<w.heap.size:=by
  rw[hM]
  rintro k ⟨x,hx,hk⟩
  exact x.low (m1.hx x (List.mem_append_left _ hx)) hk
 have lowX:∀s x,x∈X1 s++Xr→∀k,x.cZ k→k<w.heap.size:=by
  intro s x hx k hk
  rcases List.mem_append.1 hx with hx|hx
  ·exact lowM k (by rw[hM];exact(hft s k).1 ⟨x,hx,hk⟩)
  ·exact x.low (m1.hx x (List.mem_append_right _ hx)) hk
 have lowS:∀s∈S,∀k,s.cZ k→k<w.heap.size:=fun s hs k hk=>s.low (m.hs s hs) hk
 refine wpIn_wide (n:=3).1 (wpIn_block ?_)
 have hown:∀{s:σ} {W W' :World} {row:Option Nat},Mem b (X1 s++Xr) S W→W.grownBy W' row→(∀r,row=some r→w.heap.size≤r∧∃o:Obj,W.heap[r]? =some o∧o.isCells=false)→Mem b (X1 s++Xr) S W' :=by
  intro s W W' row mW hg hr
  refine mW.grown (sM hg) (fun k e=>Nat.le_trans hbz (hr k e).1) (fun k e x hx hk=> ?_) (fun k e x hx hk=> ?_)
  ·have h1:=lowX s x hx k hk
   have h2:=(hr k e).1
   omega
  ·have h1:=lowS x hx k hk
   have h2:=(hr k e).1
   omega
 have hround:∀{s:σ} {W W' :World} {Y:List bg},Mem b (X1 s++Xr) S W→w.heap.size≤W.heap.size→Mem ⟨W,dp (X1 s),dp Sb⟩ Y Sb W' →KeepsFrom w.heap.size W W' ∧EJ w.heap.size M W W' ∧Mem b (Y++Xr) S W' :=by
  intro s W W' Y mW hsz mY
  have e:∀k,dp (X1 s) k↔M k:=fun k=>by rw[hM];exact hft s k
  refine⟨⟨mY.fr.size,fun k o hk ho _=> ?_⟩,fun k hk hn=> ?_,(mW.frame hSb mY).lz (fun x hx=>List.mem_append_right _ hx)⟩
  ·have hlt:=(Array.getElem?_eq_some_iff.1 ho).1
   exact(mY.fr.block k hlt (fun q=>by have:=lowM k ((e k).1 q);omega)).trans ho
  ·exact mY.fr.block k (by show k<W.heap.size;omega) (fun q=>hn ((e k).1 q))
 refine wpIn_rangeFunc_ownH (n:=3) (α:=α) (gf:=gf) (lb:=lb.toArray) rfl (by decide) (ha.eval hv) trivial heg (ah w m)
  (fun{A B C} h1 h2 k hk hn=>(h2 k hk hn).trans (h1 k hk hn)) (fun W l o o' hl ho _ _ k hk hn=>World.putObj_heap_other (by omega)) (Below.refl _ w) (fun x=>by simpa using hps x)
  (fun pre W=>w.heap.size≤W.heap.size∧Mem b (X1 (pre.foldl step s0)++Xr) S W) (fun c pre W=>c= .exit id∧∃pre' x,pre=pre' ++[x]∧Mem b (X1 (pre'.foldl step s0)++Xr) S W∧brk (pre'.foldl step s0) x)
  (fun pre W W' row h hg hr=>⟨Nat.le_trans h.1 hg.size,hown h.2 hg hr⟩)
  (fun c pre W W' row h hg hr=>by
   obtain⟨hc,pre',x,e,h1,h2⟩:=h
   exact⟨hc,pre',x,e,hown h1 hg hr,h2⟩)
  ⟨Nat.le_refl _,m1⟩ (fun x a' _=>Ag N [] (ρx x++ρk) a') (fun x a' =>ownFrom_pure _ (fun _=>Ag N [] (ρx x++ρk) a')) ?_ ?_ ?_ ?_
 ·rintro l pre x W K ⟨hsz,mW⟩ hK
  refine hasg l ⟨W,dp (X1 (pre.foldl step s0)),dp Sb⟩ (pre.foldl step s0) x _ (fun W' m' a' ha' => ?_) (fun⟨_,_,h⟩=>h) W (mW.part hSb) _ (hnd x a ha)
  obtain⟨h1,h2,h3⟩:=hround mW hsz m'
  exact hK a' W' h1 (by rw[←hM];exact h2) ⟨Nat.le_trans hsz h1.size,h3⟩ ha'
 ·rintro l pre x a' W _ _ ⟨hsz,mW⟩ hax _
  refine wpIn_mono (hbody l ⟨W,dp (X1 (pre.foldl step s0)),dp Sb⟩ (pre.foldl step s0) x (fun⟨_,_,h⟩=>h) W (mW.part hSb) a' hax) ?_
  intro e a2 W2 q
  cases e with
  |normal=>
   have q' :Mem _ (X1 (step (pre.foldl step s0) x)) Sb W2:=q
   obtain⟨h1,h2,h3⟩:=hround mW hsz q'
   refine⟨h1,by rw[←hM];exact h2,Nat.le_trans hsz h1.size, ?_⟩
   rw[List.foldl_append]
   exact h3
  |exit i=>
   obtain⟨rfl,q1,q2⟩:=q
   obtain⟨h1,h2,h3⟩:=hround mW hsz q1
   exact⟨h1,rfl,pre,x,rfl,h3,q2⟩
  |ret=>exact q.elim
  |goto t=>exact q.elim
  |panic c=>exact q.elim
  |outgrown=>exact q.elim
 ·rintro Dk ys W hD rfl ⟨hsz,mW⟩ hdef
  exact k Dk _ (.inl rfl) W (mW.zM hbz hD (lowX _) lowS hdef) _ ⟨ha.sz,by rw[ha.df],ha.gt⟩
 ·rintro Dk c pre W hD hpre ⟨rfl,pre',x,rfl,mW,hb⟩ hdef
  obtain⟨rest,hr⟩:=hpre
  refine wpIn_exit ?_
  have hq:=k Dk _ (.inr ⟨pre',x,rest,by rw[←hr];simp,rfl,hb⟩) W (mW.zM hbz hD (lowX _) lowS hdef) {a with defers:=⟨.collected Dk, #[]⟩::a.defers} ⟨ha.sz,by show _::a.defers=_;rw[ha.df],ha.gt⟩
  show(Exit.inBlock id Q) (.exit id) _ W
  simp only[Exit.inBlock,if_pos]
  exact hq
end
theorem zi{N p q:Nat}{D:List Deferred}{ρ:Env}{a:Act}{u v:Value}(hpq:(p == q)=false)(hp:p<N)(hq:q<N)(ha:Ag N D ρ a):
  Ag N [] ([]++B7 #[p,q] [u,v]++ρ) {tmps:=((#[p,q]:Array Tmp).zip [u,v].toArray).foldl (fun t (p,v)=>t.setIfInBounds p v) a.tmps,defers:=[]}:=by
 have hne:p≠q:=by simpa using hpq
 have e:(((#[p,q]:Array Tmp).zip [u,v].toArray).foldl (fun t (p,v)=>t.setIfInBounds p v) a.tmps)=(a.tmps.setIfInBounds p u).setIfInBounds q v:=by simp
 rw[e]
 have hsz:=ha.sz
 refine⟨by simpa using hsz,rfl,fun t z ht=> ?_⟩
 simp only[B7,List.nil_append,List.zip_cons_cons,List.zip_nil_right,List.cons_append,get]at ht
 show((a.tmps.setIfInBounds p u).setIfInBounds q v)[t]? =some z
 cases h1:Nat.beq p t with
 |true=>
  rw[h1]at ht
  have h1' :p=t:=Nat.eq_of_beq_eq_true h1
  simp only[cond_true,Option.some.injEq]at ht
  subst h1';subst ht
  rw[Array.getElem?_setIfInBounds_ne (Ne.symm hne),Array.getElem?_setIfInBounds_self_of_lt (by omega)]
 |false=>
  rw[h1]at ht
  simp only[cond_false]at ht
  have h1' :p≠t:=Nat.ne_of_beq_eq_false h1
  cases h2:Nat.beq q t with
  |true=>
   rw[h2]at ht
   have h2' :q=t:=Nat.eq_of_beq_eq_true h2
   simp only[cond_true,Option.some.injEq]at ht
   subst h2';subst ht
   rw[Array.getElem?_setIfInBounds_self_of_lt (by simp;omega)]
  |false=>
   rw[h2]at ht
   have h2' :q≠t:=Nat.ne_of_beq_eq_false h2
   rw[Array.getElem?_setIfInBounds_ne h2',Array.getElem?_setIfInBounds_ne h1']
   exact ha.gt t z (by simpa using ht)
theorem Cl{P:Program}{f:Nat}{fn:Func}{c:Code}{vs:List Value}{R:Value→List bg→List bg→Prop}{N:Nat}{X0 S0:List bg}(hf:P.funcs[f]? =some fn)(hb:fn.body=some c)(hN:fn.ntmps=N)(hl:vs.length≤N)
  (h:∀b,HC P (bodyPostM Fence.wide 3 P fn (RB b R)) N [] c (fT vs 0) b X0 S0):cf P f vs X0 S0 R:=fun w m=>by
 refine callsIn_wide (n:=3).1 (callsIn_of_wp_marks hf hb trivial (wpIn_wide.2 (h _ w m _ ⟨?_,rfl,fun t v ht=> ?_⟩)))
 ·simp[hN];omega
 ·obtain⟨_,h2⟩:=gj vs 0 t v ht
  have hlt:=(List.getElem?_eq_some_iff.1 h2).1
  rw[Array.getElem?_append_left (by simpa using hlt)]
  simpa using h2
section
variable{P:Program}{fn:Func}{R:Value→List bg→List bg→Prop}{N n:Nat}{D:List Deferred}{ρ:Env}{b:cw}{X X' Xz S S' :List bg}{e:Exit}
theorem EP{Dk:Nat}(he:Leaves e)(is:List Nat)(hX:bR is X=some ([wU Dk],X'))(k:HQ (bodyPostM Fence.wide n P fn (RB b R)) N D e ρ b X' S):HQ (bodyPostM Fence.wide n P fn (RB b R)) N (⟨.collected Dk, #[]⟩::D) e ρ b X S:=by
 intro w m a ha
 have m1:=m.perm (ar _ _ _ _ hX)
 have hc:w.heap[Dk]? =some (.deferred (some [])):=m1.hx (wU Dk) (by simp)
 have hx1:=(List.pairwise_cons.1 m1.xx).1
 have hr:=run_takeDeferred (P:=P) hc
 have hf:Fr (fun k=>k=Dk) w (w.putObj Dk (.deferred none)):=⟨rfl,rfl,rfl,by simp,fun k _ hk=>World.putObj_heap_other hk⟩
 have hbz:b.w.heap.size≤Dk∨b.M Dk:=(m1.nx (wU Dk) (by simp) Dk rfl).symm
 have m2:Mem b X' S (w.putObj Dk (.deferred none)):=by
  refine⟨m1.fr.trans hf (fun _ e=>e) (fun i hi e=> ?_),(List.pairwise_cons.1 m1.xx).2,fun x hx=>m1.xs x (List.mem_cons_of_mem _ hx),fun x hx=>x.hO hf (fun k hk e=> ?_) (m1.hx x (List.mem_cons_of_mem _ hx)),fun s hs=>s.hO hf (fun k hk e=> ?_) (m1.hs s hs),fun x hx=>m1.nx x (List.mem_cons_of_mem _ hx),m1.ns⟩
  ·subst e
   rcases hbz with h|h
   ·omega
   ·exact h
  ·exact hx1 x hx k e hk
  ·exact m1.xs (wU Dk) (by simp) s hs k e hk
 have hk:=k _ m2 {a with defers:=D} ⟨ha.sz,rfl,ha.gt⟩
 cases e with
 |normal=>
  show LeavesInM Fence.wide n P fn a.tmps _ a.defers .returning w
  rw[ha.df]
  exact⟨by simp,.inl ⟨Dk,_,rfl,hr,hk⟩⟩
 |ret=>
  show LeavesInM Fence.wide n P fn a.tmps _ a.defers .returning w
  rw[ha.df]
  exact⟨by simp,.inl ⟨Dk,_,rfl,hr,hk⟩⟩
 |_=>exact he.elim
theorem EL{v:Value}(he:Leaves e)(h:∀a,Ag N [] ρ a→∀w,(results fn a.tmps).run P w= .ok v w)(is:List Nat)(hX:bR is X=some (X',Xz))(js:List Nat)(hS:dM js S=some S')(hR:R v X' S'):HQ (bodyPostM Fence.wide n P fn (RB b R)) N [] e ρ b X S:=by
 intro w m a ha
 have hm:=m.out is hX js hS
 cases e with
 |normal=>
  show LeavesInM Fence.wide n P fn a.tmps _ a.defers .returning w
  rw[ha.df]
  exact⟨v,h a ha w,_,_,_,rfl,hR,hm⟩
 |ret=>
  show LeavesInM Fence.wide n P fn a.tmps _ a.defers .returning w
  rw[ha.df]
  exact⟨v,h a ha w,_,_,_,rfl,hR,hm⟩
 |_=>exact he.elim
theorem uX{t t' :Nat}{v v' :Value}(he:Leaves e)(hr:fn.results= #[.tmp t,.tmp t'])(hv:get ρ t=some v)(hv' :get ρ t' =some v')(is:List Nat)(hX:bR is X=some (X',Xz))(js:List Nat)(hS:dM js S=some S')(hR:R (.tuple #[v,v']) X' S'):HQ (bodyPostM Fence.wide n P fn (RB b R)) N [] e ρ b X S:=
 EL he (fun a ha w=>by have h1:=ha.getD hv;have h2:=ha.getD hv';simp at h1 h2;simp[results,hr,h1,h2]) is hX js hS hR
end
end Go.Eng
end
section
namespace Go.Proofs.YtmibdabdlgmafaaGreatDoor
open Go.Eng Go.RowKit Go.Shelf
attribute [local go_sem] Oper.semAt_some
set_option maxRecDepth 100000 in
set_option maxHeartbeats 4000000 in
theorem yP(F:Fence)(n:Nat)(h7:F.fn 297)(hro:F.round=none)(hn:1≤n)(l Bs B b off cap:Nat)(M:Nat→Prop)(zs:List Int){α:Type}(L:List α)(encs:α→List Value)(hL:L.length=zs.length)(henc:∀(k:Nat) (x:α),L[k]? =some x→encs x=[.int .i64 ((zs.length-1-k:Nat):Int),.int .i64 (zs[zs.length-1-k]?.getD 0)])(hreach:zs.length*8≤140737488351232)(hbs:Bs<B∧¬M Bs)(hb:b<B∧¬M b)(J Jx:List α→World→Prop)
  (hY:∀pre x W,J pre W→pre.length<L.length→YieldAt F (n-1) Tryz.prog l (encs x).toArray W fun e W' =>
   (e= .returned (.bool true)∧J (pre++[x]) W' ∧EJ B M W W')∨(e= .returned (.bool false)∧Jx (pre++[x]) W'))
  (W:World) (hBs:W.cell? ⟨Bs,0,none⟩=some (.slice (some ⟨b,off,none⟩) zs.length cap)) (hc:∀j,j<zs.length→W.cell? ⟨b,off+j,none⟩=some (.int .i64 (zs[j]?.getD 0))) (h0:J [] W):
  CallsIn F n Tryz.prog 297 #[.func (.yield l) #[] #[],.pointer (some ⟨Bs,0,none⟩)] W fun e W' =>(∃v,e= .returned v)∧
   ((∃ys,ys=L∧J ys W')∨(∃pre,pre<+:L∧Jx pre W')):=by
 refine callsIn_of_wp Tryz.func297 rfl h7 ?_ hro
 simp only[Tryz.ntmps297,List.size_toArray,List.length_cons,List.length_nil,Nat.reduceAdd,Nat.reduceSub,Array.replicate_succ,Array.replicate_zero,List.push_toArray,List.append_toArray,List.nil_append,List.cons_append]
 gi_wp2
 gi_loopw [3] (fun i wr=>∃k:Nat,k≤zs.length∧i= .int .i64 ((zs.length:Int)-1-(k:Int))∧J (L.take k) wr∧EJ B M W wr)
  (fun i _=>(intOf i+1).toNat)
 case atStart=>exact⟨0,Nat.zero_le _,by simp,h0,fun _ _ _=>rfl⟩
 case round=>
  obtain⟨k,hk,rfl,hJs,hnx⟩:=hrel
  have hBs' :wr.cell? ⟨Bs,0,none⟩=some (.slice (some ⟨b,off,none⟩) zs.length cap):=by rw[←hBs];simp only[World.cell?,hnx Bs hbs.1 hbs.2]
  have hcx:∀j,j<zs.length→wr.cell? ⟨b,off+j,none⟩=some (.int .i64 (zs[j]?.getD 0)):=fun j h=>by rw[←hc j h];simp only[World.cell?,hnx b hb.1 hb.2]
  by_cases hlt:k<zs.length
  ·obtain⟨j,hj⟩:∃j:Nat,j+1+k=zs.length:=⟨zs.length-1-k,by omega⟩
   have hjk:zs.length-1-k=j:=by omega
   have hji:(zs.length:Int)-1-(k:Int)=(j:Int):=by omega
   obtain⟨x,hx⟩:∃x,L[k]? =some x:=⟨_,List.getElem?_eq_getElem (by omega)⟩
   have htk:L.take (k+1)=L.take k++[x]:=by rw[List.take_add_one,hx];rfl
   obtain⟨fn,tmps,assign,body,hy,hR⟩:=hY _ x wr hJs (by rw[List.length_take];omega)
   rw[henc k x hx,hjk]at hy
   have hcx' :=hcx j (by omega)
   obtain⟨z,hz⟩:∃z,zs[j]?.getD 0=z:=⟨_,rfl⟩
   rw[hz]at hcx' hy
   clear hcx hz hc
   rw[hji]
   have hge:¬((j:Int)<0):=by omega
   have hjl:j<zs.length:=by omega
   gi_wp2
   refine hR.mono ?_
   rintro e W3 (⟨rfl,hJ3,hk3⟩|⟨rfl,hJx3⟩)
   ·gi_wp2
    go_roundw
    case rel=>exact⟨k+1,by omega,by congr 1 <;> omega,by rw[htk];exact hJ3,fun q h1 h2=>(hk3 q h1 h2).trans (hnx q h1 h2)⟩
    case measure=>simp[intOf] <;> omega
   ·gi_wp2
    refine bodyPost_ret (results_none rfl _ _ _) rfl ?_
    exact⟨⟨_,rfl⟩,.inr ⟨_,by rw[←htk];exact List.take_prefix _ _,hJx3⟩⟩
  ·obtain rfl:k=zs.length:=by omega
   have hge:¬((zs.length:Int)-1-(zs.length:Int)≥0):=by omega
   gi_wp2
   go_end0
   exact⟨⟨_,rfl⟩,.inl (by rw[←hL,List.take_length]at hJs;exact hJs)⟩
set_option maxRecDepth 100000 in
set_option maxHeartbeats 4000000 in
theorem sw(F:Fence)(n:Nat)(h7:F.fn 297)(hro:F.round=none)(l Bs cap:Nat)(A:Option Addr)(J:World→Prop)
  (W:World) (hBs:W.cell? ⟨Bs,0,none⟩=some (.slice A 0 cap)) (h0:J W):
  CallsIn F n Tryz.prog 297 #[.func (.yield l) #[] #[],.pointer (some ⟨Bs,0,none⟩)] W fun e W' =>(∃v,e= .returned v)∧J W' :=by
 refine callsIn_of_wp Tryz.func297 rfl h7 ?_ hro
 simp only[Tryz.ntmps297,List.size_toArray,List.length_cons,List.length_nil,Nat.reduceAdd,Nat.reduceSub,Array.replicate_succ,Array.replicate_zero,List.push_toArray,List.append_toArray,List.nil_append,List.cons_append]
 gi_wp2
 gi_loopw [3] (fun i wr=>i= .int .i64 (-1)∧J wr) (fun _ _=>0)
 case atStart=>exact⟨by simp,h0⟩
 case round=>
  obtain⟨rfl,hJs⟩:=hrel
  gi_wp2
  go_end0
  exact⟨⟨_,rfl⟩,hJs⟩
theorem oX(F:Fence)(n:Nat)(h7:F.fn 297)(hro:F.round=none)(hn:1≤n){w:World}{Bs e:Nat}{v:Value}{zs:List Int}{M:Nat→Prop}{α:Type}(L:List α)(encs:α→List Value)(hL:L.length=zs.length)(henc:∀(k:Nat) (x:α),L[k]? =some x→encs x=[.int .i64 ((zs.length-1-k:Nat):Int),.int .i64 (zs[zs.length-1-k]?.getD 0)])(hreach:zs.length*8≤140737488351232)
  (hBs:w.cell? ⟨Bs,0,none⟩=some v) (hMB:¬M Bs) (h:Go.Eng.Own w 0 e 1 v zs.length (zs.map (Value.int .i64))) (hMA:∀k,iH v k→¬M k):
  SeqStopsK F n Tryz.prog 297 #[.pointer (some ⟨Bs,0,none⟩)] (fun x=>(encs x).toArray) (EJ w.heap.size M) (fun ys=>ys=L) (fun pre=>pre<+:L) L.length w:=by
 intro l J Jx W hW _ _ hY h0
 have hlt:=lH hBs
 have hc' :W.cell? ⟨Bs,0,none⟩=some v:=(hW.cell (p:=⟨Bs,0,none⟩) hlt).trans hBs
 obtain⟨hl,⟨rfl,hz⟩|⟨g,o,cap,cur,rfl,_,hb,hcap,hml,hcl,hx⟩⟩:=h
 ·have hL0:L=[]:=List.eq_nil_of_length_eq_zero (by omega)
  subst hL0
  exact(sw F n h7 hro l Bs 0 none (J []) W hc' h0).mono fun e W' ⟨he,hj⟩=>⟨he,.inl ⟨_,rfl,hj⟩⟩
 ·by_cases hz:zs.length=0
  ·have hL0:L=[]:=List.eq_nil_of_length_eq_zero (by omega)
   subst hL0
   rw[hz]at hc'
   exact(sw F n h7 hro l Bs cap _ (J []) W hc' h0).mono fun e W' ⟨he,hj⟩=>⟨he,.inl ⟨_,rfl,hj⟩⟩
  ·have hcs:∀j,j<zs.length→W.cell? ⟨g,o+j,none⟩=some (.int .i64 (zs[j]?.getD 0)):=fun j hj=>by
    refine(hW.cell (p:=⟨g,o+j,none⟩) hb.lt).trans (hb.cell ?_)
    have h1:((cur.drop o).take (zs.length*1))[j]? =(zs.map (Value.int .i64))[j]? :=by rw[hx]
    rw[List.getElem?_take,if_pos (by omega),List.getElem?_drop,List.getElem?_map,List.getElem?_eq_getElem hj]at h1
    rw[h1,List.getElem?_eq_getElem hj]
    rfl
   have hsz:=hW.size
   have:=yP F n h7 hro hn l Bs w.heap.size g o cap M zs L encs hL henc hreach ⟨hlt,hMB⟩ ⟨hb.lt,hMA g rfl⟩ J Jx hY W hc' hcs h0
   refine this.mono ?_
   rintro e W' ⟨he,⟨ys,rfl,hj⟩|⟨pre,hp,hj⟩⟩
   ·exact⟨he,.inl ⟨_,rfl,hj⟩⟩
   ·exact⟨he,.inr ⟨_,hp,hj⟩⟩
end Go.Proofs.YtmibdabdlgmafaaGreatDoor
end
section
set_option maxRecDepth 20000
set_option maxHeartbeats 2000000
namespace Go.Proofs.YtmibdabdlgmafaaGreatDoor
open Go.Eng Go.Hx
def eH(zs:List Nat)(i:Nat)(h:∀z∈zs,z<i):List {x:Nat×Nat//x.2<i}:=(zs.attach.zipIdx.map fun x=>(⟨(x.2,x.1.1),h _ x.1.2⟩:{x:Nat×Nat//x.2<i})).reverse
theorem gZ(zs:List Nat)(i:Nat)(h:∀z∈zs,z<i):(eH zs i h).length=zs.length:=by simp[eH]
theorem nt(zs:List Nat)(i:Nat)(h:∀z∈zs,z<i):(eH zs i h).map (fun x=>x.1.2)=zs.reverse:=by
 unfold eH
 rw[List.map_reverse,List.map_map]
 congr 1
 apply List.ext_getElem
 ·simp
 ·intro j h1 h2
  simp
theorem sy(zs:List Nat)(i:Nat)(h:∀z∈zs,z<i)(k:Nat)(x:{x:Nat×Nat//x.2<i})(hx:(eH zs i h)[k]? =some x):k<zs.length∧x.1.1=zs.length-1-k∧zs[zs.length-1-k]? =some x.1.2:=by
 have hk:k<zs.length:=by rw[←gZ zs i h];exact(List.getElem?_eq_some_iff.1 hx).1
 unfold eH at hx
 rw[List.getElem?_reverse (by simpa using hk)]at hx
 simp only[List.length_map,List.length_zipIdx,List.length_attach,List.getElem?_map,List.getElem?_zipIdx,Nat.zero_add]at hx
 have hlt:zs.length-1-k<zs.attach.length:=by simp;omega
 rw[List.getElem?_eq_getElem hlt]at hx
 simp only[Option.map_some,Option.some.injEq]at hx
 subst hx
 refine⟨hk,rfl, ?_⟩
 rw[List.getElem?_eq_getElem (by simpa using hlt)]
 simp
theorem lh(f:Nat×Nat→Nat→Nat×Nat)(s:Nat×Nat)(i:Nat)(L:List {x:Nat×Nat//x.2<i}):L.foldl (fun s x=>f s x.1.2) s=(L.map (fun x=>x.1.2)).foldl f s:=by rw[List.foldl_map]
theorem oS{l:List UInt8}{i:Nat}{zs:List Nat}(hz:zs=kC l i (ei l i))(hi:i+4≤l.length)(h:∀z∈zs,z<i){s:Nat×Nat}
  (hs:s=(eH zs i h).foldl (fun s x=>fG l i s x.1.2) (0,0)∨∃pre x rest,eH zs i h=pre++x::rest∧s=pre.foldl (fun s x=>fG l i s x.1.2) (0,0)∧1024<i-x.1.2):s=aV l i:=by
 subst hz
 rcases hs with rfl|⟨pre,x,rest,e,rfl,hb⟩
 ·rw[lh,nt,tD hi]
 ·have e2:=congrArg (List.map fun x=>x.1.2) e
  rw[nt,List.map_append,List.map_cons]at e2
  rw[lh,←tD hi]
  exact(wL e2 hb).symm
def lq(l:List Nat):List Int:=l.map fun n:Nat=>(n:Int)
theorem eJ(l:List Nat):(lq l).length=l.length:=List.length_map ..
theorem zS{w:World}{e:TypeId}{v:Value}{l:List Nat}(h:Go.Eng.Own w 0 e 1 v l.length (BH l)):Go.Eng.Own w 0 e 1 v (lq l).length ((lq l).map (Value.int .i64)):=by
 rw[eJ]
 unfold lq
 rw[List.map_map]
 exact h
theorem Ev{es:ug}{j:Nat}{x:kl}(h:(fF es)[j]? =some x.res):(x.res::(fF es).eraseIdx j).Perm (fF es):=by
 obtain⟨h1,h2⟩:=List.getElem?_eq_some_iff.1 h
 have:=fV (fF es) j h1
 rwa [h2]at this
theorem Ct{A:Option Addr}{n c:Nat}:cf Tryz.prog 271 [.slice A n c] [] [] (fun v_ X_ S_=>∃gB,v_=(.func (.func 297) #[] #[.pointer (some ⟨gB,0,none⟩)])∧X_=[aI gB 44 [.slice A n c]]∧S_=[]):=by
 refine aP (N:=4) Tryz.func271 rfl rfl (by simp) fun b=> ?_
 refine ah<|aj<| ?_
 refine hx (cy rfl (fun g1=> ?_))
 refine hy (fun _=>ab rfl)<|ai<|ak (X' :=[_]) (S' :=[]) (fun _ m=>m)<|ag<|ah<|aj<|hy (fun _=>j3 rfl rfl)<|hy (fun _=>ab rfl)<|ai<|al (ρ' :=[(2,_),(1,_),(0,_)]) ⟨rfl,rfl,rfl,trivial⟩<|ag<|aU<| ?_
 refine ak (fun w m=>m.bO 0 rfl (show _=aI g1 44 [.slice A n c]from rfl)) ?_
 exact bc trivial rfl rfl [0] rfl [] rfl ⟨_,rfl,rfl,rfl⟩
theorem Fx{A:Option Addr}{n c:Nat}:cf Tryz.prog 229 [.slice A n c] [] [] (fun v_ X_ S_=>∃g gm,v_=(.pointer (some ⟨g,0,none⟩))∧X_=[mV g gm A n c 0 []]∧S_=[]):=by
 refine aP (N:=7) Tryz.func229 rfl rfl (by simp) fun b=> ?_
 refine ah<|aj<|hy (fun _=>ab rfl)<|ai<|ag<|ah<|aj<|hy (fun _=>aa rfl)<| ?_
 refine hx (mg (KN (n:=4)) (fun g4=> ?_))
 refine hy (fun _=>cn EN rfl rfl (by kernel_rfl) (.cons (o:=0) (sz:=1) (by kernel_rfl) rfl rfl (Nat.le_of_ble_eq_true rfl) (.cons (o:=1) (sz:=1) (by kernel_rfl) rfl rfl (Nat.le_of_ble_eq_true rfl) .nil)))<| ?_
 refine hx (cy rfl (fun g6=> ?_))
 refine hy (fun _=>ab rfl)<|ai<|al (ρ' :=[(2,_),(0,_)]) ⟨rfl,rfl,trivial⟩<|ak (X' :=[_,_]) (S' :=[]) (fun _ m=>m)<|ag<|aU<| ?_
 refine ak (fun w m=>m.BZ) ?_
 refine ak (fun w m=>m.bO 1 rfl (show _=aI g6 359 [.slice A n c,.map (some g4),.int .i64 ((0:Nat):Int)]from rfl)) ?_
 refine ak (X' :=mV g6 g4 A n c 0 []::_) (fun w m=>(m.perm (ar [0,1,0] _ [_,_,_] _ rfl)).pack) ?_
 exact bc trivial rfl rfl [0] rfl [] rfl ⟨_,_,rfl,rfl,rfl⟩
theorem yZ(zs:List Nat)(i:Nat)(h:∀z∈zs,z<i)(k:Nat)(x:{x:Nat×Nat//x.2<i})(hx:(eH zs i h)[k]? =some x):[Value.int .i64 (x.1.1:Nat),.int .i64 (x.1.2:Nat)]=[.int .i64 (((lq zs).length-1-k:Nat):Int),.int .i64 ((lq zs)[(lq zs).length-1-k]?.getD 0)]:=by
 obtain⟨h1,h2,h3⟩:=sy zs i h k x hx
 rw[eJ]
 unfold lq
 rw[List.getElem?_map,h3,h2]
 rfl
theorem CQ{g gm:Nat}{A:Option Addr}{n c p i:Nat}{l:List UInt8}{es:ug}(hc:n≤c)(hn:n≤1000000000)(hl:l.length=n)(hpi:p≤i)(hi:i≤n)(hF:xO l p es):cf Tryz.prog 231 [.pointer (some ⟨g,0,none⟩),.int .i64 (i:Nat)] [mV g gm A n c p es] [c6 1 A n (aQ l)] (fun v_ X_ S_=>∃p1 es1,v_=(.tuple #[.int .i64 ((aV l i).1:Nat),.int .i64 ((aV l i).2:Nat)])∧X_=[mV g gm A n c p1 es1]∧S_=[]∧(p1≤i∧xO l p1 es1)):=by
 refine Cl (N:=60) Tryz.func231 rfl rfl (by simp) fun b=> ?_
 refine aZ (fun m=>gz (m.rd 0 rfl)) ?_
 rintro⟨hl_r,hA_r⟩
 refine bB (fun w m=>(m.perm (ar [0] _ [_] _ rfl)).unpack) ?_
 refine ah<|aj<| ?_
 refine hx (cy rfl (fun g2=> ?_))
 refine hx (cy rfl (fun g3=> ?_))
 refine hy (fun _=>ab rfl)<|hy (fun _=>ab rfl)<|ai<|ak (X' :=[_,_,_,_,_]) (S' :=[_]) (fun _ m=>m)<|ag<|ah<|ah<|cN [] [(0,some 0),(1,some 0),(2,some 0),(3,some 0),(4,some 0),(5,some 0),(6,some 0),(7,some 0)] (by kernel_rfl) (by kernel_rfl) rfl 99<|b6 (fun m=>aw rfl fE (aA (m.aY 0 rfl) rfl))<|an (aM rfl rfl (bD (by omega) (by omega)))<|b6 (fun m=>aw rfl nT (aA (m.aY 1 rfl) rfl))<|an (bh rfl)<|an (aL rfl jA (by decide))<|b6 (fun m=>aw rfl dX (aA (m.aY 2 rfl) rfl))<|an (aX rfl Tryz.underlying27)<|an (cR rfl rfl)<|bz<|al (ρ' :=[(18,_),(5,_),(4,_),(3,_),(2,_),(0,_),(1,_)]) ⟨rfl,rfl,rfl,rfl,rfl,rfl,rfl,trivial⟩<|ag<| ?_
 refine cD rfl (fun h1=> ?_) (fun h1=> ?_)
 ·have e:=sV (b:=l) (i:=i) (by omega) (by omega)
  rw[e]
  refine ah<|aj<|hy (fun _=>ab rfl)<|hy (fun _=>ab rfl)<|ai<|ag<|aU<|ax<| ?_
  refine ak (X' :=mV g gm A n c p es::_) (fun w m=>(m.perm (ar [2,2,2] _ [_,_,_] _ rfl)).pack) ?_
  exact uX trivial rfl rfl rfl [0] rfl [] rfl ⟨p,es,rfl,rfl,rfl,⟨hpi,hF⟩⟩
 ·have hi4:i+4≤n:=by omega
  refine aD<|ag<|ah<| ?_
  refine bB (X' :=mV g gm A n c p es::_) (fun w m=>(m.perm (ar [2,2,2] _ [_,_,_] _ rfl)).pack) ?_
  refine aj<|hy (fun m=>aw rfl nT (aA (m.aY 2 rfl) rfl))<|hy (fun m=>aw rfl fE (aA (m.aY 1 rfl) rfl))<| ?_
  refine hx (aq rfl Tryz.call270 (ES (by omega) (by omega) hl (by omega) (by omega) hF) [0] rfl [0] rfl ?_)
  rintro _ _ _ ⟨es1,rfl,rfl,rfl,hp⟩
  have hF1:=hp
  refine ai<|al (ρ' :=[(18,_),(5,_),(4,_),(3,_),(2,_),(0,_),(1,_)]) ⟨rfl,rfl,rfl,rfl,rfl,rfl,rfl,trivial⟩<|ak (X' :=[_,_,_]) (S' :=[_]) (fun _ m=>m)<|ag<|ah<|aj<| ?_
  refine hx (aN Dy (fun g6=> ?_))
  refine hx (aN Dy (fun g7=> ?_))
  refine cI (dI 1 rfl rfl rfl tW rfl (by first|exact Nat.le_of_ble_eq_true rfl|simp) ?_)
  refine cI (dI 1 rfl rfl rfl tW rfl (by first|exact Nat.le_of_ble_eq_true rfl|simp) ?_)
  refine ai<|ak (X' :=[_,_,_,_,_]) (S' :=[_]) (fun _ m=>m)<|ag<|ah<|ah<| ?_
  refine bB (fun w m=>(m.perm (ar [2] _ [_] _ rfl)).unpack) ?_
  refine aZ (fun m=>(m.rd 0 rfl).some (by omega)) fun h_=> ?_
  obtain⟨a,rfl⟩:∃a_,A=some a_:=⟨_,h_⟩
  clear h_
  rcases hq:b4 es1 ⟨ei l i,bC (by omega)⟩with _|x
  ·have e0:=qh hF1 hq
   refine cN [15] [(0,some 1),(1,some 0),(2,some 0),(3,some 0),(4,some 1),(5,some 1),(6,some 1),(7,some 1),(8,some 1),(9,some 1),(10,some 1),(11,some 0),(12,some 0),(13,some 0),(14,some 0),(15,none)] (by kernel_rfl) (by kernel_rfl) rfl 99<|b6 (fun m=>aw rfl nT (aA (m.aY 6 rfl) rfl))<|an (bh rfl)<|an (aL rfl sa (by decide))<|b6 (fun m=>aw rfl y5 (aA (m.aY 0 rfl) rfl))<|b6 (fun m=>aw rfl nT (aA (m.aY 6 rfl) rfl))<|an (bh rfl)<|an (aL rfl jA (by decide))<|b6 (fun m=>aw rfl dX (aA (m.aY 0 rfl) rfl))<|b6 (fun m=>aw rfl fE (aA (m.aY 5 rfl) rfl))<|b6 (fun m=>aw rfl fE (aA (m.aY 5 rfl) rfl))<|an (aM rfl rfl (bD (by omega) (by omega)))<|an (yV (ey rfl rfl rfl Tryz.underlying27 dZ rfl (show((i+4:Nat):Int)=_ by omega) (by omega) (by omega)) ((show Value.slice (if c=i then some a else(some a).map (·.add (i*1))) (i+4-i) (c-i)= .slice (some (a.add i)) 4 (c-i) by rw[if_neg (by omega),Nat.mul_one,Nat.add_sub_cancel_left];rfl)))<|an (oq rfl Tryz.underlying364 (by omega))<|b6 (fun m=>yV (a6 rfl vr sT (by rw[az];exact bC (by omega)) (Rd.part (m.rd 0 rfl))) ((show Value.agg (aQ ((l.drop i).take 4)).toArray=KN ⟨ei l i,bC (by omega)⟩from rfl)))<|b6 (fun m=>yV (jV (enc:=(KN (n:=4))) (k:=⟨ei l i,bC (by omega)⟩) rfl rfl Tryz.underlying357 Dr (yM Tryz.underlying364 Tryz.underlying5 (by kernel_rfl) (by kernel_rfl) (by kernel_rfl)) (m.pM 1 rfl)) ((show gE false (.slice none 0 0) (b4 (jf es1) ⟨ei l i,bC (by omega)⟩)= .slice none 0 0 by rw[kO,hq];rfl)))<| ?_
   refine dT (aq rfl Tryz.call271 (Ct) [] rfl [] rfl ?_)
   rintro _ _ _ ⟨gB,rfl,rfl,rfl⟩
   refine⟨(fun _=>wk [1,1,1,1,1,1,1] [0] rfl rfl), ?_⟩
   refine bz<|al (ρ' :=[(37,_),(7,_),(6,_),(18,_),(5,_),(4,_),(3,_),(2,_),(0,_),(1,_)]) ⟨rfl,rfl,rfl,rfl,rfl,rfl,rfl,rfl,rfl,rfl,trivial⟩<|ak (X' :=[_,_,_,_,_,_,_,_]) (S' :=[_]) (fun _ m=>m)<|ag<| ?_
   have hlt:∀z∈([]:List Nat),z<i:=fun z hz=>by cases hz
   refine Am (σ:=Nat×Nat) (α:={x:Nat×Nat//x.2<i}) (ρ' :=[]) (fun s_:Nat×Nat=>[aI g6 3 [.int .i64 (s_.1:Nat)],aI g7 3 [.int .i64 (s_.2:Nat)],aI g3 3 [.int .i64 (i:Nat)],aI g2 322 [.pointer (some ⟨g,0,none⟩)],aI g 359 [.slice (some a) n c,.map (some gm),.int .i64 (i:Nat)]]) (0,0) (fun s_ x_=>fG l i s_ x_.1.2) (fun s_ x_=>1024<i-x_.1.2) (fun x_=>[.int .i64 (x_.1.1:Nat),.int .i64 (x_.1.2:Nat)]) (eH (([]:List Nat)) i hlt) (fun x_=>[(9,.int .i64 (x_.1.2:Nat))]) [(37,_),(7,_),(6,_),(18,_),(5,_),(4,_),(3,_),(2,_),(0,_),(1,_)] ⟨rfl,rfl,rfl,rfl,rfl,rfl,rfl,rfl,rfl,rfl,trivial⟩ rfl Tryz.call297 [5,4,4,4,1] rfl (fun s_ k_=>by simp[dp,aI]) [0] rfl (fun w m=>oX Fence.wide 2 trivial rfl (by decide) (zs:=lq (([]:List Nat))) (e:=3) (eH (([]:List Nat)) i hlt) (fun x_=>[.int .i64 (x_.1.1:Nat),.int .i64 (x_.1.2:Nat)]) (by rw[gZ,eJ]) (yZ _ _ _) (by rw[eJ];first|omega|simp) (aA (m.aY 0 rfl) rfl) (m.off (is:=[5,4,4,4,1]) rfl 0 rfl rfl) (Go.Eng.Own.nil _ _ _ _) (fun k hk=>hk.elim)) (fun _=>rfl) (by decide) (fun _ _ ha_=>zi rfl (by decide) (by decide) ha_) (fun l_ b_ s_ x_ Q_ h_=> ?_) (fun l_ b s_ x_=> ?_) (fun Dk_ s_ hs_=> ?_)
   ·exact qd (hy (fun _=>ab rfl) ((ai (by refine al ?_ h_;exact⟨rfl,rfl,rfl,rfl,rfl,rfl,rfl,rfl,rfl,rfl,rfl,trivial⟩))))
   ·obtain⟨u1,u2⟩:=s_
    obtain⟨⟨j,q⟩,hq2⟩:=x_
    try dsimp only
    have hq2:q<i:=hq2
    refine vZ<|nF<|nF<|qd<|hy (fun m=>aw rfl fE (aA (m.aY 2 rfl) rfl))<|hy (fun _=>aa rfl)<|hy (fun _=>ck rfl rfl (bD (by omega) (by omega)))<|hy (fun _=>cR rfl rfl)<|ai<|al (ρ' :=[(43,_),(9,_),(37,_),(7,_),(6,_),(18,_),(5,_),(4,_),(3,_),(2,_),(0,_),(1,_)]) ⟨rfl,rfl,rfl,rfl,rfl,rfl,rfl,rfl,rfl,rfl,rfl,rfl,trivial⟩<|kv<| ?_
    refine Bv rfl (fun hb=> ?_) (fun hb=> ?_)
    ·refine zA<|ao<|lp (by decide)<| ?_
     exact qV [0,0,0,0,0] rfl [0] rfl ((show 1024<i-q by omega))
    ·refine oe<|kv<|nF<|CJ [6] [(0,some 0),(1,some 0),(2,some 0),(3,some 0),(4,some 0),(5,some 0),(6,none),(7,some 1)] (by kernel_rfl) (by kernel_rfl) rfl 99<|b6 (fun m=>aw rfl nT (aA (m.aY 3 rfl) rfl))<|an (bh rfl)<|an (aL rfl jA (by decide))<|b6 (fun m=>aw rfl dX (aA (m.aY 4 rfl) rfl))<|b6 (fun m=>aw rfl fE (aA (m.aY 2 rfl) rfl))<|an (aa rfl)<| ?_
     refine dT (aq rfl Tryz.call272 (Cy (by omega) hl (by omega) (by omega)) [] rfl [0] rfl ?_)
     rintro _ _ _ ⟨rfl,rfl,rfl⟩
     refine⟨(fun _=>wk [0,0,0,0,0] [0] rfl rfl), ?_⟩
     refine an (ab rfl)<|bz<|al (ρ' :=[(10,_),(43,_),(9,_),(37,_),(7,_),(6,_),(18,_),(5,_),(4,_),(3,_),(2,_),(0,_),(1,_)]) ⟨rfl,rfl,rfl,rfl,rfl,rfl,rfl,rfl,rfl,rfl,rfl,rfl,rfl,trivial⟩<|ak (X' :=[_,_,_,_,_]) (S' :=[_]) (fun _ m=>m)<|kv<|nF<|qd<|hy (fun _=>aa rfl)<|hy (fun m=>aw rfl fE (aA (m.aY 0 rfl) rfl))<|hy (fun _=>cR rfl rfl)<|ai<|al (ρ' :=[(53,_),(10,_),(43,_),(9,_),(37,_),(7,_),(6,_),(18,_),(5,_),(4,_),(3,_),(2,_),(0,_),(1,_)]) ⟨rfl,rfl,rfl,rfl,rfl,rfl,rfl,rfl,rfl,rfl,rfl,rfl,rfl,rfl,trivial⟩<|kv<| ?_
     refine Bv rfl (fun hx1=> ?_) (fun hx1=> ?_)
     ·refine zZ [2,2,2] [0] rfl rfl [4,5] [(0,some 0),(1,some 1),(2,some 1),(3,some 1),(4,none),(5,none)] (by kernel_rfl) (by kernel_rfl) rfl 99<|an (aa rfl)<|b6 (fun m=>aw rfl fE (aA (m.aY 0 rfl) rfl))<|an (aa rfl)<|an (yV (ck rfl rfl (bD (by omega) (by omega))) ((show Value.int .i64 ((i:Int)-(q:Int))= .int .i64 ((i-q:Nat):Int) by congr 1;omega)))<| ?_
      refine j5 (dI 0 rfl rfl rfl tW rfl (by first|exact Nat.le_of_ble_eq_true rfl|simp) ⟨(fun _=>wk [2,2,2] [0] rfl rfl), ?_⟩)
      refine j5 (dI 1 rfl rfl rfl tW rfl (by first|exact Nat.le_of_ble_eq_true rfl|simp) ⟨(fun _=>wk [2,2,2] [0] rfl rfl), ?_⟩)
      refine bz<|al (ρ' :=[(53,_),(10,_),(43,_),(9,_),(37,_),(7,_),(6,_),(18,_),(5,_),(4,_),(3,_),(2,_),(0,_),(1,_)]) ⟨rfl,rfl,rfl,rfl,rfl,rfl,rfl,rfl,rfl,rfl,rfl,rfl,rfl,rfl,trivial⟩<|ak (X' :=[_,_,_,_,_]) (S' :=[_]) (fun _ m=>m)<|aT<| ?_
      exact kG (lD l i q,i-q) (by show fG l i (u1,u2) q=_;unfold fG;rw[if_neg (by omega),if_pos (by show u1<_;omega)]) [1,0,0,0,0] rfl [0] rfl
     ·refine oe<|aT<| ?_
      exact kG (u1,u2) (by show fG l i (u1,u2) q=_;unfold fG;rw[if_neg (by omega),if_neg (by show¬u1<_;omega)]) [0,0,0,0,0] rfl [0] rfl
   ·obtain⟨u1,u2⟩:=s_
    have ai:=oS e0.symm (by omega) hlt hs_
    have hu1:u1=(aV l i).1:=congrArg Prod.fst ai
    have hu2:u2=(aV l i).2:=congrArg Prod.snd ai
    refine ag<|ah<|cN [] [(0,some 0),(1,some 0),(2,some 0),(3,some 0)] (by kernel_rfl) (by kernel_rfl) rfl 99<|b6 (fun m=>aw rfl fE (aA (m.aY 1 rfl) rfl))<|b6 (fun m=>aw rfl fE (aA (m.aY 2 rfl) rfl))<|an (ab rfl)<|an (ab rfl)<|bz<|al (ρ' :=[(5,_),(4,_),(37,_),(7,_),(6,_),(18,_),(3,_),(2,_),(0,_),(1,_)]) ⟨rfl,rfl,rfl,rfl,rfl,rfl,rfl,rfl,rfl,rfl,trivial⟩<|ag<|aU<| ?_
    refine EP trivial [0] rfl ?_
    skip
    refine ak (X' :=mV g gm (some a) n c i es1::_) (fun w m=>(m.perm (ar [4,5,5] _ [_,_,_] _ rfl)).pack) ?_
    exact uX trivial rfl rfl rfl [0] rfl [] rfl ⟨i,es1,(by rw[←hu1,←hu2]),rfl,rfl,⟨Nat.le_refl _,hF1⟩⟩
  ·have e0:=tw hF1 hq
   refine cN [15] [(0,some 1),(1,some 0),(2,some 0),(3,some 0),(4,some 1),(5,some 1),(6,some 1),(7,some 1),(8,some 1),(9,some 1),(10,some 1),(11,some 0),(12,some 0),(13,some 0),(14,some 0),(15,none)] (by kernel_rfl) (by kernel_rfl) rfl 99<|b6 (fun m=>aw rfl nT (aA (m.aY 6 rfl) rfl))<|an (bh rfl)<|an (aL rfl sa (by decide))<|b6 (fun m=>aw rfl y5 (aA (m.aY 0 rfl) rfl))<|b6 (fun m=>aw rfl nT (aA (m.aY 6 rfl) rfl))<|an (bh rfl)<|an (aL rfl jA (by decide))<|b6 (fun m=>aw rfl dX (aA (m.aY 0 rfl) rfl))<|b6 (fun m=>aw rfl fE (aA (m.aY 5 rfl) rfl))<|b6 (fun m=>aw rfl fE (aA (m.aY 5 rfl) rfl))<|an (aM rfl rfl (bD (by omega) (by omega)))<|an (yV (ey rfl rfl rfl Tryz.underlying27 dZ rfl (show((i+4:Nat):Int)=_ by omega) (by omega) (by omega)) ((show Value.slice (if c=i then some a else(some a).map (·.add (i*1))) (i+4-i) (c-i)= .slice (some (a.add i)) 4 (c-i) by rw[if_neg (by omega),Nat.mul_one,Nat.add_sub_cancel_left];rfl)))<|an (oq rfl Tryz.underlying364 (by omega))<|b6 (fun m=>yV (a6 rfl vr sT (by rw[az];exact bC (by omega)) (Rd.part (m.rd 0 rfl))) ((show Value.agg (aQ ((l.drop i).take 4)).toArray=KN ⟨ei l i,bC (by omega)⟩from rfl)))<|b6 (fun m=>yV (jV (enc:=(KN (n:=4))) (k:=⟨ei l i,bC (by omega)⟩) rfl rfl Tryz.underlying357 Dr (yM Tryz.underlying364 Tryz.underlying5 (by kernel_rfl) (by kernel_rfl) (by kernel_rfl)) (m.pM 1 rfl)) ((show gE false (.slice none 0 0) (b4 (jf es1) ⟨ei l i,bC (by omega)⟩)= .slice x.A x.l.length x.c by rw[kO,hq];rfl)))<| ?_
   refine dT (aq rfl Tryz.call271 (Ct) [] rfl [] rfl ?_)
   rintro _ _ _ ⟨gB,rfl,rfl,rfl⟩
   refine⟨(fun _=>wk [1,1,1,1,1,1,1] [0] rfl rfl), ?_⟩
   refine bz<|al (ρ' :=[(37,_),(7,_),(6,_),(18,_),(5,_),(4,_),(3,_),(2,_),(0,_),(1,_)]) ⟨rfl,rfl,rfl,rfl,rfl,rfl,rfl,rfl,rfl,rfl,trivial⟩<|ak (X' :=[_,_,_,_,_,_,_,_]) (S' :=[_]) (fun _ m=>m)<|ag<| ?_
   have hlt:∀z∈x.l,z<i:=fun z hz=>(Bz (e0▸hz)).1
   have hxl:x.l.length≤n:=by rw[e0];exact Nat.le_trans (nu _ _ _) (by omega)
   obtain⟨j,hj1,_⟩:=kh hq
   refine bB (X' :=aG 3 1 (.slice x.A x.l.length x.c) x.l.length (BH x.l)::_) (fun w m=>(m.perm (ar [3] _ [_] _ rfl)).sU j hj1) ?_
   refine Am (σ:=Nat×Nat) (α:={x:Nat×Nat//x.2<i}) (ρ' :=[]) (fun s_:Nat×Nat=>[aI g6 3 [.int .i64 (s_.1:Nat)],aI g7 3 [.int .i64 (s_.2:Nat)],aI g3 3 [.int .i64 (i:Nat)],aI g2 322 [.pointer (some ⟨g,0,none⟩)],aI g 359 [.slice (some a) n c,.map (some gm),.int .i64 (i:Nat)]]) (0,0) (fun s_ x_=>fG l i s_ x_.1.2) (fun s_ x_=>1024<i-x_.1.2) (fun x_=>[.int .i64 (x_.1.1:Nat),.int .i64 (x_.1.2:Nat)]) (eH (x.l) i hlt) (fun x_=>[(9,.int .i64 (x_.1.2:Nat))]) [(37,_),(7,_),(6,_),(18,_),(5,_),(4,_),(3,_),(2,_),(0,_),(1,_)] ⟨rfl,rfl,rfl,rfl,rfl,rfl,rfl,rfl,rfl,rfl,trivial⟩ rfl Tryz.call297 [6,5,5,5,3] rfl (fun s_ k_=>by simp[dp,aI]) [0] rfl (fun w m=>oX Fence.wide 2 trivial rfl (by decide) (zs:=lq (x.l)) (e:=3) (eH (x.l) i hlt) (fun x_=>[.int .i64 (x_.1.1:Nat),.int .i64 (x_.1.2:Nat)]) (by rw[gZ,eJ]) (yZ _ _ _) (by rw[eJ];first|omega|simp) (aA (m.aY 2 rfl) rfl) (m.off (is:=[6,5,5,5,3]) rfl 2 rfl rfl) (zS (m.own 0 rfl)) (fun k hk=>m.off (is:=[6,5,5,5,3]) rfl 0 rfl hk)) (fun _=>rfl) (by decide) (fun _ _ ha_=>zi rfl (by decide) (by decide) ha_) (fun l_ b_ s_ x_ Q_ h_=> ?_) (fun l_ b s_ x_=> ?_) (fun Dk_ s_ hs_=> ?_)
   ·exact qd (hy (fun _=>ab rfl) ((ai (by refine al ?_ h_;exact⟨rfl,rfl,rfl,rfl,rfl,rfl,rfl,rfl,rfl,rfl,rfl,trivial⟩))))
   ·obtain⟨u1,u2⟩:=s_
    obtain⟨⟨j,q⟩,hq2⟩:=x_
    try dsimp only
    have hq2:q<i:=hq2
    refine vZ<|nF<|nF<|qd<|hy (fun m=>aw rfl fE (aA (m.aY 2 rfl) rfl))<|hy (fun _=>aa rfl)<|hy (fun _=>ck rfl rfl (bD (by omega) (by omega)))<|hy (fun _=>cR rfl rfl)<|ai<|al (ρ' :=[(43,_),(9,_),(37,_),(7,_),(6,_),(18,_),(5,_),(4,_),(3,_),(2,_),(0,_),(1,_)]) ⟨rfl,rfl,rfl,rfl,rfl,rfl,rfl,rfl,rfl,rfl,rfl,rfl,trivial⟩<|kv<| ?_
    refine Bv rfl (fun hb=> ?_) (fun hb=> ?_)
    ·refine zA<|ao<|lp (by decide)<| ?_
     exact qV [0,0,0,0,0] rfl [0] rfl ((show 1024<i-q by omega))
    ·refine oe<|kv<|nF<|CJ [6] [(0,some 0),(1,some 0),(2,some 0),(3,some 0),(4,some 0),(5,some 0),(6,none),(7,some 1)] (by kernel_rfl) (by kernel_rfl) rfl 99<|b6 (fun m=>aw rfl nT (aA (m.aY 3 rfl) rfl))<|an (bh rfl)<|an (aL rfl jA (by decide))<|b6 (fun m=>aw rfl dX (aA (m.aY 4 rfl) rfl))<|b6 (fun m=>aw rfl fE (aA (m.aY 2 rfl) rfl))<|an (aa rfl)<| ?_
     refine dT (aq rfl Tryz.call272 (Cy (by omega) hl (by omega) (by omega)) [] rfl [0] rfl ?_)
     rintro _ _ _ ⟨rfl,rfl,rfl⟩
     refine⟨(fun _=>wk [0,0,0,0,0] [0] rfl rfl), ?_⟩
     refine an (ab rfl)<|bz<|al (ρ' :=[(10,_),(43,_),(9,_),(37,_),(7,_),(6,_),(18,_),(5,_),(4,_),(3,_),(2,_),(0,_),(1,_)]) ⟨rfl,rfl,rfl,rfl,rfl,rfl,rfl,rfl,rfl,rfl,rfl,rfl,rfl,trivial⟩<|ak (X' :=[_,_,_,_,_]) (S' :=[_]) (fun _ m=>m)<|kv<|nF<|qd<|hy (fun _=>aa rfl)<|hy (fun m=>aw rfl fE (aA (m.aY 0 rfl) rfl))<|hy (fun _=>cR rfl rfl)<|ai<|al (ρ' :=[(53,_),(10,_),(43,_),(9,_),(37,_),(7,_),(6,_),(18,_),(5,_),(4,_),(3,_),(2,_),(0,_),(1,_)]) ⟨rfl,rfl,rfl,rfl,rfl,rfl,rfl,rfl,rfl,rfl,rfl,rfl,rfl,rfl,trivial⟩<|kv<| ?_
     refine Bv rfl (fun hx1=> ?_) (fun hx1=> ?_)
     ·refine zZ [2,2,2] [0] rfl rfl [4,5] [(0,some 0),(1,some 1),(2,some 1),(3,some 1),(4,none),(5,none)] (by kernel_rfl) (by kernel_rfl) rfl 99<|an (aa rfl)<|b6 (fun m=>aw rfl fE (aA (m.aY 0 rfl) rfl))<|an (aa rfl)<|an (yV (ck rfl rfl (bD (by omega) (by omega))) ((show Value.int .i64 ((i:Int)-(q:Int))= .int .i64 ((i-q:Nat):Int) by congr 1;omega)))<| ?_
      refine j5 (dI 0 rfl rfl rfl tW rfl (by first|exact Nat.le_of_ble_eq_true rfl|simp) ⟨(fun _=>wk [2,2,2] [0] rfl rfl), ?_⟩)
      refine j5 (dI 1 rfl rfl rfl tW rfl (by first|exact Nat.le_of_ble_eq_true rfl|simp) ⟨(fun _=>wk [2,2,2] [0] rfl rfl), ?_⟩)
      refine bz<|al (ρ' :=[(53,_),(10,_),(43,_),(9,_),(37,_),(7,_),(6,_),(18,_),(5,_),(4,_),(3,_),(2,_),(0,_),(1,_)]) ⟨rfl,rfl,rfl,rfl,rfl,rfl,rfl,rfl,rfl,rfl,rfl,rfl,rfl,rfl,trivial⟩<|ak (X' :=[_,_,_,_,_]) (S' :=[_]) (fun _ m=>m)<|aT<| ?_
      exact kG (lD l i q,i-q) (by show fG l i (u1,u2) q=_;unfold fG;rw[if_neg (by omega),if_pos (by show u1<_;omega)]) [1,0,0,0,0] rfl [0] rfl
     ·refine oe<|aT<| ?_
      exact kG (u1,u2) (by show fG l i (u1,u2) q=_;unfold fG;rw[if_neg (by omega),if_neg (by show¬u1<_;omega)]) [0,0,0,0,0] rfl [0] rfl
   ·obtain⟨u1,u2⟩:=s_
    have ai:=oS e0 (by omega) hlt hs_
    have hu1:u1=(aV l i).1:=congrArg Prod.fst ai
    have hu2:u2=(aV l i).2:=congrArg Prod.snd ai
    refine ag<|ah<|cN [] [(0,some 0),(1,some 0),(2,some 0),(3,some 0)] (by kernel_rfl) (by kernel_rfl) rfl 99<|b6 (fun m=>aw rfl fE (aA (m.aY 1 rfl) rfl))<|b6 (fun m=>aw rfl fE (aA (m.aY 2 rfl) rfl))<|an (ab rfl)<|an (ab rfl)<|bz<|al (ρ' :=[(5,_),(4,_),(37,_),(7,_),(6,_),(18,_),(3,_),(2,_),(0,_),(1,_)]) ⟨rfl,rfl,rfl,rfl,rfl,rfl,rfl,rfl,rfl,rfl,trivial⟩<|ag<|aU<| ?_
    refine EP trivial [0] rfl ?_
    refine ak (X' :=fm (fF es1)::_) (fun w m=>(Mem.rn (m.perm (ar [5,5] _ [_,_] _ rfl))).mr (Ev hj1)) ?_
    refine ak (X' :=mV g gm (some a) n c i es1::_) (fun w m=>(m.perm (ar [5,6,0] _ [_,_,_] _ rfl)).pack) ?_
    exact uX trivial rfl rfl rfl [0] rfl [] rfl ⟨i,es1,(by rw[←hu1,←hu2]),rfl,rfl,⟨Nat.le_refl _,hF1⟩⟩
end Go.Proofs.YtmibdabdlgmafaaGreatDoor
end
section
namespace Go.Eng
open Go.RowKit
theorem rE{P:Program}{Q:Exit→Act→World→Prop}{ι:Type}{c rest:Code}(l:Nat)(J:ι→Act→World→Prop)(μ:ι→Nat)(hf:findLabel c l=some rest){a:Act}{w:World}
  (first:c.wp P (Exit.jump l (fun a w=>∃j,J j a w) Q) a w)
  (pass:∀i a w,J i a w→rest.wp P (Exit.jump l (fun a' w' =>∃j,J j a' w' ∧μ j<μ i) Q) a w):(Code.scope c).wp P Q a w:=by
 intro b k cs
 have hg:gotoIn l (.inScope c::k)=some (.code rest:: .inScope c::k):=by simp[gotoIn,hf]
 have key:∀n i a w,μ i=n→J i a w→∃e a' w',Q e a' w' ∧Arrives P (lone (b.at a (.code rest:: .inScope c::k)) cs w) b k cs e a' w' :=by
  intro n
  induction n using Nat.strongRecOn with
  |_ n ih=>
   intro i a w hn hJ
   obtain⟨e,a₁,w₁,hq,harr⟩:=pass i a w hJ b (.inScope c::k) cs
   cases e with
   |normal=>exact⟨.normal,a₁,w₁,hq,Steps.trans harr (.one step_inScope)⟩
   |exit id=>exact⟨.exit id,a₁,w₁,hq,fun k' hk=>harr k' (by simp[exitTo,hk])⟩
   |goto l' =>
    obtain⟨rfl,j,hJ',hlt⟩:=hq
    obtain⟨e₂,a₂,w₂,hq₂,harr₂⟩:=ih _ (by omega) j a₁ w₁ rfl hJ'
    exact⟨e₂,a₂,w₂,hq₂,.of_steps (harr _ hg) harr₂⟩
   |ret=>exact⟨_,a₁,w₁,hq,harr⟩
   |panic ch=>exact⟨_,a₁,w₁,hq,harr⟩
   |outgrown=>exact⟨_,a₁,w₁,hq,harr⟩
 obtain⟨e,a₁,w₁,hq,harr⟩:=first b (.inScope c::k) cs
 cases e with
 |normal=>exact⟨.normal,a₁,w₁,hq,.head step_scope (Steps.trans harr (.one step_inScope))⟩
 |exit id=>exact⟨.exit id,a₁,w₁,hq,fun k' hk=>.head step_scope (harr k' (by simp[exitTo,hk]))⟩
 |goto l' =>
  obtain⟨rfl,j,hJ'⟩:=hq
  obtain⟨e₂,a₂,w₂,hq₂,harr₂⟩:=key _ j a₁ w₁ rfl hJ'
  exact⟨e₂,a₂,w₂,hq₂,.of_steps (.head step_scope (harr _ hg)) harr₂⟩
 |ret=>exact⟨_,a₁,w₁,hq,.of_steps (.one step_scope) harr⟩
 |panic ch=>exact⟨_,a₁,w₁,hq,.of_steps (.one step_scope) harr⟩
 |outgrown=>exact⟨_,a₁,w₁,hq,.of_steps (.one step_scope) harr⟩
section
variable{P:Program}{Q:Exit→Act→World→Prop}{N:Nat}{D:List Deferred}{ρ:Env}{b:cw}{X S:List bg}{c:Code}
theorem CV{ι:Type}{l:Nat}{rest:Code}(μ:ι→Nat)(R:ι→Env)(X1 S1:ι→List bg)(I:ι→Prop)(ρk:Env)(Xr Sr:List bg)(hf:findLabel c l=some rest)
  (first:HC P (Exit.jump l (fun a' w' =>∃j,Ag N D (R j++ρk) a' ∧Mem b (X1 j++Xr) (S1 j++Sr) w' ∧I j) Q) N D c ρ b X S)
  (pass:∀i,I i→HC P (Exit.jump l (fun a' w' =>∃j,Ag N D (R j++ρk) a' ∧Mem b (X1 j++Xr) (S1 j++Sr) w' ∧I j∧μ j<μ i) Q) N D rest (R i++ρk) b (X1 i++Xr) (S1 i++Sr)):HC P Q N D (.scope c) ρ b X S:=fun w m a ha=>
 rE l (fun j a' w' =>Ag N D (R j++ρk) a' ∧Mem b (X1 j++Xr) (S1 j++Sr) w' ∧I j) μ hf (first w m a ha)
  (fun i a' w' h=>Code.wp_mono (fun e a' w' q=>by
   cases e <;> first|exact q|(obtain⟨h0,j,h1,h2,h3,h4⟩:=q;exact⟨h0,j,⟨h1,h2,h3⟩,h4⟩)) (pass i h.2.2 w' h.2.1 a' h.1))
theorem zm{l:Nat}(h:HQ Q N D (.goto l) ρ b X S):HC P Q N D (.goto l) ρ b X S:=fun w m a ha=>wp_goto (h w m a ha)
theorem uN{K:Act→World→Prop}{l:Nat}(h:HQ Q N D (.goto l) ρ b X S):HQ (Exit.then K Q) N D (.goto l) ρ b X S:=h
theorem xq{l:Nat}{J:Act→World→Prop}(h:HQ Q N D .ret ρ b X S):HQ (Exit.jump l J Q) N D .ret ρ b X S:=h
theorem Di{l:Nat}{J:Act→World→Prop}{r:Code}(h:HQ (Exit.jump l J Q) N D (.goto l) ρ b X S)(k:∀a w,J a w→r.wp P (Exit.jump l J Q) a w):HC P (Exit.jump l J Q) N D (.seq (.label l) r) ρ b X S:=fun w m a ha=>wp_seq (wp_label (k a w (h w m a ha).2))
theorem BY{α:Type}{l:Nat}{rest:Code}(μ:α→Nat)(R:α→Env)(X1 S1:α→List bg)(I:α→Prop)(ρk:Env)(Xr Sr:List bg)(hf:findLabel c l=some rest)
  (first:HC P (Exit.jump l (fun a' w' =>∃x,Ag N D (R x++ρk) a' ∧Mem b (X1 x++Xr) (S1 x++Sr) w' ∧I x) Q) N D c ρ b X S)
  (pass:∀a,I a→HC P (Exit.jump l (fun a' w' =>∃x,Ag N D (R x++ρk) a' ∧Mem b (X1 x++Xr) (S1 x++Sr) w' ∧I x∧μ x<μ a) Q) N D rest (R a++ρk) b (X1 a++Xr) (S1 a++Sr)):HC P Q N D (.scope c) ρ b X S:=
 CV (ι:=α) (fun i=>μ i) (fun i=>R i) (fun i=>X1 i) (fun i=>S1 i) (fun i=>I i) ρk Xr Sr hf
  (fun w m a ha=>Code.wp_mono (fun e a' w' q=>by
   cases e <;> first|exact q|(obtain⟨h0,x,h⟩:=q;exact⟨h0,x,h⟩)) (first w m a ha))
  (fun i hi w m a ha=>Code.wp_mono (fun e a' w' q=>by
   cases e <;> first|exact q|(obtain⟨h0,x,h⟩:=q;exact⟨h0,x,h⟩)) (pass i hi w m a ha))
theorem Ao{α:Type}{l:Nat}{r:Code}(μ:α→Nat)(R:α→Env)(X1 S1:α→List bg)(I:α→Prop)(ρk:Env)(hk:e7 ρk ρ)(is:List Nat){Xt Xr:List bg}(hX:bR is X=some (Xt,Xr))(hf:findLabel c l=some (.seq .skip r))
  (pass:∀a,I a→HC P (Exit.jump l (fun a' w' =>∃x,Ag N D (R x++ρk) a' ∧Mem b (X1 x++Xr) (S1 x++S) w' ∧I x∧μ x<μ a) Q) N D r (R a++ρk) b (X1 a++Xr) (S1 a++S))
  (first:(∀a w,(∃x,Ag N D (R x++ρk) a∧Mem b (X1 x++Xr) (S1 x++S) w∧I x)→r.wp P (Exit.jump l (fun a' w' =>∃x,Ag N D (R x++ρk) a' ∧Mem b (X1 x++Xr) (S1 x++S) w' ∧I x) Q) a w)→
   HC P (Exit.jump l (fun a' w' =>∃x,Ag N D (R x++ρk) a' ∧Mem b (X1 x++Xr) (S1 x++S) w' ∧I x) Q) N D c ρ b X S):HC P Q N D (.scope c) ρ b X S:=
 BY (l:=l) (rest:=.seq .skip r) μ R X1 S1 I ρk Xr S hf
  (first fun a w h=>by
   obtain⟨x,h1,h2,h3⟩:=h
   exact Code.wp_mono (fun e a' w' q=>by
    cases e <;> first|exact q|(obtain⟨h0,x_,g1,g2,g3,g4⟩:=q;exact⟨h0,x_,g1,g2,g3⟩)) (pass x h3 w h2 a h1))
  (fun a h=>fun w m a9 ha=>wp_seq (wp_skip (pass a h w m a9 ha)))
theorem xX{α:Type}{l M:Nat}{μ:α→Nat}{R:α→Env}{X1 S1:α→List bg}{Xr Sr:List bg}{ρ0:Env}{I:α→Prop}(x:α)(hs:e7 (R x++ρ0) ρ)(is:List Nat){Xz:List bg}(hX:bR is X=some (X1 x++Xr,Xz))(js:List Nat)(hS:dM js S=some (S1 x++Sr))(hI:I x)(hlt:μ x<M):
  HQ (Exit.jump l (fun a' w' =>∃x,Ag N D (R x++ρ0) a' ∧Mem b (X1 x++Xr) (S1 x++Sr) w' ∧I x∧μ x<M) Q) N D (.goto l) ρ b X S:=
 fun w m a ha=>⟨rfl,x,ha.sub hs.sub,((m.perm (ar _ _ _ _ hX)).ka).lz (ca _ _ _ hS),hI,hlt⟩
theorem Ef{α:Type}{l:Nat}{R:α→Env}{X1 S1:α→List bg}{Xr Sr:List bg}{ρ0:Env}{I:α→Prop}(x:α)(hs:e7 (R x++ρ0) ρ)(is:List Nat){Xz:List bg}(hX:bR is X=some (X1 x++Xr,Xz))(js:List Nat)(hS:dM js S=some (S1 x++Sr))(hI:I x):
  HQ (Exit.jump l (fun a' w' =>∃x,Ag N D (R x++ρ0) a' ∧Mem b (X1 x++Xr) (S1 x++Sr) w' ∧I x) Q) N D (.goto l) ρ b X S:=
 fun w m a ha=>⟨rfl,x,ha.sub hs.sub,((m.perm (ar _ _ _ _ hX)).ka).lz (ca _ _ _ hS),hI⟩
end
end Go.Eng
end
section
set_option maxRecDepth 20000
set_option maxHeartbeats 2000000
namespace Go.Proofs.YtmibdabdlgmafaaGreatDoor
open Go.Eng Go.Hx
theorem EW{g0 g1:Nat}{A1 A2:Option Addr}{c1 c2:Nat}{own out:List UInt8}(hlen:out.length+2*own.length≤4000000000):cf Tryz.prog 230 [.pointer (some ⟨g0,0,none⟩),.pointer (some ⟨g1,0,none⟩)] [aI g0 27 [.slice A1 own.length c1],aG 5 1 (.slice A1 own.length c1) own.length (aQ own),aI g1 27 [.slice A2 out.length c2],aG 5 1 (.slice A2 out.length c2) out.length (aQ out)] [] (fun v_ X_ S_=>∃A3 A4 c3 c4,v_=(.tuple #[])∧X_=[aI g0 27 [.slice A3 0 c3],aG 5 1 (.slice A3 0 c3) 0 [],aI g1 27 [.slice A4 (out++ej own).length c4],aG 5 1 (.slice A4 (out++ej own).length c4) (out++ej own).length (aQ (out++ej own))]∧S_=[]):=by
 obtain⟨o0,ho0⟩:∃o0,o0=out++ej own:=⟨_,rfl⟩
 rw[←ho0]
 refine aP (N:=22) Tryz.func230 rfl rfl (by simp) fun b=> ?_
 refine aK<| ?_
 refine pf (fun own out A1 c1 A2 c2=>own.length) (fun own out A1 c1 A2 c2=>[]) (fun own out A1 c1 A2 c2=>[aI g0 27 [.slice A1 own.length c1],aG 5 1 (.slice A1 own.length c1) own.length (aQ own),aI g1 27 [.slice A2 out.length c2],aG 5 1 (.slice A2 out.length c2) out.length (aQ out)]) (fun own out A1 c1 A2 c2=>[]) (fun own out A1 c1 A2 c2=>out.length+2*own.length≤4000000000∧out++ej own=o0) own out A1 c1 A2 c2 [(0,_),(1,_)] ⟨rfl,rfl,trivial⟩ [0,0,0,0] rfl [] rfl (⟨hlen,ho0.symm⟩) trivial (fun own out A1 c1 A2 c2 ⟨hlen,hE⟩=> ?_)
 refine ah<|ah<|aj<|hy (fun m=>aw rfl dX (aA (m.aY 0 rfl) rfl))<|hy (fun _=>aX rfl Tryz.underlying27)<|hy (fun _=>cR rfl rfl)<|ai<|al (ρ' :=[(5,_),(0,_),(1,_)]) ⟨rfl,rfl,rfl,trivial⟩<|ag<| ?_
 refine cD rfl (fun h0=> ?_) (fun h0=> ?_)
 ·have hne:own≠ []:=fun e=>by rw[e]at h0;exact absurd h0 (by decide)
  rw[kZ hne]at hE
  obtain⟨k,hk⟩:∃k,k=min own.length 128:=⟨_,rfl⟩
  have hk1:1≤k∧k≤128∧k≤own.length:=by omega
  rw[←hk]at hE
  have htk:own.take 128=own.take k:=by
   rcases Nat.lt_or_ge own.length 128 with h|h
   ·rw[List.take_of_length_le (by omega),List.take_of_length_le (by omega)]
   ·rw[show k=128 by omega]
  have hdk:own.drop 128=own.drop k:=by
   rcases Nat.lt_or_ge own.length 128 with h|h
   ·rw[List.drop_of_length_le (by omega),List.drop_of_length_le (by omega)]
   ·rw[show k=128 by omega]
  rw[htk,hdk]at hE
  refine aZ (fun m=>(Own.rd (m.own 1 rfl)).2.1) fun hc1=> ?_
  refine aD<|ag<|aK<|ah<|aj<|hy (fun m=>aw rfl dX (aA (m.aY 0 rfl) rfl))<|hy (fun _=>aX rfl Tryz.underlying27)<|hy (fun _=>yV (yI rfl rfl) ((show Value.int .i64 _= .int .i64 (k:Nat) by congr 1;omega)))<|hy (fun _=>ab rfl)<|ai<|al (ρ' :=[(2,_),(5,_),(0,_),(1,_)]) ⟨rfl,rfl,rfl,rfl,trivial⟩<|ag<|ah<|qg [0,0,0] [] rfl rfl [4,5,9,10] [(0,some 1),(1,some 3),(2,some 0),(3,some 0),(6,some 2),(7,some 2),(8,some 2),(4,none),(5,none),(9,none),(10,none)] (by kernel_rfl) (by kernel_rfl) rfl 3<|b6 (fun m=>aw rfl dX (aA (m.aY 2 rfl) rfl))<|an (aa rfl)<|an (yV (ck rfl rfl (bD (by omega) (by omega))) ((show Value.int .i64 ((k:Int)-1)= .int .i64 ((k-1:Nat):Int) by congr 1;omega)))<|an (yV (bT rfl Tryz.underlying3 Tryz.underlying5 (gA (k-1))) ((show Value.int .u8 _=B8 (UInt8.ofNat (k-1))from rfl)))<|b6 (fun m=>aw rfl dX (aA (m.aY 0 rfl) rfl))<|an (aa rfl)<|an (re rfl rfl Tryz.underlying27 dZ rfl (by omega))<| ?_
  refine dT (bV Tryz.underlying27 eP rfl rfl rfl (by simp[Value.cells,B8]) (by decide) (by decide) (fun g13=>⟨(fun _=>wk [1,1,1] [] rfl rfl), ?_⟩))
  have hA_b13:0<1→(some (⟨g13,0,none⟩:Addr))≠none:=fun _ h=>by cases h
  refine dT (bH 4 rfl rfl rfl Tryz.underlying27 Tryz.underlying27 (by exact .inl rfl) eP rfl (fun m=>Src.bY (m.ord 0 rfl)) (aS (l:=[UInt8.ofNat (k-1)])) (by unfold maxLen;omega) (by omega) (fun u=>⟨(fun _=>wk [2,2,2] [] rfl rfl), ?_⟩))
  refine b9 (fun m=>(m.own 0 rfl).slice) ?_
  rintro⟨A_y,c_y,rfl,hc_y⟩
  refine b9 (fun m=>(m.ord 0 rfl).2.1) fun hA_y=> ?_
  refine dT (bH 0 rfl rfl rfl Tryz.underlying27 Tryz.underlying27 (by exact .inl rfl) eP rfl (fun m=>Src.bY (Rd.CA (m.ord 3 rfl) hk1.2.2)) aS (by unfold maxLen;omega) (by omega) (fun u2=>⟨(fun _=>wk [2,2,2] [] rfl rfl), ?_⟩))
  refine b9 (fun m=>(m.own 0 rfl).slice) ?_
  rintro⟨A_y2,c_y2,rfl,hc_y⟩
  refine b9 (fun m=>(m.ord 0 rfl).2.1) fun hA_y=> ?_
  refine j5 (dI 4 rfl rfl rfl pI rfl (by first|exact Nat.le_of_ble_eq_true rfl|simp) ⟨(fun h=>absurd h (by decide)), ?_⟩)
  refine bz<|al (ρ' :=[(2,_),(5,_),(0,_),(1,_)]) ⟨rfl,rfl,rfl,rfl,trivial⟩<|ak (X' :=[_,_,_,_,_]) (S' :=[]) (fun _ m=>m)<|ag<|aj<|hy (fun m=>aw rfl dX (aA (m.aY 3 rfl) rfl))<|hy (fun _=>aa rfl)<|hy (fun _=>eh rfl rfl Tryz.underlying27 dZ rfl (by omega))<| ?_
  refine cI (dI 3 rfl rfl rfl pI rfl (by first|exact Nat.le_of_ble_eq_true rfl|simp) ?_)
  refine ai<|al (ρ' :=[(2,_),(5,_),(0,_),(1,_)]) ⟨rfl,rfl,rfl,rfl,trivial⟩<|ak (X' :=[_,_,_,_,_]) (S' :=[]) (fun _ m=>m)<|aT<| ?_
  refine ak (X' :=aG 5 1 (.slice (if c1=k then A1 else A1.map (·.add (k*1))) (own.length-k) (c1-k)) (own.length-k) ((aQ own).drop (k*1))::_) (fun w m=>(m.perm (ar [4] _ [_] _ rfl)).vP (View.r8 hk1.2.2 hc1)) ?_
  have hdl:own.length-k=(own.drop k).length:=by rw[List.length_drop]
  have hol:out.length+1+k=(out++(UInt8.ofNat (k-1)::own.take k)).length:=by simp;omega
  rw[hdl,hol]
  refine ak (fun w m=>m.bO 0 rfl (show _=aG 5 1 (.slice (if c1=k then A1 else A1.map (·.add (k*1))) (own.drop k).length (c1-k)) (own.drop k).length (aQ (own.drop k))from congrArg (aG _ _ _ _) (by rw[Nat.mul_one,oD]))) ?_
  refine ak (fun w m=>m.bO 3 rfl (show _=aG 5 1 (.slice A_y2 (out++(UInt8.ofNat (k-1)::own.take k)).length c_y2) (out++(UInt8.ofNat (k-1)::own.take k)).length (aQ (out++(UInt8.ofNat (k-1)::own.take k)))from congrArg (aG _ _ _ _) (show aQ out++aQ [UInt8.ofNat (k-1)]++aQ (own.take k)=_ by rw[←bs,←bs,List.append_assoc];rfl))) ?_
  refine gy (own.drop k) (out++(UInt8.ofNat (k-1)::own.take k)) _ _ _ _ ⟨rfl,rfl,trivial⟩ [2,1,1,0] rfl [] rfl (⟨by rw[←hdl,←hol];omega,by rw[←hE];simp⟩) (by rw[←hdl];omega)
 ·have hne:own=[]:=List.eq_nil_of_length_eq_zero (by omega)
  rw[hne,mz,List.append_nil]at hE
  subst hne
  subst hE
  refine bK<|ao<|ao<|aC<| ?_
  exact fD trivial rfl [0,0,0,0] rfl [] rfl ⟨_,_,_,_,rfl,rfl,rfl⟩
structure AK where
 g:Nat
 gm:Nat
 g4:Nat
 g5:Nat
 i:Nat
 p:Nat
 c1:Nat
 c2:Nat
 A1:Option Addr
 A2:Option Addr
 own:List UInt8
 out:List UInt8
 es:ug
theorem Fz{A:Option Addr}{n c:Nat}{l:List UInt8}(hc:n≤c)(hn:n≤500000000)(hl:l.length=n):cf Tryz.prog 178 [.slice A n c] [] [c6 1 A n (aQ l)] (fun v_ X_ S_=>∃v,v_=v∧X_=[aG 5 1 v (er l).length (aQ (er l))]∧S_=[]):=by
 refine aP (N:=56) Tryz.func178 rfl rfl (by simp) fun b=> ?_
 refine aZ (fun m=>gz (m.rd 0 rfl)) ?_
 rintro⟨hl_r,hA_r⟩
 refine ah<|aj<|hy (fun _=>ab rfl)<|ai<|ag<| ?_
 refine Ao (l:=0) (fun(t:AK)=>n-t.i) (fun(t:AK)=>[(7,.int .i64 (t.i:Nat)),(3,.pointer (some ⟨t.g,0,none⟩)),(4,.pointer (some ⟨t.g4,0,none⟩)),(5,.pointer (some ⟨t.g5,0,none⟩)),(6,.func (.func 230) #[] #[.pointer (some ⟨t.g5,0,none⟩),.pointer (some ⟨t.g4,0,none⟩)])]) (fun(t:AK)=>[mV t.g t.gm A n c t.p t.es,aI t.g5 27 [.slice t.A1 t.own.length t.c1],aG 5 1 (.slice t.A1 t.own.length t.c1) t.own.length (aQ t.own),aI t.g4 27 [.slice t.A2 t.out.length t.c2],aG 5 1 (.slice t.A2 t.out.length t.c2) t.out.length (aQ t.out)]) (fun(t:AK)=>[]) (fun(t:AK)=>t.i≤n∧t.p≤t.i∧xO l t.p t.es∧t.out.length+2*t.own.length≤2*t.i∧gb l t.i t.own t.out=er l) [(0,_)] ⟨rfl,trivial⟩ [] rfl rfl (fun t ⟨hin,hpi,hF,hlen,hE⟩=> ?_) (fun hfall_=> ?_)
 ·obtain⟨g,gm,g4,g5,i,p,c1,c2,A1,A2,own,out,es⟩:=t
  dsimp only at hin hpi hF hlen hE ⊢
  refine ah<|ah<|aj<|hy (fun _=>aa rfl)<|hy (fun _=>aa rfl)<|hy (fun _=>aX rfl Tryz.underlying27)<|hy (fun _=>cH rfl rfl)<|ai<|al (ρ' :=[(16,_),(7,_),(3,_),(4,_),(5,_),(6,_),(0,_)]) ⟨rfl,rfl,rfl,rfl,rfl,rfl,rfl,trivial⟩<|ag<| ?_
  refine zw rfl (fun hfin=> ?_) (fun hfin=> ?_)
  ·have hi:i=n:=by have:=of_decide_eq_true hfin;omega
   rw[kL (by omega)]at hE
   refine ah<|aj<|hy (fun _=>aa rfl)<| ?_
   refine hx (o6 rfl rfl Tryz.call230 (EW (by omega)) [1,1,1,1] rfl [] rfl ?_)
   rintro _ _ _ ⟨A3,A4,c3,c4,rfl,rfl,rfl⟩
   rw[hE]
   refine ai<|al (ρ' :=[(16,_),(7,_),(3,_),(4,_),(5,_),(6,_),(0,_)]) ⟨rfl,rfl,rfl,rfl,rfl,rfl,rfl,trivial⟩<|ak (X' :=[_,_,_,_,_]) (S' :=[_]) (fun _ m=>m)<|ag<|ah<|aj<|hy (fun m=>aw rfl dX (aA (m.aY 2 rfl) rfl))<|hy (fun _=>ab rfl)<|ai<|al (ρ' :=[(2,_),(16,_),(7,_),(3,_),(4,_),(5,_),(6,_),(0,_)]) ⟨rfl,rfl,rfl,rfl,rfl,rfl,rfl,rfl,trivial⟩<|ag<|aU<|ax<|xq<| ?_
   exact bc trivial rfl rfl [3] rfl [] rfl ⟨_,rfl,rfl,rfl⟩
  ·have hi:i<n:=by have:=of_decide_eq_false hfin;omega
   refine aD<|ag<|ah<|aj<|hy (fun _=>aa rfl)<|hy (fun _=>aa rfl)<| ?_
   refine hx (aq rfl Tryz.call231 (CQ (by omega) (by omega) hl (by omega) (by omega) hF) [0] rfl [0] rfl ?_)
   rintro _ _ _ ⟨p1,es1,rfl,rfl,rfl,hp⟩
   obtain⟨hp1,hF1⟩:=hp
   refine hy (fun _=>aa rfl)<|hy (fun _=>au rfl rfl)<|hy (fun _=>au rfl rfl)<|hy (fun _=>ab rfl)<|hy (fun _=>ab rfl)<|ai<|al (ρ' :=[(9,_),(8,_),(16,_),(7,_),(3,_),(4,_),(5,_),(6,_),(0,_)]) ⟨rfl,rfl,rfl,rfl,rfl,rfl,rfl,rfl,rfl,trivial⟩<|ak (X' :=[_,_,_,_,_]) (S' :=[_]) (fun _ m=>m)<|ag<|ah<|ah<|aj<|hy (fun _=>aa rfl)<|hy (fun _=>cH rfl rfl)<|ai<|al (ρ' :=[(27,_),(9,_),(8,_),(16,_),(7,_),(3,_),(4,_),(5,_),(6,_),(0,_)]) ⟨rfl,rfl,rfl,rfl,rfl,rfl,rfl,rfl,rfl,rfl,trivial⟩<|ag<| ?_
   refine cD rfl (fun h0=> ?_) (fun h0=> ?_)
   ·rw[kM (by omega) (by omega)]at hE
    refine ah<|qg [0,0,1,1] [0] rfl rfl [5,6,7] [(0,some 1),(1,some 0),(2,some 0),(3,some 0),(4,some 0),(5,none),(6,none),(7,none)] (by kernel_rfl) (by kernel_rfl) rfl 2<|b6 (fun m=>aw rfl dX (aA (m.aY 1 rfl) rfl))<|an (aa rfl)<|an (aa rfl)<|an (aO rfl rfl Tryz.underlying27 dZ hA_r rfl (by omega))<|b6 (fun m=>aw rfl jt ((m.rd 0 rfl).cell (bI (by omega))))<| ?_
    refine dT (bV Tryz.underlying27 eP rfl rfl rfl (by simp[Value.cells,B8]) (by decide) (by decide) (fun g33=>⟨(fun _=>wk [1,1,2,2] [0] rfl rfl), ?_⟩))
    have hA_b33:0<1→(some (⟨g33,0,none⟩:Addr))≠none:=fun _ h=>by cases h
    refine fg (fun w m=>m.bO 0 rfl (show _=aG 5 1 (.slice (some ⟨g33,0,none⟩) 1 1) 1 (aQ [l.getD i 0])from rfl)) ?_
    refine dT (bH 3 rfl rfl rfl Tryz.underlying27 Tryz.underlying27 (by exact .inl rfl) eP rfl (fun m=>Src.bY (m.ord 0 rfl)) aS (by unfold maxLen;omega) (by omega) (fun u=>⟨(fun _=>wk [2,2,2,2] [0] rfl rfl), ?_⟩))
    refine b9 (fun m=>(m.own 0 rfl).slice) ?_
    rintro⟨A_x,c_x,rfl,hc_x⟩
    refine b9 (fun m=>(m.ord 0 rfl).2.1) fun hA_x=> ?_
    refine j5 (dI 3 rfl rfl rfl pI rfl (by first|exact Nat.le_of_ble_eq_true rfl|simp) ⟨(fun h=>absurd h (by decide)), ?_⟩)
    refine bz<|al (ρ' :=[(27,_),(9,_),(8,_),(16,_),(7,_),(3,_),(4,_),(5,_),(6,_),(0,_)]) ⟨rfl,rfl,rfl,rfl,rfl,rfl,rfl,rfl,rfl,rfl,trivial⟩<|ak (X' :=[_,_,_,_,_,_]) (S' :=[_]) (fun _ m=>m)<|ag<|ah<|aj<|hy (fun _=>aa rfl)<|hy (fun _=>aM rfl rfl (bD (by omega) (by omega)))<|hy (fun _=>ab rfl)<|ai<|al (ρ' :=[(7,_),(27,_),(9,_),(8,_),(16,_),(3,_),(4,_),(5,_),(6,_),(0,_)]) ⟨rfl,rfl,rfl,rfl,rfl,rfl,rfl,rfl,rfl,rfl,trivial⟩<|ag<|zm<|uN<| ?_
    have hol:own.length+1=(own++[l.getD i 0]).length:=by simp
    rw[hol]
    refine ak (fun w m=>m.bO 1 rfl (show _=aG 5 1 (.slice A_x (own++[l.getD i 0]).length c_x) (own++[l.getD i 0]).length (aQ (own++[l.getD i 0]))from congrArg (aG _ _ _ _) (bs _ _).symm)) ?_
    exact xX (⟨g,gm,g4,g5,i+1,p1,c_x,c2,A_x,A2,own++[l.getD i 0],out,es1⟩) ⟨rfl,rfl,rfl,rfl,rfl,rfl,trivial⟩ [3,1,0,1,1] rfl [0] rfl (⟨hi,Nat.le_succ_of_le hp1,hF1,by show out.length+2*(own++[l.getD i 0]).length≤2*(i+1);rw[←hol];omega,hE⟩) (by show n-(i+1)<n-i;omega)
   ·have hm:=kS (b:=l) (i:=i) (by omega)
    rw[iy (by omega) (by omega)]at hE
    obtain⟨m1,m2,m3,m4,m5,m6⟩:=hm.resolve_left (fun e=>h0 (by rw[e];rfl))
    refine aD<|ag<|ah<|aj<|hy (fun _=>aa rfl)<| ?_
    refine hx (o6 rfl rfl Tryz.call230 (EW (by omega)) [1,1,1,1] rfl [] rfl ?_)
    rintro _ _ _ ⟨A3,A4,c3,c4,rfl,rfl,rfl⟩
    refine ai<|al (ρ' :=[(27,_),(9,_),(8,_),(16,_),(7,_),(3,_),(4,_),(5,_),(6,_),(0,_)]) ⟨rfl,rfl,rfl,rfl,rfl,rfl,rfl,rfl,rfl,rfl,trivial⟩<|ak (X' :=[_,_,_,_,_]) (S' :=[_]) (fun _ m=>m)<|ag<|ah<|aj<|hy (fun m=>aw rfl dX (aA (m.aY 2 rfl) rfl))<|hy (fun _=>aa rfl)<|hy (fun _=>aM rfl rfl (bD (by omega) (by omega)))<|hy (fun _=>yV (ck rfl rfl (bD (by omega) (by omega))) ((show Value.int .i64 (128+((aV l i).1:Int)-4)= .int .i64 ((124+(aV l i).1:Nat):Int) by congr 1;omega)))<|hy (fun _=>yV (bT rfl Tryz.underlying3 Tryz.underlying5 (gA _)) ((show Value.int .u8 _=B8 (UInt8.ofNat (124+(aV l i).1))from rfl)))<|hy (fun _=>aa rfl)<|hy (fun _=>yV (ck rfl rfl (bD (by omega) (by omega))) ((show Value.int .i64 (((aV l i).2:Int)-1)= .int .i64 (((aV l i).2-1:Nat):Int) by congr 1;omega)))<|hy (fun _=>yV (bT rfl Tryz.underlying3 Tryz.underlying5 (gA _)) ((show Value.int .u8 _=B8 (UInt8.ofNat ((aV l i).2-1))from rfl)))<|hy (fun _=>aa rfl)<|hy (fun _=>yV (ck rfl rfl (bD (by omega) (by omega))) ((show Value.int .i64 (((aV l i).2:Int)-1)= .int .i64 (((aV l i).2-1:Nat):Int) by congr 1;omega)))<|hy (fun _=>yV (nr (p:=256) rfl rfl (by decide) (by decide) (by decide)) ((show Value.int .i64 ((((aV l i).2-1:Nat):Int)/256)= .int .i64 ((((aV l i).2-1)/256:Nat):Int) by congr 1)))<|hy (fun _=>yV (bT rfl Tryz.underlying3 Tryz.underlying5 (gA _)) ((show Value.int .u8 _=B8 (UInt8.ofNat (((aV l i).2-1)/256))from rfl)))<| ?_
    refine hx (bV Tryz.underlying27 eP rfl rfl rfl (by simp[Value.cells,B8]) (by decide) (by decide) (fun g51=> ?_))
    have hA_b51:0<3→(some (⟨g51,0,none⟩:Addr))≠none:=fun _ h=>by cases h
    refine aR (fun w m=>m.bO 0 rfl (show _=aG 5 1 (.slice (some ⟨g51,0,none⟩) 3 3) 3 (aQ (fK (aV l i)))from rfl)) ?_
    have hll:=fi own
    have hlo:(out++ej own).length=out.length+(ej own).length:=by simp
    refine hx (bH 4 rfl rfl rfl Tryz.underlying27 Tryz.underlying27 (by exact .inl rfl) eP rfl (fun m=>Src.bY (m.ord 0 rfl)) aS (by unfold maxLen;omega) (by omega) (fun u=> ?_))
    refine aB (fun m=>(m.own 0 rfl).slice) ?_
    rintro⟨A_y,c_y,rfl,hc_y⟩
    refine aB (fun m=>(m.ord 0 rfl).2.1) fun hA_y=> ?_
    refine cI (dI 4 rfl rfl rfl pI rfl (by first|exact Nat.le_of_ble_eq_true rfl|simp) ?_)
    refine ai<|al (ρ' :=[(27,_),(9,_),(8,_),(16,_),(7,_),(3,_),(4,_),(5,_),(6,_),(0,_)]) ⟨rfl,rfl,rfl,rfl,rfl,rfl,rfl,rfl,rfl,rfl,trivial⟩<|ak (X' :=[_,_,_,_,_,_]) (S' :=[_]) (fun _ m=>m)<|ag<|ah<|aj<|hy (fun _=>aa rfl)<|hy (fun _=>aa rfl)<|hy (fun _=>yV (aM rfl rfl (bD (by omega) (by omega))) ((show Value.int .i64 ((i:Int)+((aV l i).1:Int))= .int .i64 ((i+(aV l i).1:Nat):Int) by congr 1)))<|hy (fun _=>ab rfl)<|ai<|al (ρ' :=[(7,_),(27,_),(9,_),(8,_),(16,_),(3,_),(4,_),(5,_),(6,_),(0,_)]) ⟨rfl,rfl,rfl,rfl,rfl,rfl,rfl,rfl,rfl,rfl,trivial⟩<|ag<|zm<| ?_
    have hol:(out++ej own).length+3=(out++ej own++fK (aV l i)).length:=by simp[fK];omega
    rw[hol]
    refine ak (fun w m=>m.bO 1 rfl (show _=aG 5 1 (.slice A_y (out++ej own++fK (aV l i)).length c_y) (out++ej own++fK (aV l i)).length (aQ (out++ej own++fK (aV l i)))from congrArg (aG _ _ _ _) (bs _ _).symm)) ?_
    exact xX (⟨g,gm,g4,g5,i+(aV l i).1,p1,c3,c_y,A3,A_y,[],out++ej own++fK (aV l i),es1⟩) ⟨rfl,rfl,rfl,rfl,rfl,rfl,trivial⟩ [5,3,3,1,0] rfl [0] rfl (⟨by show i+(aV l i).1≤n;omega,by show p1≤i+(aV l i).1;omega,hF1,by show(out++ej own++fK (aV l i)).length+2*0≤2*(i+(aV l i).1);rw[←hol];omega,hE⟩) (by show n-(i+(aV l i).1)<n-i;omega)
 ·refine ah<|aj<|hy (fun _=>aa rfl)<| ?_
  refine hx (aq rfl Tryz.call229 (Fx) [] rfl [] rfl ?_)
  rintro _ _ _ ⟨g,gm,rfl,rfl,rfl⟩
  refine hy (fun _=>ab rfl)<|ai<|al (ρ' :=[(3,_),(2,_),(0,_)]) ⟨rfl,rfl,rfl,trivial⟩<|ak (X' :=[_]) (S' :=[_]) (fun _ m=>m)<|ag<|ah<|aj<| ?_
  refine hx (aN sk (fun g4=> ?_))
  refine hx (aN sk (fun g5=> ?_))
  refine ai<|ak (X' :=[_,_,_]) (S' :=[_]) (fun _ m=>m)<|ag<|ah<|aj<|hy (fun _=>j3 rfl rfl)<|hy (fun _=>ab rfl)<|ai<|al (ρ' :=[(6,_),(5,_),(4,_),(3,_),(2,_),(0,_)]) ⟨rfl,rfl,rfl,rfl,rfl,rfl,trivial⟩<|ag<|ah<|aj<|hy (fun _=>ab rfl)<|ai<|ag<| ?_
  refine bB (fun w m=>m.bO 1 rfl (show _=aI g4 27 [.slice none 0 0]from rfl)) ?_
  refine bB (fun w m=>m.bO 1 rfl (show _=aI g5 27 [.slice none 0 0]from rfl)) ?_
  refine bB (fun w m=>m.dx (r' :=aG 5 1 (.slice none 0 0) 0 []) (.refl _ _) (Own.nil _ _ _ _) (fun k hk=>hk.elim)) ?_
  refine bB (fun w m=>m.dx (r' :=aG 5 1 (.slice none 0 0) 0 []) (.refl _ _) (Own.nil _ _ _ _) (fun k hk=>hk.elim)) ?_
  exact Di (Ef (R:=fun(t:AK)=>[(7,.int .i64 (t.i:Nat)),(3,.pointer (some ⟨t.g,0,none⟩)),(4,.pointer (some ⟨t.g4,0,none⟩)),(5,.pointer (some ⟨t.g5,0,none⟩)),(6,.func (.func 230) #[] #[.pointer (some ⟨t.g5,0,none⟩),.pointer (some ⟨t.g4,0,none⟩)])]) (X1:=fun(t:AK)=>[mV t.g t.gm A n c t.p t.es,aI t.g5 27 [.slice t.A1 t.own.length t.c1],aG 5 1 (.slice t.A1 t.own.length t.c1) t.own.length (aQ t.own),aI t.g4 27 [.slice t.A2 t.out.length t.c2],aG 5 1 (.slice t.A2 t.out.length t.c2) t.out.length (aQ t.out)]) (S1:=fun(t:AK)=>[]) (I:=fun(t:AK)=>t.i≤n∧t.p≤t.i∧xO l t.p t.es∧t.out.length+2*t.own.length≤2*t.i∧gb l t.i t.own t.out=er l) (⟨g,gm,g4,g5,0,0,0,0,none,none,[],[],[]⟩) ⟨rfl,rfl,rfl,rfl,rfl,rfl,trivial⟩ [4,2,1,1,0] rfl [0] rfl (⟨Nat.zero_le _,Nat.le_refl _,B9 _,Nat.le_refl _,rfl⟩)) hfall_
end Go.Proofs.YtmibdabdlgmafaaGreatDoor
end
section
set_option maxRecDepth 20000
set_option maxHeartbeats 2000000
namespace Go.Proofs.YtmibdabdlgmafaaGreatDoor
open Go.Eng Go.Hx
theorem ou{A:Option Addr}{n c:Nat}{l:List UInt8}(hn:n≤70368744177664):cf Tryz.prog 180 [.slice A n c] [] [c6 1 A n (aQ l)] (fun v_ X_ S_=>v_=(.int .u32 (cJ l:Nat))∧X_=[]∧S_=[]):=by
 exact gT fun m=>Calls.mono (yk A n c l _ (m.rd 0 rfl) (by omega)) (fun e w' ⟨h,hf⟩=>⟨_,h,⟨rfl,rfl,rfl⟩,hf⟩)
theorem jh{k:Nat}(hk:k<4294967296):cf Tryz.prog 179 [.int .u32 (k:Nat)] [] [] (fun v_ X_ S_=>∃v,v_=v∧X_=[aG 5 1 v 4 (aQ (fZ k))]∧S_=[]):=by
 refine aP (N:=15) Tryz.func179 rfl rfl (by simp) fun b=> ?_
 refine ah<|aj<|hy (fun _=>ab rfl)<|ai<|ag<|ah<|aj<|hy (fun _=>aa rfl)<|hy (fun _=>yV (bT rfl Tryz.underlying166 Tryz.underlying5 (gA _)) ((show Value.int .u8 _=B8 (UInt8.ofNat k)from rfl)))<|hy (fun _=>aa rfl)<|hy (fun _=>yV (nr (p:=256) rfl rfl (by decide) (by decide) (by decide)) ((show Value.int .u32 ((k:Int)/256)= .int .u32 ((k/256:Nat):Int) by congr 1)))<|hy (fun _=>yV (bT rfl Tryz.underlying166 Tryz.underlying5 (gA _)) ((show Value.int .u8 _=B8 (UInt8.ofNat (k/256))from rfl)))<|hy (fun _=>aa rfl)<|hy (fun _=>yV (nr (p:=65536) rfl rfl (by decide) (by decide) (by decide)) ((show Value.int .u32 ((k:Int)/65536)= .int .u32 ((k/65536:Nat):Int) by congr 1)))<|hy (fun _=>yV (bT rfl Tryz.underlying166 Tryz.underlying5 (gA _)) ((show Value.int .u8 _=B8 (UInt8.ofNat (k/65536))from rfl)))<|hy (fun _=>aa rfl)<|hy (fun _=>yV (nr (p:=16777216) rfl rfl (by decide) (by decide) (by decide)) ((show Value.int .u32 ((k:Int)/16777216)= .int .u32 ((k/16777216:Nat):Int) by congr 1)))<|hy (fun _=>yV (bT rfl Tryz.underlying166 Tryz.underlying5 (gA _)) ((show Value.int .u8 _=B8 (UInt8.ofNat (k/16777216))from rfl)))<| ?_
 refine hx (bV Tryz.underlying27 eP rfl rfl rfl (by simp[Value.cells,B8]) (by decide) (by decide) (fun g14=> ?_))
 have hA_b14:0<4→(some (⟨g14,0,none⟩:Addr))≠none:=fun _ h=>by cases h
 refine hy (fun _=>ab rfl)<|ai<|al (ρ' :=[(2,_),(0,_)]) ⟨rfl,rfl,trivial⟩<|ak (X' :=[_]) (S' :=[]) (fun _ m=>m)<|ag<|aU<| ?_
 refine ak (fun w m=>m.bO 0 rfl (show _=aG 5 1 (.slice (some ⟨g14,0,none⟩) 4 4) 4 (aQ (fZ k))from rfl)) ?_
 exact bc trivial rfl rfl [0] rfl [] rfl ⟨_,rfl,rfl,rfl⟩
theorem Fp{A:Option Addr}{n c:Nat}{l:List UInt8}(hc:n≤c)(hn:n≤100000000)(hl:l.length=n):cf Tryz.prog 106 [.slice A n c] [] [c6 1 A n (aQ l)] (fun v_ X_ S_=>∃v,v_=v∧X_=[aG 5 1 v (bA l).length (aQ (bA l))]∧S_=[]):=by
 have hpl:=l6 l
 have hlt:n<4294967296:=by omega
 have hcl:=jl l
 refine aP (N:=31) Tryz.func106 rfl rfl (by simp) fun b=> ?_
 refine aZ (fun m=>gz (m.rd 0 rfl)) ?_
 rintro⟨hl_r,hA_r⟩
 refine ah<|aj<|hy (fun _=>ab rfl)<|ai<|ag<|ah<|aj<|hy (fun _=>aa rfl)<|hy (fun _=>ab rfl)<|hy (fun _=>ab rfl)<|ai<|al (ρ' :=[(4,_),(3,_),(2,_),(0,_)]) ⟨rfl,rfl,rfl,rfl,trivial⟩<|ag<|ah<|ah<|aj<|hy (fun _=>aa rfl)<| ?_
 refine hx (aq rfl Tryz.call178 (Fz (by omega) (by omega) (by omega)) [] rfl [0] rfl ?_)
 rintro _ _ _ ⟨v,rfl,rfl,rfl⟩
 refine aB (fun m=>(m.own 0 rfl).slice) ?_
 rintro⟨A_y,c_y,rfl,hc_y⟩
 refine aB (fun m=>(m.ord 0 rfl).2.1) fun hA_y=> ?_
 refine hy (fun _=>ab rfl)<|ai<|al (ρ' :=[(5,_),(4,_),(3,_),(2,_),(0,_)]) ⟨rfl,rfl,rfl,rfl,rfl,trivial⟩<|ak (X' :=[_]) (S' :=[_]) (fun _ m=>m)<|ag<|ah<|aj<|hy (fun _=>aa rfl)<|hy (fun _=>aX rfl Tryz.underlying27)<|hy (fun _=>aa rfl)<|hy (fun _=>aX rfl Tryz.underlying27)<|hy (fun _=>bw rfl rfl)<|ai<|al (ρ' :=[(14,_),(5,_),(4,_),(3,_),(2,_),(0,_)]) ⟨rfl,rfl,rfl,rfl,rfl,rfl,trivial⟩<|ag<| ?_
 refine cD rfl (fun hp=> ?_) (fun hp=> ?_)
 ·have hq:bA l=[76,1]++fZ l.length++er l++fZ (cJ l):=by
   have:uG l=true:=by unfold uG;exact decide_eq_true (by omega)
   unfold bA gW
   rw[this];rfl
  refine aj<|hy (fun _=>aa rfl)<|hy (fun _=>ab rfl)<|hy (fun _=>ab rfl)<|ai<|al (ρ' :=[(4,_),(3,_),(14,_),(5,_),(2,_),(0,_)]) ⟨rfl,rfl,rfl,rfl,rfl,rfl,trivial⟩<|ag<|ah<|aj<|hy (fun _=>aa rfl)<| ?_
  refine hx (bV Tryz.underlying27 eP rfl rfl rfl (by simp[Value.cells,B8]) (by decide) (by decide) (fun g17=> ?_))
  have hA_b17:0<2→(some (⟨g17,0,none⟩:Addr))≠none:=fun _ h=>by cases h
  refine hy (fun _=>aa rfl)<|hy (fun _=>aX rfl Tryz.underlying27)<|hy (fun _=>bT rfl Tryz.underlying3 Tryz.underlying166 (wj (by omega) (by omega)))<| ?_
  refine hx (aq rfl Tryz.call179 (jh (by omega)) [] rfl [] rfl ?_)
  rintro _ _ _ ⟨v2,rfl,rfl,rfl⟩
  refine aB (fun m=>(m.own 0 rfl).slice) ?_
  rintro⟨A_x,c_x,rfl,hc_x⟩
  refine aB (fun m=>(m.ord 0 rfl).2.1) fun hA_x=> ?_
  refine aR (fun w m=>m.bO 1 rfl (show _=aG 5 1 (.slice (some ⟨g17,0,none⟩) 2 2) 2 (aQ [76,1])from rfl)) ?_
  refine hx (bH 0 rfl rfl rfl Tryz.underlying27 Tryz.underlying27 (by exact .inl rfl) eP rfl (fun m=>Src.bY (m.ord 1 rfl)) aS (by unfold maxLen;omega) (by omega) (fun u=> ?_))
  refine aB (fun m=>(m.own 0 rfl).slice) ?_
  rintro⟨A_b17,c_b17,rfl,hc_b17⟩
  refine aB (fun m=>(m.ord 0 rfl).2.1) fun hA_b17=> ?_
  refine hy (fun _=>ab rfl)<|ai<|al (ρ' :=[(6,_),(4,_),(3,_),(14,_),(5,_),(2,_),(0,_)]) ⟨rfl,rfl,rfl,rfl,rfl,rfl,rfl,trivial⟩<|ak (X' :=[_,_,_]) (S' :=[_]) (fun _ m=>m)<|ag<|ah<|aj<|hy (fun _=>aa rfl)<|hy (fun _=>aa rfl)<| ?_
  refine hx (bH 0 rfl rfl rfl Tryz.underlying27 Tryz.underlying27 (by exact .inl rfl) eP rfl (fun m=>Src.bY (m.ord 2 rfl)) aS (by unfold maxLen;omega) (by omega) (fun u2=> ?_))
  refine aB (fun m=>(m.own 0 rfl).slice) ?_
  rintro⟨A_b172,c_b172,rfl,hc_b17⟩
  refine aB (fun m=>(m.ord 0 rfl).2.1) fun hA_b17=> ?_
  refine hy (fun _=>ab rfl)<|ai<|al (ρ' :=[(6,_),(4,_),(3,_),(14,_),(5,_),(2,_),(0,_)]) ⟨rfl,rfl,rfl,rfl,rfl,rfl,rfl,trivial⟩<|ak (X' :=[_,_,_]) (S' :=[_]) (fun _ m=>m)<|ag<|ah<|aj<|hy (fun _=>aa rfl)<|hy (fun _=>aa rfl)<| ?_
  refine hx (aq rfl Tryz.call180 (ou (by omega)) [] rfl [0] rfl ?_)
  rintro _ _ _ ⟨rfl,rfl,rfl⟩
  refine hx (aq rfl Tryz.call179 (jh (by omega)) [] rfl [] rfl ?_)
  rintro _ _ _ ⟨v3,rfl,rfl,rfl⟩
  refine aB (fun m=>(m.own 0 rfl).slice) ?_
  rintro⟨A_x2,c_x2,rfl,hc_x2⟩
  refine aB (fun m=>(m.ord 0 rfl).2.1) fun hA_x2=> ?_
  refine hx (bH 1 rfl rfl rfl Tryz.underlying27 Tryz.underlying27 (by exact .inl rfl) eP rfl (fun m=>Src.bY (m.ord 0 rfl)) aS (by unfold maxLen;omega) (by omega) (fun u3=> ?_))
  refine aB (fun m=>(m.own 0 rfl).slice) ?_
  rintro⟨A_b173,c_b173,rfl,hc_b17⟩
  refine aB (fun m=>(m.ord 0 rfl).2.1) fun hA_b17=> ?_
  refine hy (fun _=>ab rfl)<|ai<|al (ρ' :=[(2,_),(6,_),(4,_),(3,_),(14,_),(5,_),(0,_)]) ⟨rfl,rfl,rfl,rfl,rfl,rfl,rfl,trivial⟩<|ak (X' :=[_,_,_,_]) (S' :=[_]) (fun _ m=>m)<|ag<|aU<| ?_
  have hol:2+4+(er l).length+4=(bA l).length:=by rw[hq];simp[eY,hl];try omega
  rw[hol]
  have hsl:aQ [76,1]++aQ (fZ n)++aQ (er l)++aQ (fZ (cJ l))=aQ (bA l):=by rw[hq,hl,bs,bs,bs]
  rw[hsl]
  exact bc trivial rfl rfl [0] rfl [] rfl ⟨_,rfl,rfl,rfl⟩
 ·have hq:bA l=[76,0]++fZ l.length++l++fZ (cJ l):=by
   have:uG l=false:=by unfold uG;exact decide_eq_false (by omega)
   unfold bA gW
   rw[this];rfl
  refine aD<|ag<|ah<|aj<|hy (fun _=>aa rfl)<| ?_
  refine hx (bV Tryz.underlying27 eP rfl rfl rfl (by simp[Value.cells,B8]) (by decide) (by decide) (fun g17=> ?_))
  have hA_b17:0<2→(some (⟨g17,0,none⟩:Addr))≠none:=fun _ h=>by cases h
  refine hy (fun _=>aa rfl)<|hy (fun _=>aX rfl Tryz.underlying27)<|hy (fun _=>bT rfl Tryz.underlying3 Tryz.underlying166 (wj (by omega) (by omega)))<| ?_
  refine hx (aq rfl Tryz.call179 (jh (by omega)) [] rfl [] rfl ?_)
  rintro _ _ _ ⟨v2,rfl,rfl,rfl⟩
  refine aB (fun m=>(m.own 0 rfl).slice) ?_
  rintro⟨A_x,c_x,rfl,hc_x⟩
  refine aB (fun m=>(m.ord 0 rfl).2.1) fun hA_x=> ?_
  refine aR (fun w m=>m.bO 1 rfl (show _=aG 5 1 (.slice (some ⟨g17,0,none⟩) 2 2) 2 (aQ [76,0])from rfl)) ?_
  refine hx (bH 0 rfl rfl rfl Tryz.underlying27 Tryz.underlying27 (by exact .inl rfl) eP rfl (fun m=>Src.bY (m.ord 1 rfl)) aS (by unfold maxLen;omega) (by omega) (fun u=> ?_))
  refine aB (fun m=>(m.own 0 rfl).slice) ?_
  rintro⟨A_b17,c_b17,rfl,hc_b17⟩
  refine aB (fun m=>(m.ord 0 rfl).2.1) fun hA_b17=> ?_
  refine hy (fun _=>ab rfl)<|ai<|al (ρ' :=[(6,_),(14,_),(5,_),(4,_),(3,_),(2,_),(0,_)]) ⟨rfl,rfl,rfl,rfl,rfl,rfl,rfl,trivial⟩<|ak (X' :=[_,_,_]) (S' :=[_]) (fun _ m=>m)<|ag<|ah<|aj<|hy (fun _=>aa rfl)<|hy (fun _=>aa rfl)<| ?_
  refine hx (bH 0 rfl rfl rfl Tryz.underlying27 Tryz.underlying27 (by exact .inl rfl) eP rfl (fun m=>Src.bY (m.rd 0 rfl)) aS (by unfold maxLen;omega) (by omega) (fun u2=> ?_))
  refine aB (fun m=>(m.own 0 rfl).slice) ?_
  rintro⟨A_b172,c_b172,rfl,hc_b17⟩
  refine aB (fun m=>(m.ord 0 rfl).2.1) fun hA_b17=> ?_
  refine hy (fun _=>ab rfl)<|ai<|al (ρ' :=[(6,_),(14,_),(5,_),(4,_),(3,_),(2,_),(0,_)]) ⟨rfl,rfl,rfl,rfl,rfl,rfl,rfl,trivial⟩<|ak (X' :=[_,_,_]) (S' :=[_]) (fun _ m=>m)<|ag<|ah<|aj<|hy (fun _=>aa rfl)<|hy (fun _=>aa rfl)<| ?_
  refine hx (aq rfl Tryz.call180 (ou (by omega)) [] rfl [0] rfl ?_)
  rintro _ _ _ ⟨rfl,rfl,rfl⟩
  refine hx (aq rfl Tryz.call179 (jh (by omega)) [] rfl [] rfl ?_)
  rintro _ _ _ ⟨v3,rfl,rfl,rfl⟩
  refine aB (fun m=>(m.own 0 rfl).slice) ?_
  rintro⟨A_x2,c_x2,rfl,hc_x2⟩
  refine aB (fun m=>(m.ord 0 rfl).2.1) fun hA_x2=> ?_
  refine hx (bH 1 rfl rfl rfl Tryz.underlying27 Tryz.underlying27 (by exact .inl rfl) eP rfl (fun m=>Src.bY (m.ord 0 rfl)) aS (by unfold maxLen;omega) (by omega) (fun u3=> ?_))
  refine aB (fun m=>(m.own 0 rfl).slice) ?_
  rintro⟨A_b173,c_b173,rfl,hc_b17⟩
  refine aB (fun m=>(m.ord 0 rfl).2.1) fun hA_b17=> ?_
  refine hy (fun _=>ab rfl)<|ai<|al (ρ' :=[(2,_),(6,_),(14,_),(5,_),(4,_),(3,_),(0,_)]) ⟨rfl,rfl,rfl,rfl,rfl,rfl,rfl,trivial⟩<|ak (X' :=[_,_,_,_]) (S' :=[_]) (fun _ m=>m)<|ag<|aU<| ?_
  have hol:2+4+n+4=(bA l).length:=by rw[hq];simp[eY,hl];try omega
  rw[hol]
  have hsl:aQ [76,0]++aQ (fZ n)++aQ l++aQ (fZ (cJ l))=aQ (bA l):=by rw[hq,hl,bs,bs,bs]
  rw[hsl]
  exact bc trivial rfl rfl [0] rfl [] rfl ⟨_,rfl,rfl,rfl⟩
theorem kE{f:List UInt8}(h:f.length<10∨f.getD 0 0≠76∨1<(f.getD 1 0).toNat):gq f=none:=by unfold gq;rw[if_pos h]
theorem xm{f:List UInt8}(h:¬(f.length<10∨f.getD 0 0≠76∨1<(f.getD 1 0).toNat)):gq f=some (j8 (f.drop 2)):=by unfold gq;rw[if_neg h]
theorem r6{A:Option Addr}{n c:Nat}{f:List UInt8}(hc:n≤c)(hn:n≤1000000000)(hl:f.length=n):cf Tryz.prog 211 [.slice A n c] [] [c6 1 A n (aQ f)] (fun v_ X_ S_=>v_=(.tuple #[.int .i64 (((gq f).getD 0:Nat):Int),.int .i64 (if(gq f).isSome then 0 else 2)])∧X_=[]∧S_=[]):=by
 have b0:=(f.getD 0 0).toNat_lt
 have b1:=(f.getD 1 0).toNat_lt
 refine aP (N:=34) Tryz.func211 rfl rfl (by simp) fun b=> ?_
 refine aZ (fun m=>gz (m.rd 0 rfl)) ?_
 rintro⟨hl_r,hA_r⟩
 refine ah<|aj<|hy (fun _=>ab rfl)<|hy (fun _=>ab rfl)<|ai<|ag<|ah<|ah<|aj<|hy (fun _=>aa rfl)<|hy (fun _=>aX rfl Tryz.underlying27)<|hy (fun _=>bw rfl rfl)<|hy (fun _=>aa rfl)<| ?_
 refine eE 9 rfl (fun h1=> ?_) (fun h1=> ?_)
 ·refine bx rfl rfl rfl (by decide)<|bx rfl rfl rfl (by decide)<|bx rfl rfl rfl (by decide)<|bx rfl rfl rfl (by decide)<|hy (fun _=>bU rfl rfl)<|hy (fun _=>aa rfl)<| ?_
  rw[kE (.inl (by omega))]
  refine bx rfl rfl rfl (by decide)<|bx rfl rfl rfl (by decide)<|bx rfl rfl rfl (by decide)<|bx rfl rfl rfl (by decide)<|hy (fun _=>bU rfl rfl)<|ai<|al (ρ' :=[(20,_),(3,_),(2,_),(0,_)]) ⟨rfl,rfl,rfl,rfl,trivial⟩<|ag<| ?_
  refine ib rfl (rfl) ?_
  refine ah<|aj<|hy (fun _=>ab rfl)<|hy (fun _=>ab rfl)<|ai<|ag<|aU<|ax<| ?_
  exact dg trivial rfl rfl rfl [] rfl [] rfl ⟨rfl,rfl,rfl⟩
 ·refine dQ (o:=_) rfl rfl rfl (fun _=>aa rfl)<|dQ (o:=_) rfl rfl rfl (fun _=>aO rfl rfl Tryz.underlying27 dZ hA_r (show((0:Nat):Int)=0 from rfl) (by omega))<|dQ (o:=_) rfl rfl rfl (fun m=>aw rfl jt ((m.rd 0 rfl).cell (bI (by omega))))<|dQ (o:=_) rfl rfl rfl (fun _=>dN rfl rfl)<|hy (fun _=>bP rfl rfl)<|hy (fun _=>aa rfl)<| ?_
  refine eE 15 rfl (fun h2=> ?_) (fun h2=> ?_)
  ·rw[kE (.inr (.inl (fun e=>h2 (by rw[e];rfl))))]
   refine bx rfl rfl rfl (by decide)<|bx rfl rfl rfl (by decide)<|bx rfl rfl rfl (by decide)<|bx rfl rfl rfl (by decide)<|hy (fun _=>bU rfl rfl)<|ai<|al (ρ' :=[(20,_),(3,_),(2,_),(0,_)]) ⟨rfl,rfl,rfl,rfl,trivial⟩<|ag<| ?_
   refine ib rfl (rfl) ?_
   refine ah<|aj<|hy (fun _=>ab rfl)<|hy (fun _=>ab rfl)<|ai<|ag<|aU<|ax<| ?_
   exact dg trivial rfl rfl rfl [] rfl [] rfl ⟨rfl,rfl,rfl⟩
  ·refine dQ (o:=_) rfl rfl rfl (fun _=>aa rfl)<|dQ (o:=_) rfl rfl rfl (fun _=>aO rfl rfl Tryz.underlying27 dZ hA_r (show((1:Nat):Int)=1 from rfl) (by omega))<|dQ (o:=_) rfl rfl rfl (fun m=>aw rfl jt ((m.rd 0 rfl).cell (bI (by omega))))<|dQ (o:=_) rfl rfl rfl (fun _=>cR rfl rfl)<|hy (fun _=>bP rfl rfl)<|ai<|al (ρ' :=[(20,_),(3,_),(2,_),(0,_)]) ⟨rfl,rfl,rfl,rfl,trivial⟩<|ag<| ?_
   refine cD rfl (fun h3=> ?_) (fun h3=> ?_)
   ·rw[kE (.inr (.inr (by omega)))]
    refine ah<|aj<|hy (fun _=>ab rfl)<|hy (fun _=>ab rfl)<|ai<|ag<|aU<|ax<| ?_
    exact dg trivial rfl rfl rfl [] rfl [] rfl ⟨rfl,rfl,rfl⟩
   ·have h2' :f.getD 0 0=76:=UInt8.toNat_inj.1 (by have:=Decidable.not_not.1 h2;show _=76;omega)
    rw[xm (by rintro(q|q|q);omega;exact q h2';omega)]
    refine aD<|ag<|ah<|aj<|hy (fun _=>ab rfl)<|ai<|ag<|ah<|ah<|aj<|hy (fun _=>ab rfl)<|ai<|ag<|aK<| ?_
    refine dz (fun j=>4-j) (fun j=>[(4,.int .i64 ((acc ((f.drop 2).take 4) j:Nat):Int)),(5,.int .i64 (5-(j:Int)))]) (fun j=>[]) (fun j=>[]) (fun j=>j≤4) 0 [(20,_),(3,_),(2,_),(0,_)] ⟨rfl,rfl,rfl,rfl,trivial⟩ [] rfl [] rfl (Nat.zero_le _) ⟨rfl,rfl,trivial⟩ (fun j hI=> ?_)
    refine ah<|ah<|aj<|hy (fun _=>aa rfl)<|hy (fun _=>cR rfl rfl)<|ai<|al (ρ' :=[(22,_),(4,_),(5,_),(20,_),(3,_),(2,_),(0,_)]) ⟨rfl,rfl,rfl,rfl,rfl,rfl,rfl,trivial⟩<|ag<| ?_
    refine cD rfl (fun hj=> ?_) (fun hj=> ?_)
    ·have hl4:((f.drop 2).take 4).length=4:=by rw[List.length_take,List.length_drop];omega
     have hac:=EA ((f.drop 2).take 4) (show j≤4 by omega)
     have hby:(((f.drop 2).take 4).getD (3-j) 0).toNat<256:=UInt8.toNat_lt _
     have hget:f.getD (5-j) 0=((f.drop 2).take 4).getD (3-j) 0:=by
      simp only[List.getD,List.getElem?_take,List.getElem?_drop]
      rw[if_pos (by omega),show 2+(3-j)=5-j by omega]
     refine aD<|ag<|ah<|aK<|aj<|hy (fun _=>aa rfl)<|hy (fun _=>sL (p:=256) rfl rfl (by decide) (by decide) (by decide) (bD (by omega) (by omega)))<|hy (fun _=>aa rfl)<|hy (fun _=>aa rfl)<|hy (fun _=>aO rfl rfl Tryz.underlying27 dZ hA_r (show((5-j:Nat):Int)=_ by omega) (by omega))<|hy (fun m=>yV (aw rfl jt ((m.rd 0 rfl).cell (bI (by omega)))) ((show B8 (f.getD (5-j) 0)=B8 (((f.drop 2).take 4).getD (3-j) 0) by rw[hget])))<|hy (fun _=>bT rfl Tryz.underlying5 Tryz.underlying3 (As _))<|hy (fun _=>gx (by simp) rfl rfl (Bi _ _ hac hby))<|hy (fun _=>ab rfl)<|ai<|al (ρ' :=[(4,_),(22,_),(5,_),(20,_),(3,_),(2,_),(0,_)]) ⟨rfl,rfl,rfl,rfl,rfl,rfl,rfl,trivial⟩<|aT<|ag<|aj<|hy (fun _=>aa rfl)<|hy (fun _=>yV (ck rfl rfl (bD (by omega) (by omega))) ((show Value.int .i64 ((5-(j:Int))-1)= .int .i64 (5-((j+1:Nat):Int)) by congr 1;omega)))<|hy (fun _=>ab rfl)<|ai<|al (ρ' :=[(5,_),(4,_),(22,_),(20,_),(3,_),(2,_),(0,_)]) ⟨rfl,rfl,rfl,rfl,rfl,rfl,rfl,trivial⟩<| ?_
     refine cM (j+1) ⟨rfl,rfl,rfl,rfl,rfl,rfl,trivial⟩ [] rfl [0] rfl (by omega) (by omega)
    ·obtain rfl:j=4:=by omega
     have e4:acc ((f.drop 2).take 4) 4=j8 (f.drop 2):=by
      rw[F8]
      have hx:∀q:Nat,q<4→((f.drop 2).take 4).getD q 0=(f.drop 2).getD q 0:=fun q hq=>by simp only[List.getD,List.getElem?_take,if_pos hq]
      unfold j8
      rw[hx 0 (by decide),hx 1 (by decide),hx 2 (by decide),hx 3 (by decide)]
     rw[e4]
     refine bK<|ao<|ao<|aC<|ag<|ah<|aj<|hy (fun _=>aa rfl)<|hy (fun _=>ab rfl)<|hy (fun _=>ab rfl)<|ai<|al (ρ' :=[(3,_),(2,_),(22,_),(4,_),(5,_),(20,_),(0,_)]) ⟨rfl,rfl,rfl,rfl,rfl,rfl,rfl,trivial⟩<|ag<|aU<| ?_
     exact dg trivial rfl rfl rfl [] rfl [] rfl ⟨rfl,rfl,rfl⟩
theorem BJ{A:Option Addr}{n c:Nat}{f:List UInt8}(hc:n≤c)(hn:n≤1000000000)(hl:f.length=n):cf Tryz.prog 213 [.slice A n c] [] [c6 1 A n (aQ f)] (fun v_ X_ S_=>v_=(.bool (decide ((gq f).isSome∧f.getD 1 0=1)))∧X_=[]∧S_=[]):=by
 refine aP (N:=18) Tryz.func213 rfl rfl (by simp) fun b=> ?_
 refine aZ (fun m=>gz (m.rd 0 rfl)) ?_
 rintro⟨hl_r,hA_r⟩
 refine ah<|aj<|hy (fun _=>ab rfl)<|ai<|ag<|ah<|aj<|hy (fun _=>aa rfl)<| ?_
 refine hx (aq rfl Tryz.call211 (r6 (by omega) (by omega) (by omega)) [] rfl [0] rfl ?_)
 rintro _ _ _ ⟨rfl,rfl,rfl⟩
 refine hy (fun _=>aa rfl)<|hy (fun _=>au rfl rfl)<|hy (fun _=>au rfl rfl)<|hy (fun _=>ab rfl)<|hy (fun _=>ab rfl)<|ai<|al (ρ' :=[(4,_),(2,_),(0,_)]) ⟨rfl,rfl,rfl,trivial⟩<|ak (X' :=[]) (S' :=[_]) (fun _ m=>m)<|ag<|ah<|aj<|hy (fun _=>aa rfl)<|hy (fun _=>cH rfl rfl)<|hy (fun _=>aa rfl)<| ?_
 refine eE 12 rfl (fun hs=> ?_) (fun hs=> ?_)
 ·have hs1:(gq f).isSome=true:=by
   cases h:(gq f).isSome with
   |true=>rfl
   |false=>rw[h]at hs;exact absurd hs (by decide)
  have hn10:¬n<10:=fun h=>by rw[kE (.inl (by omega))]at hs1;cases hs1
  have hd:decide ((gq f).isSome∧f.getD 1 0=1)=decide (((f.getD 1 0).toNat:Int)=1):=decide_eq_decide.2 ⟨fun h=>by rw[h.2];rfl,fun h=>⟨hs1,UInt8.toNat_inj.1 (by show _=1;omega)⟩⟩
  rw[hd]
  refine dQ (o:=_) rfl rfl rfl (fun _=>aa rfl)<|dQ (o:=_) rfl rfl rfl (fun _=>aO rfl rfl Tryz.underlying27 dZ hA_r (show((1:Nat):Int)=1 from rfl) (by omega))<|dQ (o:=_) rfl rfl rfl (fun m=>aw rfl jt ((m.rd 0 rfl).cell (bI (by omega))))<|dQ (o:=_) rfl rfl rfl (fun _=>cH rfl rfl)<|hy (fun _=>bU rfl rfl)<|hy (fun _=>ab rfl)<|ai<|al (ρ' :=[(2,_),(4,_),(0,_)]) ⟨rfl,rfl,rfl,trivial⟩<|ag<|aU<| ?_
  exact bc trivial rfl rfl [] rfl [] rfl ⟨rfl,rfl,rfl⟩
 ·have hd:decide ((gq f).isSome∧f.getD 1 0=1)=false:=decide_eq_false fun h=>hs (by rw[h.1];rfl)
  rw[hd]
  refine bx rfl rfl rfl (by decide)<|bx rfl rfl rfl (by decide)<|bx rfl rfl rfl (by decide)<|bx rfl rfl rfl (by decide)<|hy (fun _=>bP rfl rfl)<|hy (fun _=>ab rfl)<|ai<|al (ρ' :=[(2,_),(4,_),(0,_)]) ⟨rfl,rfl,rfl,trivial⟩<|ag<|aU<| ?_
  exact bc trivial rfl rfl [] rfl [] rfl ⟨rfl,rfl,rfl⟩
end Go.Proofs.YtmibdabdlgmafaaGreatDoor
end
section
set_option maxRecDepth 20000
set_option maxHeartbeats 2000000
namespace Go.Proofs.YtmibdabdlgmafaaGreatDoor
open Go.Eng Go.Hx
theorem Fq{v:Value}(h:v.oneCell' =true:=by rfl):∀u∈ [v],u.oneCell' =true:=fun u hu=>by rw[List.mem_singleton.1 hu];exact h
theorem nK{q:Bool}{e:Int}:DQ Tryz.prog 212 [.bool q,.int .i64 e] [] [] (fun v_ X_ S_=>v_=(.tuple #[])∧X_=[]∧S_=[]∧(q=true)) (fun v_ X_ S_=>v_=(.iface 288 (.agg #[.int .i64 e]))∧X_=[]∧S_=[]∧(q=false)):=by
 refine AF (N:=9) Tryz.func212 rfl rfl (by simp) fun b=> ?_
 refine ah<|aj<|hy (fun _=>aa rfl)<|hy (fun _=>(mH rfl))<|ai<|al (ρ' :=[(5,_),(0,_),(1,_)]) ⟨rfl,rfl,rfl,trivial⟩<|ag<| ?_
 refine zw rfl (fun hq=> ?_) (fun hq=> ?_)
 ·refine aj<|hy (fun _=>aa rfl)<|hy (fun _=>cn wm rfl rfl (by kernel_rfl) (.cons (o:=0) (sz:=1) (by kernel_rfl) rfl rfl (Nat.le_of_ble_eq_true rfl) .nil))<|hy (fun _=>ke rfl Tryz.underlying288 (fun _ h=>by cases h))<| ?_
  refine cI (yC rfl ?_)
  exact Fh [] rfl [] rfl ⟨rfl,rfl,rfl,(by simpa using hq)⟩
 ·refine aD<| ?_
  refine Fv ?_
  exact fD trivial rfl [] rfl [] rfl ⟨rfl,rfl,rfl,(by simpa using hq)⟩
theorem fQ{g4 g5:Nat}{v:Value}{e0 e:Int}:B6 Tryz.prog 210 [.pointer (some ⟨g4,0,none⟩),.pointer (some ⟨g5,0,none⟩)] (.panicking (FF (.iface 288 (.agg #[.int .i64 e])))) [aI g4 27 [v],aI g5 47 [.int .i64 e0]] [] (fun u_ X_ S_=>u_= .returning∧X_=[aI g4 27 [.slice none 0 0],aI g5 47 [.int .i64 e]]∧S_=[]):=by
 refine wB (N:=12) Tryz.func210 rfl rfl (by simp) fun b c_0 cs_ hu_=> ?_
 show tX _ _ _ _ _ [0,1,2,3,4,5,6,7] _ _ _ _ _
 refine AV rfl hu_ ?_
 refine lg rfl (fun _=>qW rfl (yi Tryz.underlying288))<|lg rfl (fun _=>aa rfl)<|lg rfl (fun _=>au rfl rfl)<|lg rfl (fun _=>au rfl rfl)<| ?_
 refine CK rfl (aN wm (fun g2=> ?_))
 refine yK rfl (aJ 0 rfl rfl rfl CF rfl Fq rfl ?_)
 refine DT (fun w m=>m.bO 0 rfl (show _=aI g2 288 [.int .i64 e]from rfl)) ?_
 refine lg rfl (fun _=>ab rfl)<|sF<|bB (X' :=[_,_,_]) (S' :=[]) (fun _ m=>m)<|ah<|aj<|hy (fun _=>aa rfl)<|ai<|al (ρ' :=[(9,_),(3,_),(2,_),(0,_),(1,_)]) ⟨rfl,rfl,rfl,rfl,rfl,trivial⟩<|ag<| ?_
 refine ib rfl (rfl) ?_
 refine qg [0] [] rfl rfl [2,3] [(0,some 1),(1,some 1),(2,none),(3,none)] (by kernel_rfl) (by kernel_rfl) rfl 99<|an (aL rfl By (by decide))<|b6 (fun m=>aw rfl k8 (aA (m.aY 0 rfl) (i:=0) rfl))<| ?_
 refine j5 (dI 1 rfl rfl rfl pI rfl (by first|exact Nat.le_of_ble_eq_true rfl|simp) ⟨(fun _=>wk [1] [] rfl rfl), ?_⟩)
 refine j5 (dI 2 rfl rfl rfl xg rfl (by first|exact Nat.le_of_ble_eq_true rfl|simp) ⟨(fun _=>wk [2] [] rfl rfl), ?_⟩)
 refine bz<|al (ρ' :=[(9,_),(3,_),(2,_),(0,_),(1,_)]) ⟨rfl,rfl,rfl,rfl,rfl,trivial⟩<|ak (X' :=[_,_,_]) (S' :=[]) (fun _ m=>m)<| ?_
 exact fD trivial rfl [1,0] rfl [] rfl ⟨rfl,rfl,rfl,rfl⟩
theorem tP{g4 g5:Nat}{v:Value}{e:Int}:B6 Tryz.prog 210 [.pointer (some ⟨g4,0,none⟩),.pointer (some ⟨g5,0,none⟩)] .returning [aI g4 27 [v],aI g5 47 [.int .i64 e]] [] (fun u_ X_ S_=>u_= .returning∧X_=[aI g4 27 [v],aI g5 47 [.int .i64 e]]∧S_=[]):=by
 refine wB (N:=12) Tryz.func210 rfl rfl (by simp) fun b c_0 cs_ hu_=> ?_
 show tX _ _ _ _ _ [0,1,2,3,4,5,6,7] _ _ _ _ _
 refine zR rfl hu_ ?_
 refine lg rfl (fun _=>qW rfl (yG Tryz.underlying288 wm))<|lg rfl (fun _=>aa rfl)<|lg rfl (fun _=>au rfl rfl)<|lg rfl (fun _=>au rfl rfl)<| ?_
 refine CK rfl (aN wm (fun g2=> ?_))
 refine yK rfl (aJ 0 rfl rfl rfl CF rfl Fq rfl ?_)
 refine lg rfl (fun _=>ab rfl)<|sF<|bB (X' :=[_,_,_]) (S' :=[]) (fun _ m=>m)<|ah<|aj<|hy (fun _=>aa rfl)<|ai<|al (ρ' :=[(9,_),(3,_),(2,_),(0,_),(1,_)]) ⟨rfl,rfl,rfl,rfl,rfl,trivial⟩<|ag<| ?_
 refine dP rfl (rfl) ?_
 refine aD<| ?_
 exact fD trivial rfl [1,1] rfl [] rfl ⟨rfl,rfl,rfl,rfl⟩
end Go.Proofs.YtmibdabdlgmafaaGreatDoor
end
section
set_option maxRecDepth 20000
set_option maxHeartbeats 2000000
namespace Go.Proofs.YtmibdabdlgmafaaGreatDoor
open Go.Eng Go.Hx
theorem Ej{A:Option Addr}{n c:Nat}{l:List UInt8}(h0:0<n)(hn:n≤140737488351232):cf Tryz.prog 257 [.slice A n c] [] [c6 1 A n (aQ l)] (fun v_ X_ S_=>v_=(.tuple #[.int .i64 ((cF l).1:Nat),.int .i64 ((cF l).2.1:Nat),.int .i64 ((cF l).2.2.1:Nat),.bool (cF l).2.2.2])∧X_=[]∧S_=[]):=by
 have b0:=(l.getD 0 0).toNat_lt
 have b1:=(l.getD 1 0).toNat_lt
 have b2:=(l.getD 2 0).toNat_lt
 refine aP (N:=39) Tryz.func257 rfl rfl (by simp) fun b=> ?_
 refine aZ (fun m=>gz (m.rd 0 rfl)) ?_
 rintro⟨hl_r,hA_r⟩
 refine ah<|aj<|hy (fun _=>ab rfl)<|hy (fun _=>ab rfl)<|hy (fun _=>ab rfl)<|hy (fun _=>ab rfl)<|ai<|ag<|ah<|aj<|hy (fun _=>aa rfl)<|hy (fun _=>aO rfl rfl Tryz.underlying27 dZ hA_r (show((0:Nat):Int)=0 from rfl) (by omega))<|hy (fun m=>aw rfl jt ((m.rd 0 rfl).cell (bI (by omega))))<|hy (fun _=>bT rfl Tryz.underlying5 Tryz.underlying3 (bD (by omega) (by omega)))<|hy (fun _=>ab rfl)<|ai<|al (ρ' :=[(6,_),(5,_),(4,_),(3,_),(2,_),(0,_)]) ⟨rfl,rfl,rfl,rfl,rfl,rfl,trivial⟩<|ag<|ah<|ah<|aj<|hy (fun _=>aa rfl)<|hy (fun _=>bw rfl rfl)<|ai<|al (ρ' :=[(12,_),(6,_),(5,_),(4,_),(3,_),(2,_),(0,_)]) ⟨rfl,rfl,rfl,rfl,rfl,rfl,rfl,trivial⟩<|ag<| ?_
 refine cD rfl (fun h1=> ?_) (fun h1=> ?_)
 ·have e:cF l=((l.getD 0 0).toNat+2,(l.getD 0 0).toNat+1,0,decide ((l.getD 0 0).toNat+2≤l.length)):=by rw[cF,if_pos (by omega)]
  rw[e]
  refine ah<|aj<|hy (fun _=>aa rfl)<|hy (fun _=>aM rfl rfl (bD (by omega) (by omega)))<|hy (fun _=>aa rfl)<|hy (fun _=>aM rfl rfl (bD (by omega) (by omega)))<|hy (fun _=>aa rfl)<|hy (fun _=>aX rfl Tryz.underlying27)<|hy (fun _=>aa rfl)<|hy (fun _=>aM rfl rfl (bD (by omega) (by omega)))<|hy (fun _=>yV (jZ rfl rfl) ((congrArg Value.bool (decide_eq_decide.2 (by omega)):Value.bool (decide ((n:Int)≥((l.getD 0 0).toNat:Int)+2))= .bool (decide ((l.getD 0 0).toNat+2≤l.length)))))<|hy (fun _=>ab rfl)<|hy (fun _=>ab rfl)<|hy (fun _=>ab rfl)<|hy (fun _=>ab rfl)<|ai<|al (ρ' :=[(5,_),(4,_),(3,_),(2,_),(12,_),(6,_),(0,_)]) ⟨rfl,rfl,rfl,rfl,rfl,rfl,rfl,trivial⟩<|ag<|aU<|ax<| ?_
  exact yS trivial rfl rfl rfl rfl rfl [] rfl [] rfl ⟨rfl,rfl,rfl⟩
 ·refine aD<|ag<|ah<|ah<|aj<|hy (fun _=>aa rfl)<|hy (fun _=>aX rfl Tryz.underlying27)<|hy (fun _=>bw rfl rfl)<|ai<|al (ρ' :=[(24,_),(12,_),(6,_),(5,_),(4,_),(3,_),(2,_),(0,_)]) ⟨rfl,rfl,rfl,rfl,rfl,rfl,rfl,rfl,trivial⟩<|ag<| ?_
  refine cD rfl (fun h3=> ?_) (fun h3=> ?_)
  ·have e:cF l=(0,0,0,false):=by rw[cF,if_neg (by omega),if_pos (by omega)]
   rw[e]
   refine ah<|aj<|hy (fun _=>ab rfl)<|hy (fun _=>ab rfl)<|hy (fun _=>ab rfl)<|hy (fun _=>ab rfl)<|ai<|ag<|aU<|ax<| ?_
   exact yS trivial rfl rfl rfl rfl rfl [] rfl [] rfl ⟨rfl,rfl,rfl⟩
  ·have e:cF l=(3,(l.getD 0 0).toNat-124,1+(l.getD 1 0).toNat+256*(l.getD 2 0).toNat,true):=by rw[cF,if_neg (by omega),if_neg (by omega)]
   rw[e]
   refine aD<|ag<|ah<|cN [] [(0,some 0),(1,some 0),(2,some 0),(3,some 0),(4,some 0),(5,some 0),(6,some 0),(7,some 0),(8,some 0),(9,some 0),(10,some 0),(11,some 0),(12,some 0),(13,some 0),(14,some 0),(15,some 0),(16,some 0),(17,some 0)] (by kernel_rfl) (by kernel_rfl) rfl 99<|an (aa rfl)<|an (ck rfl rfl (bD (by omega) (by omega)))<|an (yV (aM rfl rfl (bD (by omega) (by omega))) ((show Value.int .i64 (((l.getD 0 0).toNat:Int)-128+4)= .int .i64 (((l.getD 0 0).toNat-124:Nat):Int) by congr 1;omega)))<|an (aa rfl)<|an (aO rfl rfl Tryz.underlying27 dZ hA_r (show((1:Nat):Int)=1 from rfl) (by omega))<|b6 (fun m=>aw rfl jt ((m.rd 0 rfl).cell (bI (by omega))))<|an (bT rfl Tryz.underlying5 Tryz.underlying3 (bD (by omega) (by omega)))<|an (aM rfl rfl (bD (by omega) (by omega)))<|an (aa rfl)<|an (aO rfl rfl Tryz.underlying27 dZ hA_r (show((2:Nat):Int)=2 from rfl) (by omega))<|b6 (fun m=>aw rfl jt ((m.rd 0 rfl).cell (bI (by omega))))<|an (bT rfl Tryz.underlying5 Tryz.underlying3 (bD (by omega) (by omega)))<|an (sL (p:=256) rfl rfl (by decide) (by decide) (by decide) (bD (by omega) (by omega)))<|an (yV (aM rfl rfl (bD (by omega) (by omega))) ((show Value.int .i64 (1+((l.getD 1 0).toNat:Int)+((l.getD 2 0).toNat:Int)*256)= .int .i64 ((1+(l.getD 1 0).toNat+256*(l.getD 2 0).toNat:Nat):Int) by congr 1;omega)))<|an (ab rfl)<|an (ab rfl)<|an (ab rfl)<|an (ab rfl)<|bz<|al (ρ' :=[(5,_),(4,_),(3,_),(2,_),(24,_),(12,_),(6,_),(0,_)]) ⟨rfl,rfl,rfl,rfl,rfl,rfl,rfl,rfl,trivial⟩<|ag<|aU<| ?_
   exact yS trivial rfl rfl rfl rfl rfl [] rfl [] rfl ⟨rfl,rfl,rfl⟩
theorem BI{A:Option Addr}{c:Nat}{l:List UInt8}{z:Int}(hc:l.length≤c)(hn:l.length≤10000000)(hz:z≤10000000):cf Tryz.prog 214 [.slice A l.length c,.int .i64 z] [] [c6 1 A l.length (aQ l)] (fun v_ X_ S_=>∃v,v_=(.tuple #[v,.int .i64 (jr z l []).2])∧X_=[aG 5 1 v (jr z l []).1.length (aQ (jr z l []).1)]∧S_=[]):=by
 refine aP (N:=66) Tryz.func214 rfl rfl (by simp) fun b=> ?_
 refine aZ (fun m=>gz (m.rd 0 rfl)) ?_
 rintro⟨hl_r,hA_r⟩
 refine ah<|aj<|hy (fun _=>ab rfl)<|hy (fun _=>ab rfl)<|ai<|ag<|ah<|aj<|hy (fun _=>ab rfl)<|ai<|ag<|ah<|aK<| ?_
 refine bB (fun w m=>m.dx (r' :=aG 5 1 (.slice none 0 0) 0 []) (.refl _ _) (Own.nil _ _ _ _) (fun k hk=>hk.elim)) ?_
 refine pf (fun p o A2 c2 A3 c3=>p.length) (fun p o A2 c2 A3 c3=>[(0,.slice A2 p.length c2),(6,.slice A3 o.length c3)]) (fun p o A2 c2 A3 c3=>[aG 5 1 (.slice A3 o.length c3) o.length (aQ o)]) (fun p o A2 c2 A3 c3=>[c6 1 A2 p.length (aQ p)]) (fun p o A2 c2 A3 c3=>p.length≤c2∧p.length≤10000000∧o.length≤10000000∧jr z p o=jr z l []) l [] A c none 0 [(1,_)] ⟨rfl,trivial⟩ [0] rfl [0] rfl (⟨hc,hn,by decide,rfl⟩) ⟨rfl,rfl,trivial⟩ (fun p o A2 c2 A3 c3 ⟨hpc,hpn,hon,hU⟩=> ?_)
 refine ah<|ah<|aj<|hy (fun _=>aa rfl)<|hy (fun _=>aX rfl Tryz.underlying27)<|hy (fun _=>cR rfl rfl)<|ai<|al (ρ' :=[(14,_),(0,_),(6,_),(1,_)]) ⟨rfl,rfl,rfl,rfl,trivial⟩<|ag<| ?_
 refine cD rfl (fun hlt=> ?_) (fun hlt=> ?_)
 ·have hp0:p≠ []:=fun e=>by rw[e]at hlt;exact absurd hlt (by decide)
  obtain⟨ht1,ht2⟩:=Ei p
  refine aD<|ag<|aK<|ah<|aj<|hy (fun _=>aa rfl)<| ?_
  refine hx (aq rfl Tryz.call257 (Ej (by omega) (by omega)) [] rfl [0] rfl ?_)
  rintro _ _ _ ⟨rfl,rfl,rfl⟩
  refine hy (fun _=>aa rfl)<|hy (fun _=>au rfl rfl)<|hy (fun _=>au rfl rfl)<|hy (fun _=>au rfl rfl)<|hy (fun _=>au rfl rfl)<|hy (fun _=>ab rfl)<|hy (fun _=>ab rfl)<|hy (fun _=>ab rfl)<|hy (fun _=>ab rfl)<|ai<|al (ρ' :=[(10,_),(9,_),(8,_),(7,_),(14,_),(0,_),(6,_),(1,_)]) ⟨rfl,rfl,rfl,rfl,rfl,rfl,rfl,rfl,trivial⟩<|ak (X' :=[_]) (S' :=[_,_]) (fun _ m=>m)<|ag<|ah<|ah<|aj<|hy (fun _=>aa rfl)<|hy (fun _=>(mH rfl))<|hy (fun _=>aa rfl)<| ?_
  refine Cb 24 rfl (fun hw=> ?_) (fun hw=> ?_)
  ·rw[kH hp0 (fun h=>by rw[h.1]at hw;cases hw)]at hU
   rw[←hU]
   refine bx rfl rfl rfl (by decide)<|bx rfl rfl rfl (by decide)<|bx rfl rfl rfl (by decide)<|bx rfl rfl rfl (by decide)<|hy (fun _=>bU rfl rfl)<|ai<|al (ρ' :=[(29,_),(10,_),(9,_),(8,_),(7,_),(14,_),(0,_),(6,_),(1,_)]) ⟨rfl,rfl,rfl,rfl,rfl,rfl,rfl,rfl,rfl,trivial⟩<|ag<| ?_
   refine ib rfl (rfl) ?_
   refine ah<|aj<|hy (fun _=>ab rfl)<|hy (fun _=>ab rfl)<|ai<|ag<|aU<|ax<|aW<|ax<|aW<|ax<| ?_
   refine ak (fun w m=>m.dx (r' :=aG 5 1 (.slice none 0 0) 0 []) (.refl _ _) (Own.nil _ _ _ _) (fun k hk=>hk.elim)) ?_
   exact dg trivial rfl rfl rfl [0] rfl [] rfl ⟨_,rfl,rfl,rfl⟩
  ·have hw1:(cF p).2.2.2=true:=by simpa using hw
   refine dQ (o:=_) rfl rfl rfl (fun _=>aa rfl)<|dQ (o:=_) rfl rfl rfl (fun _=>aa rfl)<|dQ (o:=_) rfl rfl rfl (fun _=>aX rfl Tryz.underlying27)<|dQ (o:=_) rfl rfl rfl (fun _=>cR rfl rfl)<|hy (fun _=>bP rfl rfl)<|ai<|al (ρ' :=[(29,_),(10,_),(9,_),(8,_),(7,_),(14,_),(0,_),(6,_),(1,_)]) ⟨rfl,rfl,rfl,rfl,rfl,rfl,rfl,rfl,rfl,trivial⟩<|ag<| ?_
   refine cD rfl (fun hd=> ?_) (fun hd=> ?_)
   ·rw[kH hp0 (fun h=>by omega)]at hU
    rw[←hU]
    refine ah<|aj<|hy (fun _=>ab rfl)<|hy (fun _=>ab rfl)<|ai<|ag<|aU<|ax<|aW<|ax<|aW<|ax<| ?_
    refine ak (fun w m=>m.dx (r' :=aG 5 1 (.slice none 0 0) 0 []) (.refl _ _) (Own.nil _ _ _ _) (fun k hk=>hk.elim)) ?_
    exact dg trivial rfl rfl rfl [0] rfl [] rfl ⟨_,rfl,rfl,rfl⟩
   ·have hd1:(cF p).2.2.1≤o.length:=by omega
    refine aD<|ag<|ah<|ah<|aj<|hy (fun _=>aa rfl)<|hy (fun _=>aX rfl Tryz.underlying27)<|hy (fun _=>aa rfl)<|hy (fun _=>aM rfl rfl (bD (by omega) (by omega)))<|hy (fun _=>aa rfl)<|hy (fun _=>cR rfl rfl)<|ai<|al (ρ' :=[(35,_),(29,_),(10,_),(9,_),(8,_),(7,_),(14,_),(0,_),(6,_),(1,_)]) ⟨rfl,rfl,rfl,rfl,rfl,rfl,rfl,rfl,rfl,rfl,trivial⟩<|ag<| ?_
    refine cD rfl (fun hm=> ?_) (fun hm=> ?_)
    ·rw[ov hp0 hw1 hd1 (by omega)]at hU
     rw[←hU]
     refine ah<|aj<|hy (fun _=>ab rfl)<|hy (fun _=>ab rfl)<|ai<|ag<|aU<|ax<|aW<|ax<|aW<|ax<| ?_
     refine ak (fun w m=>m.dx (r' :=aG 5 1 (.slice none 0 0) 0 []) (.refl _ _) (Own.nil _ _ _ _) (fun k hk=>hk.elim)) ?_
     exact dg trivial rfl rfl rfl [0] rfl [] rfl ⟨_,rfl,rfl,rfl⟩
    ·rw[mZ hp0 hw1 hd1 (by omega)]at hU
     obtain⟨hs2,hs3⟩:=kJ hw1
     have hml:=nQ (o:=o) hw1
     have hmn:(made p o).length≤10000000:=by omega
     have hdl:p.length-(cF p).1=(p.drop (cF p).1).length:=by rw[List.length_drop]
     generalize hsz:(cF p).1=sz at hs2 hs3 hU hdl ⊢
     refine aD<|ag<|ah<|ah<|aj<|hy (fun _=>aa rfl)<|hy (fun _=>cH rfl rfl)<|ai<|al (ρ' :=[(37,_),(35,_),(29,_),(10,_),(9,_),(8,_),(7,_),(14,_),(0,_),(6,_),(1,_)]) ⟨rfl,rfl,rfl,rfl,rfl,rfl,rfl,rfl,rfl,rfl,rfl,trivial⟩<|ag<| ?_
     refine cD rfl (fun hz0=> ?_) (fun hz0=> ?_)
     ·have hd0:(cF p).2.2.1=0:=by omega
      have hma:made p o=o++(p.drop 1).take (sz-1):=by rw[made,if_pos hd0,hsz]
      refine bB (fun w m=>m.j6 0 rfl (View.sub (n:=p.length) (c:=c2) (k:=1) (m:=sz-1) (by omega) (by omega))) ?_
      refine aZ (fun m=>gz (m.rd 0 rfl)) ?_
      rintro⟨hl_q,hA_q⟩
      refine aj<|hy (fun _=>aa rfl)<|hy (fun _=>aa rfl)<|hy (fun _=>aa rfl)<|hy (fun _=>ey rfl rfl rfl Tryz.underlying27 dZ (show((1:Nat):Int)=1 from rfl) (rfl:((sz:Nat):Int)=_) (by omega) (by omega))<| ?_
      refine hx (bH 0 rfl rfl rfl Tryz.underlying27 Tryz.underlying27 (by exact .inl rfl) eP rfl (fun m=>Src.bY (m.rd 0 rfl)) aS (by unfold maxLen;omega) (by omega) (fun u=> ?_))
      refine aB (fun m=>(m.own 0 rfl).slice) ?_
      rintro⟨A_x,c_x,rfl,hc_x⟩
      refine aB (fun m=>(m.ord 0 rfl).2.1) fun hA_x=> ?_
      have hlm:o.length+(sz-1)=(made p o).length:=by rw[hma,List.length_append,List.length_take,List.length_drop];omega
      rw[hlm]at hc_x hA_x ⊢
      refine aR (fun w m=>m.bO 0 rfl (show _=aG 5 1 (.slice A_x (made p o).length c_x) (made p o).length (aQ (made p o))from congrArg (aG _ _ _ _) (by rw[hma,bs]))) ?_
      refine hy (fun _=>ab rfl)<|ai<|al (ρ' :=[(6,_),(37,_),(35,_),(29,_),(10,_),(9,_),(8,_),(7,_),(14,_),(0,_),(1,_)]) ⟨rfl,rfl,rfl,rfl,rfl,rfl,rfl,rfl,rfl,rfl,rfl,trivial⟩<|ak (X' :=[_]) (S' :=[_,_,_]) (fun _ m=>m)<|ag<|ah<|ah<|aj<|hy (fun _=>ab rfl)<|ai<|ag<|aK<| ?_
      refine dz (fun k2=>1) (fun k2=>[(11,.int .i64 (k2:Nat)),(6,.slice A_x (made p o).length c_x)]) (fun k2=>[aG 5 1 (.slice A_x (made p o).length c_x) (made p o).length (aQ (made p o))]) (fun k2=>[]) (fun k2=>True) 0 [(37,_),(35,_),(29,_),(10,_),(9,_),(8,_),(7,_),(14,_),(0,_),(1,_)] ⟨rfl,rfl,rfl,rfl,rfl,rfl,rfl,rfl,rfl,rfl,trivial⟩ [0] rfl [] rfl (trivial) ⟨rfl,rfl,trivial⟩ (fun k2 _=> ?_)
      refine ah<|ah<|aj<|hy (fun _=>aa rfl)<|hy (fun _=>yF (cR rfl rfl) ((decide_eq_false (by omega))))<|hy (fun _=>aa rfl)<|bx rfl rfl rfl (by decide)<|bx rfl rfl rfl (by decide)<|bx rfl rfl rfl (by decide)<|hy (fun _=>bP rfl rfl)<|ai<|al (ρ' :=[(49,_),(11,_),(6,_),(37,_),(35,_),(29,_),(10,_),(9,_),(8,_),(7,_),(14,_),(0,_),(1,_)]) ⟨rfl,rfl,rfl,rfl,rfl,rfl,rfl,rfl,rfl,rfl,rfl,rfl,rfl,trivial⟩<|ag<| ?_
      refine dP rfl (rfl) ?_
      refine bB (fun w m=>m.j6 1 rfl (View.drop (n:=p.length) (c:=c2) (k:=sz) (by omega) (by omega))) ?_
      refine aZ (fun m=>gz (m.rd 0 rfl)) ?_
      rintro⟨hl_p2,hA_p2⟩
      refine bK<|ao<|ao<|aC<|ag<|aj<|hy (fun _=>aa rfl)<|hy (fun _=>aa rfl)<|hy (fun _=>eh rfl rfl Tryz.underlying27 dZ rfl (by omega))<|hy (fun _=>ab rfl)<|ai<|al (ρ' :=[(0,_),(49,_),(11,_),(6,_),(37,_),(35,_),(29,_),(10,_),(9,_),(8,_),(7,_),(14,_),(1,_)]) ⟨rfl,rfl,rfl,rfl,rfl,rfl,rfl,rfl,rfl,rfl,rfl,rfl,rfl,trivial⟩<|aT<| ?_
      rw[hdl]
      refine gy (p.drop sz) (made p o) _ (c2-sz) A_x c_x ⟨rfl,rfl,rfl,trivial⟩ [0] rfl [0,3] rfl (⟨by rw[←hdl];omega,by rw[←hdl];omega,hmn,hU⟩) (by rw[←hdl];omega)
     ·have hd0:0<(cF p).2.2.1:=by omega
      have hma:made p o=again (cF p).2.2.1 (cF p).2.1 o:=by rw[made,if_neg (by omega)]
      generalize hdd:(cF p).2.2.1=dd at*
      generalize hnn:(cF p).2.1=nn at*
      refine aD<|ag<|ah<|ah<|aj<|hy (fun _=>ab rfl)<|ai<|ag<|aK<| ?_
      refine kr (fun k2 o2 A4 c4=>nn-k2) (fun k2 o2 A4 c4=>[(11,.int .i64 (k2:Nat)),(6,.slice A4 o2.length c4)]) (fun k2 o2 A4 c4=>[aG 5 1 (.slice A4 o2.length c4) o2.length (aQ o2)]) (fun k2 o2 A4 c4=>[]) (fun k2 o2 A4 c4=>k2≤nn∧o2.length=o.length+k2∧again dd (nn-k2) o2=made p o) 0 o A3 c3 [(37,_),(35,_),(29,_),(10,_),(9,_),(8,_),(7,_),(14,_),(0,_),(1,_)] ⟨rfl,rfl,rfl,rfl,rfl,rfl,rfl,rfl,rfl,rfl,trivial⟩ [0] rfl [] rfl (⟨Nat.zero_le _,rfl,hma.symm⟩) ⟨rfl,rfl,trivial⟩ (fun k2 o2 A4 c4 ⟨hk2,ho2,hag⟩=> ?_)
      refine ah<|ah<|aj<|hy (fun _=>aa rfl)<|hy (fun _=>yT (cR rfl rfl) ((decide_eq_true (by omega))))<|hy (fun _=>aa rfl)<|dQ (o:=_) rfl rfl rfl (fun _=>aa rfl)<|dQ (o:=_) rfl rfl rfl (fun _=>aa rfl)<|dQ (o:=_) rfl rfl rfl (fun _=>bw rfl rfl)<|hy (fun _=>bU rfl rfl)<|ai<|al (ρ' :=[(49,_),(11,_),(6,_),(37,_),(35,_),(29,_),(10,_),(9,_),(8,_),(7,_),(14,_),(0,_),(1,_)]) ⟨rfl,rfl,rfl,rfl,rfl,rfl,rfl,rfl,rfl,rfl,rfl,rfl,rfl,trivial⟩<|ag<| ?_
      refine cD rfl (fun hkn=> ?_) (fun hkn=> ?_)
      ·have hag2:again dd (nn-(k2+1)) (o2++[o2.getD (o2.length-dd) 0])=made p o:=by
        rw[←hag,show nn-k2=(nn-(k2+1))+1 by omega]
        rfl
       refine aZ (fun m=>(m.ord 0 rfl).2.1) fun hA4=> ?_
       refine aD<|ag<|ah<|aK<|aj<|hy (fun _=>aa rfl)<|hy (fun _=>aa rfl)<|hy (fun _=>aa rfl)<|hy (fun _=>aX rfl Tryz.underlying27)<|hy (fun _=>aa rfl)<|hy (fun _=>ck rfl rfl (bD (by omega) (by omega)))<|hy (fun _=>aO rfl rfl Tryz.underlying27 dZ hA4 (show((o2.length-dd:Nat):Int)=_ by omega) (by omega))<|hy (fun m=>aw rfl jt ((m.ord 0 rfl).cell (bI (by omega))))<| ?_
       refine hx (bV Tryz.underlying27 eP rfl rfl rfl (by simp[Value.cells,B8]) (by decide) (by decide) (fun g60=> ?_))
       have hA_b60:0<1→(some (⟨g60,0,none⟩:Addr))≠none:=fun _ h=>by cases h
       refine aR (fun w m=>m.bO 0 rfl (show _=aG 5 1 (.slice (some ⟨g60,0,none⟩) 1 1) 1 (aQ [o2.getD (o2.length-dd) 0])from rfl)) ?_
       refine hx (bH 1 rfl rfl rfl Tryz.underlying27 Tryz.underlying27 (by exact .inl rfl) eP rfl (fun m=>Src.bY (m.ord 0 rfl)) aS (by unfold maxLen;omega) (by omega) (fun u=> ?_))
       refine aB (fun m=>(m.own 0 rfl).slice) ?_
       rintro⟨A_x,c_x,rfl,hc_x⟩
       refine aB (fun m=>(m.ord 0 rfl).2.1) fun hA_x=> ?_
       refine aR (fun w m=>m.bO 0 rfl (show _=aG 5 1 (.slice A_x (o2.length+1) c_x) (o2.length+1) (aQ (o2++[o2.getD (o2.length-dd) 0]))from congrArg (aG _ _ _ _) (bs _ _).symm)) ?_
       have hl1:o2.length+1=(o2++[o2.getD (o2.length-dd) 0]).length:=by simp
       rw[hl1]at hc_x hA_x ⊢
       refine hy (fun _=>ab rfl)<|ai<|al (ρ' :=[(6,_),(49,_),(11,_),(37,_),(35,_),(29,_),(10,_),(9,_),(8,_),(7,_),(14,_),(0,_),(1,_)]) ⟨rfl,rfl,rfl,rfl,rfl,rfl,rfl,rfl,rfl,rfl,rfl,rfl,rfl,trivial⟩<|ak (X' :=[_,_]) (S' :=[_,_]) (fun _ m=>m)<|aT<|ag<|aj<|hy (fun _=>aa rfl)<|hy (fun _=>aM rfl rfl (bD (by omega) (by omega)))<|hy (fun _=>ab rfl)<|ai<|al (ρ' :=[(11,_),(6,_),(49,_),(37,_),(35,_),(29,_),(10,_),(9,_),(8,_),(7,_),(14,_),(0,_),(1,_)]) ⟨rfl,rfl,rfl,rfl,rfl,rfl,rfl,rfl,rfl,rfl,rfl,rfl,rfl,trivial⟩<| ?_
       refine gr (k2+1) (o2++[o2.getD (o2.length-dd) 0]) A_x c_x ⟨rfl,rfl,rfl,rfl,rfl,rfl,rfl,rfl,rfl,rfl,rfl,rfl,trivial⟩ [0] rfl [0,1] rfl (⟨by omega,by rw[←hl1];omega,hag2⟩) (by omega)
      ·obtain rfl:k2=nn:=by omega
       have hag2:o2=made p o:=by rw[←hag,Nat.sub_self];rfl
       rw[hag2]
       refine bB (fun w m=>m.j6 0 rfl (View.drop (n:=p.length) (c:=c2) (k:=sz) (by omega) (by omega))) ?_
       refine aZ (fun m=>gz (m.rd 0 rfl)) ?_
       rintro⟨hl_p2,hA_p2⟩
       refine bK<|ao<|ao<|aC<|ag<|aj<|hy (fun _=>aa rfl)<|hy (fun _=>aa rfl)<|hy (fun _=>eh rfl rfl Tryz.underlying27 dZ rfl (by omega))<|hy (fun _=>ab rfl)<|ai<|al (ρ' :=[(0,_),(49,_),(11,_),(6,_),(37,_),(35,_),(29,_),(10,_),(9,_),(8,_),(7,_),(14,_),(1,_)]) ⟨rfl,rfl,rfl,rfl,rfl,rfl,rfl,rfl,rfl,rfl,rfl,rfl,rfl,trivial⟩<|aT<| ?_
       rw[hdl]
       refine gy (p.drop sz) (made p o) _ (c2-sz) A4 c4 ⟨rfl,rfl,rfl,trivial⟩ [0] rfl [0,2] rfl (⟨by rw[←hdl];omega,by rw[←hdl];omega,hmn,hU⟩) (by rw[←hdl];omega)
 ·have hp0:p=[]:=List.eq_nil_of_length_eq_zero (by omega)
  rw[hp0,om]at hU
  rw[←hU]
  refine bK<|ao<|ao<|aC<|ag<|ah<|aj<|hy (fun _=>aa rfl)<|hy (fun _=>ab rfl)<|hy (fun _=>ab rfl)<|ai<|al (ρ' :=[(5,_),(4,_),(14,_),(0,_),(6,_),(1,_)]) ⟨rfl,rfl,rfl,rfl,rfl,rfl,trivial⟩<|ag<|aU<| ?_
  exact dg trivial rfl rfl rfl [0] rfl [] rfl ⟨_,rfl,rfl,rfl⟩
end Go.Proofs.YtmibdabdlgmafaaGreatDoor
end
section
set_option maxRecDepth 20000
set_option maxHeartbeats 4000000
namespace Go.Proofs.YtmibdabdlgmafaaGreatDoor
open Go.Eng Go.Hx
theorem oN{f:List UInt8}{most:Int}(h:gq f=none):cS f most=([],2):=by unfold cS;rw[h]
theorem qG{f:List UInt8}{most:Int}{k:Nat}(h:gq f=some k)(hm:most<(k:Int)):cS f most=([],3):=by unfold cS;rw[h];simp only;rw[if_pos hm]
theorem tj{f:List UInt8}{most:Int}{k:Nat}(h:gq f=some k)(hm:¬most<(k:Int)):cS f most=fC f k:=by unfold cS;rw[h];simp only;rw[if_neg hm]
theorem sD{f:List UInt8}{k:Nat}(h:gq f=some k):10≤f.length∧k<4294967296:=by
 unfold gq at h
 split at h
 ·cases h
 ·rename_i hq
  cases h
  exact⟨by have:¬f.length<10:=fun e=>hq (.inl e);omega,Ca _⟩
theorem Fi{A:Option Addr}{c:Nat}{f:List UInt8}{most:Int}(hc:f.length≤c)(hn:f.length≤10000000)(hm:most≤1000000):cf Tryz.prog 155 [.slice A f.length c,.int .i64 most] [] [c6 1 A f.length (aQ f)] (fun v_ X_ S_=>∃v,v_=(.tuple #[v,.int .i64 (cS f most).2])∧X_=[aG 5 1 v (cS f most).1.length (aQ (cS f most).1)]∧S_=[]):=by
 refine Bq (N:=54) Tryz.func155 rfl rfl (by simp) fun b=> ?_
 refine aZ (fun m=>gz (m.rd 0 rfl)) ?_
 rintro⟨hl_r,hA_r⟩
 refine ah<|aj<| ?_
 refine hx (aN sk (fun g4=> ?_))
 refine aR (fun w m=>m.bO 0 rfl (show _=aI g4 27 [.slice none 0 0]from rfl)) ?_
 refine hx (aN F5 (fun g5=> ?_))
 refine aR (fun w m=>m.bO 0 rfl (show _=aI g5 47 [.int .i64 0]from rfl)) ?_
 rcases hL:gq f with _|k
 ·refine ai<|ak (X' :=[_,_]) (S' :=[_]) (fun _ m=>m)<|ag<|ah<|aj<|hy (fun _=>j3 rfl rfl)<|vD rfl rfl<|ai<|al (ρ' :=[(5,_),(4,_),(0,_),(1,_)]) ⟨rfl,rfl,rfl,rfl,trivial⟩<|ag<|ah<|aj<|hy (fun _=>aa rfl)<| ?_
  refine hx (aq rfl Tryz.call211 (r6 (by omega) (by omega) rfl) [] rfl [0] rfl ?_)
  rintro _ _ _ ⟨rfl,rfl,rfl⟩
  refine hy (fun _=>aa rfl)<|hy (fun _=>au rfl rfl)<|hy (fun _=>au rfl rfl)<|hy (fun _=>ab rfl)<| ?_
  refine cI (dI 0 rfl rfl rfl xg rfl (by first|exact Nat.le_of_ble_eq_true rfl|simp) ?_)
  refine ai<|al (ρ' :=[(6,_),(5,_),(4,_),(0,_),(1,_)]) ⟨rfl,rfl,rfl,rfl,rfl,trivial⟩<|ak (X' :=[_,_]) (S' :=[_]) (fun _ m=>m)<|ag<|ah<|aj<|hy (fun m=>aw rfl k8 (aA (m.aY 0 rfl) rfl))<|hy (fun _=>cH rfl rfl)<|hy (fun m=>aw rfl k8 (aA (m.aY 0 rfl) rfl))<| ?_
  refine hx (fX rfl Tryz.call212 (nK) [] rfl [] rfl ?_ ?_)
  ·rintro _ _ _ ⟨rfl,rfl,rfl,q1⟩
   refine ec<|iv<| ?_
   rw[hL]
   rw[(oN hL)]
   refine mu (by simp) Tryz.call210 (fQ) [1,0] rfl [] rfl ?_
   rintro _ _ _ ⟨rfl,rfl,rfl⟩
   refine oZ (fun w m=>m.dx (r' :=aG 5 1 (.slice none 0 0) 0 []) (.refl _ _) (Own.nil _ _ _ _) (fun k hk=>hk.elim)) ?_
   exact gD rfl rfl rfl dX k8 (fun m=>aA (m.aY 1 rfl) (i:=0) rfl) (fun m=>aA (m.aY 2 rfl) (i:=0) rfl) [0] rfl [] rfl ⟨_,rfl,rfl,rfl⟩
  ·rintro _ _ _ ⟨rfl,rfl,rfl,q1⟩
   exact absurd q1 (by rw[hL];simp)
 ·refine ai<|ak (X' :=[_,_]) (S' :=[_]) (fun _ m=>m)<|ag<|ah<|aj<|hy (fun _=>j3 rfl rfl)<|vD rfl rfl<|ai<|al (ρ' :=[(5,_),(4,_),(0,_),(1,_)]) ⟨rfl,rfl,rfl,rfl,trivial⟩<|ag<|ah<|aj<|hy (fun _=>aa rfl)<| ?_
  refine hx (aq rfl Tryz.call211 (r6 (by omega) (by omega) (by omega)) [] rfl [0] rfl ?_)
  rintro _ _ _ ⟨rfl,rfl,rfl⟩
  refine hy (fun _=>aa rfl)<|hy (fun _=>au rfl rfl)<|hy (fun _=>au rfl rfl)<|hy (fun _=>ab rfl)<| ?_
  refine cI (dI 0 rfl rfl rfl xg rfl (by first|exact Nat.le_of_ble_eq_true rfl|simp) ?_)
  refine ai<|al (ρ' :=[(6,_),(5,_),(4,_),(0,_),(1,_)]) ⟨rfl,rfl,rfl,rfl,rfl,trivial⟩<|ak (X' :=[_,_]) (S' :=[_]) (fun _ m=>m)<|ag<|ah<|aj<|hy (fun m=>aw rfl k8 (aA (m.aY 0 rfl) rfl))<|hy (fun _=>cH rfl rfl)<|hy (fun m=>aw rfl k8 (aA (m.aY 0 rfl) rfl))<| ?_
  refine hx (fX rfl Tryz.call212 (nK) [] rfl [] rfl ?_ ?_)
  ·rintro _ _ _ ⟨rfl,rfl,rfl,q1⟩
   refine ec<|iv<| ?_
   exact absurd q1 (by rw[hL];simp)
  ·rintro _ _ _ ⟨rfl,rfl,rfl,q1⟩
   rw[hL,Option.getD_some]
   refine ai<|al (ρ' :=[(6,_),(5,_),(4,_),(0,_),(1,_)]) ⟨rfl,rfl,rfl,rfl,rfl,trivial⟩<|ak (X' :=[_,_]) (S' :=[_]) (fun _ m=>m)<|ag<|ah<|aj<|hy (fun _=>aa rfl)<|hy (fun _=>aa rfl)<|hy (fun _=>qJ rfl rfl)<| ?_
   refine hx (fX rfl Tryz.call212 (nK) [] rfl [] rfl ?_ ?_)
   ·rintro _ _ _ ⟨rfl,rfl,rfl,q2⟩
    refine ec<|iv<| ?_
    rw[(qG hL (Int.not_le.1 (of_decide_eq_false q2)))]
    refine mu (by simp) Tryz.call210 (fQ) [1,0] rfl [] rfl ?_
    rintro _ _ _ ⟨rfl,rfl,rfl⟩
    refine oZ (fun w m=>m.dx (r' :=aG 5 1 (.slice none 0 0) 0 []) (.refl _ _) (Own.nil _ _ _ _) (fun k hk=>hk.elim)) ?_
    exact gD rfl rfl rfl dX k8 (fun m=>aA (m.aY 1 rfl) (i:=0) rfl) (fun m=>aA (m.aY 2 rfl) (i:=0) rfl) [0] rfl [] rfl ⟨_,rfl,rfl,rfl⟩
   ·rintro _ _ _ ⟨rfl,rfl,rfl,q2⟩
    obtain⟨h10,hk32⟩:=sD hL
    have hkm:(k:Int)≤most:=of_decide_eq_true q2
    have hopen:=tj hL (Int.not_lt.2 hkm)
    refine aR (fun w m=>m.j6 0 rfl (View.sub (n:=f.length) (c:=c) (k:=6) (m:=f.length-10) (by omega) (by omega))) ?_
    refine aB (fun m=>gz (m.rd 0 rfl)) ?_
    rintro⟨hl_p,hA_p⟩
    refine ai<|al (ρ' :=[(6,_),(5,_),(4,_),(0,_),(1,_)]) ⟨rfl,rfl,rfl,rfl,rfl,trivial⟩<|ak (X' :=[_,_]) (S' :=[_,_]) (fun _ m=>m)<|ag<|ah<|aj<|hy (fun _=>aa rfl)<|hy (fun _=>aa rfl)<|hy (fun _=>aX rfl Tryz.underlying27)<|hy (fun _=>yV (ck rfl rfl (bD (by omega) (by omega))) ((show Value.int .i64 ((f.length:Int)-4)= .int .i64 ((f.length-4:Nat):Int) by congr 1;omega)))<|hy (fun _=>yV (ey rfl rfl rfl Tryz.underlying27 dZ (show((6:Nat):Int)=6 from rfl) rfl (by omega) (by omega)) ((show Value.slice (if c=6 then A else A.map (·.add (6*1))) (f.length-4-6) (c-6)= .slice (if c=6 then A else A.map (·.add (6*1))) (f.length-10) (c-6) by congr 1)))<| ?_
    refine hx (aq rfl Tryz.call117 (r5 (by omega)) [] rfl [0] rfl ?_)
    rintro _ _ _ ⟨v,rfl,rfl,rfl⟩
    refine aB (fun m=>(m.own 0 rfl).slice) ?_
    rintro⟨A_x,c_x,rfl,hc_x⟩
    refine aB (fun m=>(m.ord 0 rfl).2.1) fun hA_x=> ?_
    have hbl:f.length-10=(de f).length:=by unfold de;rw[List.length_take,List.length_drop];omega
    have hb2:(f.drop 6).take (de f).length=de f:=by rw[←hbl];rfl
    rw[hbl,hb2]
    rw[hbl]at hc_x
    refine cI (dI 2 rfl rfl rfl pI rfl (by first|exact Nat.le_of_ble_eq_true rfl|simp) ?_)
    refine ai<|al (ρ' :=[(6,_),(5,_),(4,_),(0,_),(1,_)]) ⟨rfl,rfl,rfl,rfl,rfl,trivial⟩<|ak (X' :=[_,_,_]) (S' :=[_,_]) (fun _ m=>m)<|ag<|ah<|ah<|aj<|hy (fun _=>aa rfl)<| ?_
    refine hx (aq rfl Tryz.call213 (BJ (by omega) (by omega) rfl) [] rfl [1] rfl ?_)
    rintro _ _ _ ⟨rfl,rfl,rfl⟩
    refine ai<|al (ρ' :=[(28,_),(6,_),(5,_),(4,_),(0,_),(1,_)]) ⟨rfl,rfl,rfl,rfl,rfl,rfl,trivial⟩<|ak (X' :=[_,_,_]) (S' :=[_,_]) (fun _ m=>m)<|ag<| ?_
    refine cD rfl (fun hpk=> ?_) (fun hpk=> ?_)
    ·have hu:uR f k=jr (k:Int) (de f) []:=by
      unfold uR
      exact if_pos hpk.2
     have hkz:(k:Int)≤10000000:=by omega
     have hul:=oL (most:=(k:Int)) (de f) [] (by simp)
     have hbn:(de f).length≤10000000:=by omega
     refine ah<|aj<|hy (fun m=>aw rfl dX (aA (m.aY 0 rfl) rfl))<|hy (fun _=>aa rfl)<| ?_
     refine hx (cC rfl Tryz.call214 (BI hc_x hbn hkz) [] rfl (.x 1 rfl .own .nil) ?_)
     rintro _ _ _ ⟨v2,rfl,rfl,rfl⟩
     refine⟨rfl, ?_⟩
     refine aB (fun m=>(m.own 0 rfl).slice) ?_
     rintro⟨A_x2,c_x2,rfl,hc_x2⟩
     refine aB (fun m=>(m.ord 0 rfl).2.1) fun hA_x2=> ?_
     refine hy (fun _=>aa rfl)<|hy (fun _=>au rfl rfl)<|hy (fun _=>au rfl rfl)<| ?_
     refine cI (dI 1 rfl rfl rfl pI rfl (by first|exact Nat.le_of_ble_eq_true rfl|simp) ?_)
     refine cI (dI 3 rfl rfl rfl xg rfl (by first|exact Nat.le_of_ble_eq_true rfl|simp) ?_)
     refine ai<|al (ρ' :=[(28,_),(6,_),(5,_),(4,_),(0,_),(1,_)]) ⟨rfl,rfl,rfl,rfl,rfl,rfl,trivial⟩<|ak (X' :=[_,_,_,_]) (S' :=[_,_]) (fun _ m=>m)<|ag<|aj<|hy (fun m=>aw rfl k8 (aA (m.aY 0 rfl) rfl))<|hy (fun _=>cH rfl rfl)<| ?_
     refine hx (fX rfl Tryz.call212 (nK) [] rfl [] rfl ?_ ?_)
     ·rintro _ _ _ ⟨rfl,rfl,rfl,q3⟩
      refine ec<|iv<| ?_
      have hno:cS f most=([],2):=by
       rw[hopen]
       unfold fC
       rw[hu]
       exact if_pos (of_decide_eq_false q3)
      rw[hno]
      refine mu (by simp) Tryz.call210 (fQ) [1,0] rfl [] rfl ?_
      rintro _ _ _ ⟨rfl,rfl,rfl⟩
      refine oZ (fun w m=>m.dx (r' :=aG 5 1 (.slice none 0 0) 0 []) (.refl _ _) (Own.nil _ _ _ _) (fun k hk=>hk.elim)) ?_
      exact gD rfl rfl rfl dX k8 (fun m=>aA (m.aY 1 rfl) (i:=0) rfl) (fun m=>aA (m.aY 2 rfl) (i:=0) rfl) [0] rfl [] rfl ⟨_,rfl,rfl,rfl⟩
     ·rintro _ _ _ ⟨rfl,rfl,rfl,q3⟩
      have hE0:(jr (k:Int) (de f) []).2=0:=of_decide_eq_true q3
      obtain⟨u,hu2⟩:∃u,jr (k:Int) (de f) []=(u,0):=⟨_,Prod.ext rfl hE0⟩
      rw[hu2]at hu hul
      rw[hu2]
      dsimp only
      have hun:u.length≤1000000:=by
       rcases hul.1 with h|h
       ·have h:(u.length:Int)≤k:=h
        omega
       ·have h:u=[]:=h
        rw[h];exact Nat.zero_le _
      refine ai<|al (ρ' :=[(28,_),(6,_),(5,_),(4,_),(0,_),(1,_)]) ⟨rfl,rfl,rfl,rfl,rfl,rfl,trivial⟩<|ak (X' :=[_,_,_,_]) (S' :=[_,_]) (fun _ m=>m)<|ag<|ah<|aj<|hy (fun m=>aw rfl dX (aA (m.aY 1 rfl) rfl))<|hy (fun _=>aX rfl Tryz.underlying27)<|hy (fun _=>aa rfl)<|hy (fun _=>cH rfl rfl)<| ?_
      refine hx (fX rfl Tryz.call212 (nK) [] rfl [] rfl ?_ ?_)
      ·rintro _ _ _ ⟨rfl,rfl,rfl,q4⟩
       refine ec<|iv<| ?_
       have hno:cS f most=([],2):=by
        rw[hopen]
        unfold fC
        rw[hu]
        exact(if_neg (by simp)).trans (if_pos (by have:=of_decide_eq_false q4;simp only;omega))
       rw[hno]
       refine mu (by simp) Tryz.call210 (fQ) [1,0] rfl [] rfl ?_
       rintro _ _ _ ⟨rfl,rfl,rfl⟩
       refine oZ (fun w m=>m.dx (r' :=aG 5 1 (.slice none 0 0) 0 []) (.refl _ _) (Own.nil _ _ _ _) (fun k hk=>hk.elim)) ?_
       exact gD rfl rfl rfl dX k8 (fun m=>aA (m.aY 1 rfl) (i:=0) rfl) (fun m=>aA (m.aY 2 rfl) (i:=0) rfl) [0] rfl [] rfl ⟨_,rfl,rfl,rfl⟩
      ·rintro _ _ _ ⟨rfl,rfl,rfl,q4⟩
       have hlen:(u).length=k:=by have:=of_decide_eq_true q4;omega
       have hgo:cS f most=if fZ (cJ u)≠f.drop (f.length-4)then([],7)else(u,0):=by
        rw[hopen]
        unfold fC
        rw[hu]
        exact(if_neg (by simp)).trans (if_neg (by simp only;omega))
       refine aR (fun w m=>m.j6 1 rfl (View.drop (n:=f.length) (c:=c) (k:=f.length-4) (by omega) (by omega))) ?_
       refine aB (fun m=>gz (m.rd 0 rfl)) ?_
       rintro⟨hl_t,hA_t⟩
       have hcl:=jl u
       refine ai<|al (ρ' :=[(28,_),(6,_),(5,_),(4,_),(0,_),(1,_)]) ⟨rfl,rfl,rfl,rfl,rfl,rfl,trivial⟩<|ak (X' :=[_,_,_,_]) (S' :=[_,_,_]) (fun _ m=>m)<|ag<|ah<|xR [43,44,45,46,47,48,49,50,51,52] [0,0,0,0] [0,1,2] rfl rfl [1,2,8,9] [(0,some 0),(3,some 2),(4,some 4),(5,some 2),(6,some 2),(7,some 2),(1,none),(2,none),(8,none),(9,none)] (by kernel_rfl) (by kernel_rfl) (by kernel_rfl) rfl 99<|b6 (fun m=>aw rfl dX (aA (m.aY 1 rfl) rfl))<|an (aa rfl)<|an (aa rfl)<|an (aX rfl Tryz.underlying27)<|an (yV (ck rfl rfl (bD (by omega) (by omega))) ((show Value.int .i64 ((f.length:Int)-4)= .int .i64 ((f.length-4:Nat):Int) by congr 1;omega)))<|an (eh rfl rfl Tryz.underlying27 dZ rfl (by omega))<| ?_
       refine dT (cC rfl Tryz.call180 (ou (by omega)) [] rfl (.x 2 rfl .own .nil) ?_)
       rintro _ _ _ ⟨rfl,rfl,rfl⟩
       refine⟨rfl, ?_⟩
       refine⟨(fun _=>wk [0,0,0,0] [0,1,2] rfl rfl), ?_⟩
       refine dT (aq rfl Tryz.call179 (jh (by omega)) [] rfl [] rfl ?_)
       rintro _ _ _ ⟨v3,rfl,rfl,rfl⟩
       refine⟨(fun _=>wk [1,1,1,1] [0,1,2] rfl rfl), ?_⟩
       refine b9 (fun m=>(m.own 0 rfl).slice) ?_
       rintro⟨A_x3,c_x3,rfl,hc_x3⟩
       refine b9 (fun m=>(m.ord 0 rfl).2.1) fun hA_x3=> ?_
       refine dT (cC rfl Tryz.call215 (nE) [] rfl (.x 0 rfl .own (.s 0 rfl .nil)) ?_)
       rintro _ _ _ ⟨rfl,rfl,rfl⟩
       refine⟨rfl, ?_⟩
       refine⟨(fun _=>wk [1,1,1,1] [0,1,2] rfl rfl), ?_⟩
       refine dT (fX rfl Tryz.call212 (nK) [] rfl [] rfl ?_ ?_)
       ·rintro _ _ _ ⟨rfl,rfl,rfl,q5⟩
        refine CH<|ec<|iv<| ?_
        rw[(hgo.trans (if_pos (of_decide_eq_false q5)))]
        refine mu (by simp) Tryz.call210 (fQ) [2,1] rfl [] rfl ?_
        rintro _ _ _ ⟨rfl,rfl,rfl⟩
        refine oZ (fun w m=>m.dx (r' :=aG 5 1 (.slice none 0 0) 0 []) (.refl _ _) (Own.nil _ _ _ _) (fun k hk=>hk.elim)) ?_
        exact gD rfl rfl rfl dX k8 (fun m=>aA (m.aY 1 rfl) (i:=0) rfl) (fun m=>aA (m.aY 2 rfl) (i:=0) rfl) [0] rfl [] rfl ⟨_,rfl,rfl,rfl⟩
       ·rintro _ _ _ ⟨rfl,rfl,rfl,q5⟩
        refine⟨(fun _=>wk [1,1,1,1] [0,1,2] rfl rfl), ?_⟩
        rw[hgo.trans (if_neg (fun h=>h (of_decide_eq_true q5)))]
        refine yv<|al (ρ' :=[(28,_),(6,_),(5,_),(4,_),(0,_),(1,_)]) ⟨rfl,rfl,rfl,rfl,rfl,rfl,trivial⟩<|ak (X' :=[_,_,_,_,_]) (S' :=[_,_,_]) (fun _ m=>m)<|ag<|ah<|aj<|hy (fun m=>aw rfl dX (aA (m.aY 2 rfl) rfl))<| ?_
        refine cI (dI 2 rfl rfl rfl pI rfl (by first|exact Nat.le_of_ble_eq_true rfl|simp) ?_)
        refine cI (dI 2 rfl rfl rfl xg rfl (by first|exact Nat.le_of_ble_eq_true rfl|simp) ?_)
        refine ai<|al (ρ' :=[(28,_),(6,_),(5,_),(4,_),(0,_),(1,_)]) ⟨rfl,rfl,rfl,rfl,rfl,rfl,trivial⟩<|ak (X' :=[_,_,_,_,_]) (S' :=[_,_,_]) (fun _ m=>m)<|ag<|aU<| ?_
        refine vC trivial ?_
        refine mu (by simp) Tryz.call210 (tP) [1,0] rfl [] rfl ?_
        rintro _ _ _ ⟨rfl,rfl,rfl⟩
        exact gD rfl rfl rfl dX k8 (fun m=>aA (m.aY 0 rfl) (i:=0) rfl) (fun m=>aA (m.aY 1 rfl) (i:=0) rfl) [3] rfl [] rfl ⟨_,rfl,rfl,rfl⟩
    ·have hu:uR f k=(de f,0):=by
      unfold uR
      exact if_neg fun e=>hpk ⟨by rw[hL];rfl,e⟩
     refine aD<|ag<|ah<|aj<|hy (fun m=>aw rfl dX (aA (m.aY 0 rfl) rfl))<|hy (fun _=>aX rfl Tryz.underlying27)<|hy (fun _=>aa rfl)<|hy (fun _=>cH rfl rfl)<| ?_
     refine hx (fX rfl Tryz.call212 (nK) [] rfl [] rfl ?_ ?_)
     ·rintro _ _ _ ⟨rfl,rfl,rfl,q4⟩
      refine ec<|iv<| ?_
      have hno:cS f most=([],2):=by
       rw[hopen]
       unfold fC
       rw[hu]
       exact(if_neg (by simp)).trans (if_pos (by have:=of_decide_eq_false q4;simp only;omega))
      rw[hno]
      refine mu (by simp) Tryz.call210 (fQ) [0,1] rfl [] rfl ?_
      rintro _ _ _ ⟨rfl,rfl,rfl⟩
      refine oZ (fun w m=>m.dx (r' :=aG 5 1 (.slice none 0 0) 0 []) (.refl _ _) (Own.nil _ _ _ _) (fun k hk=>hk.elim)) ?_
      exact gD rfl rfl rfl dX k8 (fun m=>aA (m.aY 1 rfl) (i:=0) rfl) (fun m=>aA (m.aY 2 rfl) (i:=0) rfl) [0] rfl [] rfl ⟨_,rfl,rfl,rfl⟩
     ·rintro _ _ _ ⟨rfl,rfl,rfl,q4⟩
      have hlen:((de f)).length=k:=by have:=of_decide_eq_true q4;omega
      have hgo:cS f most=if fZ (cJ (de f))≠f.drop (f.length-4)then([],7)else((de f),0):=by
       rw[hopen]
       unfold fC
       rw[hu]
       exact(if_neg (by simp)).trans (if_neg (by simp only;omega))
      refine aR (fun w m=>m.j6 1 rfl (View.drop (n:=f.length) (c:=c) (k:=f.length-4) (by omega) (by omega))) ?_
      refine aB (fun m=>gz (m.rd 0 rfl)) ?_
      rintro⟨hl_t,hA_t⟩
      have hcl:=jl (de f)
      refine ai<|al (ρ' :=[(28,_),(6,_),(5,_),(4,_),(0,_),(1,_)]) ⟨rfl,rfl,rfl,rfl,rfl,rfl,trivial⟩<|ak (X' :=[_,_,_]) (S' :=[_,_,_]) (fun _ m=>m)<|ag<|ah<|xR [43,44,45,46,47,48,49,50,51,52] [0,0,0] [0,1,2] rfl rfl [1,2,8,9] [(0,some 0),(3,some 2),(4,some 4),(5,some 2),(6,some 2),(7,some 2),(1,none),(2,none),(8,none),(9,none)] (by kernel_rfl) (by kernel_rfl) (by kernel_rfl) rfl 99<|b6 (fun m=>aw rfl dX (aA (m.aY 0 rfl) rfl))<|an (aa rfl)<|an (aa rfl)<|an (aX rfl Tryz.underlying27)<|an (yV (ck rfl rfl (bD (by omega) (by omega))) ((show Value.int .i64 ((f.length:Int)-4)= .int .i64 ((f.length-4:Nat):Int) by congr 1;omega)))<|an (eh rfl rfl Tryz.underlying27 dZ rfl (by omega))<| ?_
      refine dT (cC rfl Tryz.call180 (ou (by omega)) [] rfl (.x 1 rfl .own .nil) ?_)
      rintro _ _ _ ⟨rfl,rfl,rfl⟩
      refine⟨rfl, ?_⟩
      refine⟨(fun _=>wk [0,0,0] [0,1,2] rfl rfl), ?_⟩
      refine dT (aq rfl Tryz.call179 (jh (by omega)) [] rfl [] rfl ?_)
      rintro _ _ _ ⟨v2,rfl,rfl,rfl⟩
      refine⟨(fun _=>wk [1,1,1] [0,1,2] rfl rfl), ?_⟩
      refine b9 (fun m=>(m.own 0 rfl).slice) ?_
      rintro⟨A_x2,c_x2,rfl,hc_x2⟩
      refine b9 (fun m=>(m.ord 0 rfl).2.1) fun hA_x2=> ?_
      refine dT (cC rfl Tryz.call215 (nE) [] rfl (.x 0 rfl .own (.s 0 rfl .nil)) ?_)
      rintro _ _ _ ⟨rfl,rfl,rfl⟩
      refine⟨rfl, ?_⟩
      refine⟨(fun _=>wk [1,1,1] [0,1,2] rfl rfl), ?_⟩
      refine dT (fX rfl Tryz.call212 (nK) [] rfl [] rfl ?_ ?_)
      ·rintro _ _ _ ⟨rfl,rfl,rfl,q5⟩
       refine CH<|ec<|iv<| ?_
       rw[(hgo.trans (if_pos (of_decide_eq_false q5)))]
       refine mu (by simp) Tryz.call210 (fQ) [1,2] rfl [] rfl ?_
       rintro _ _ _ ⟨rfl,rfl,rfl⟩
       refine oZ (fun w m=>m.dx (r' :=aG 5 1 (.slice none 0 0) 0 []) (.refl _ _) (Own.nil _ _ _ _) (fun k hk=>hk.elim)) ?_
       exact gD rfl rfl rfl dX k8 (fun m=>aA (m.aY 1 rfl) (i:=0) rfl) (fun m=>aA (m.aY 2 rfl) (i:=0) rfl) [0] rfl [] rfl ⟨_,rfl,rfl,rfl⟩
      ·rintro _ _ _ ⟨rfl,rfl,rfl,q5⟩
       refine⟨(fun _=>wk [1,1,1] [0,1,2] rfl rfl), ?_⟩
       rw[hgo.trans (if_neg (fun h=>h (of_decide_eq_true q5)))]
       refine yv<|al (ρ' :=[(28,_),(6,_),(5,_),(4,_),(0,_),(1,_)]) ⟨rfl,rfl,rfl,rfl,rfl,rfl,trivial⟩<|ak (X' :=[_,_,_,_]) (S' :=[_,_,_]) (fun _ m=>m)<|ag<|ah<|aj<|hy (fun m=>aw rfl dX (aA (m.aY 1 rfl) rfl))<| ?_
       refine cI (dI 1 rfl rfl rfl pI rfl (by first|exact Nat.le_of_ble_eq_true rfl|simp) ?_)
       refine cI (dI 3 rfl rfl rfl xg rfl (by first|exact Nat.le_of_ble_eq_true rfl|simp) ?_)
       refine ai<|al (ρ' :=[(28,_),(6,_),(5,_),(4,_),(0,_),(1,_)]) ⟨rfl,rfl,rfl,rfl,rfl,rfl,trivial⟩<|ak (X' :=[_,_,_,_]) (S' :=[_,_,_]) (fun _ m=>m)<|ag<|aU<| ?_
       refine vC trivial ?_
       refine mu (by simp) Tryz.call210 (tP) [1,0] rfl [] rfl ?_
       rintro _ _ _ ⟨rfl,rfl,rfl⟩
       exact gD rfl rfl rfl dX k8 (fun m=>aA (m.aY 0 rfl) (i:=0) rfl) (fun m=>aA (m.aY 1 rfl) (i:=0) rfl) [3] rfl [] rfl ⟨_,rfl,rfl,rfl⟩
end Go.Proofs.YtmibdabdlgmafaaGreatDoor
end
section
set_option maxRecDepth 20000
namespace Go.Proofs.YtmibdabdlgmafaaGreatDoor
open Go.Eng Go.Hx
structure ti where
 h:List UInt32
 n:Nat
 A:Option Addr
 c:Nat
 rest:List UInt8
def lV(h:List UInt32)(n:Nat)(A:Option Addr)(m c:Nat):List Value:=dV h++[.int .i64 (n:Int),.slice A m c]
abbrev lZ(g:Nat)(s:ti):bg:=fm [aI g 308 (lV s.h s.n s.A s.rest.length s.c),aG 5 1 (.slice s.A s.rest.length s.c) s.rest.length (aQ s.rest)]
structure ti.ok(s:ti)(all:List UInt8):Prop where
 len:s.h.length=8
 n:s.n=all.length
 F9:∃d,d++s.rest=all∧d.length % 64=0∧s.h=fa lT d
theorem jR{h:List UInt32}{n:Nat}{A:Option Addr}{m c:Nat}(hh:h.length=8):(lV h n A m c).length=10:=by simp[lV,dV,hh]
theorem wb{h:List UInt32}{n:Nat}{A:Option Addr}{m c:Nat}(hh:h.length=8):(lV h n A m c)[8]? =some (.int .i64 (n:Int)):=by
 rw[lV,List.getElem?_append_right (by rw[bo];omega),bo,hh];rfl
theorem sl{h:List UInt32}{n:Nat}{A:Option Addr}{m c:Nat}(hh:h.length=8):(lV h n A m c)[9]? =some (.slice A m c):=by
 rw[lV,List.getElem?_append_right (by rw[bo];omega),bo,hh];rfl
theorem z8{h:List UInt32}{n:Nat}{A:Option Addr}{m c:Nat}{j:Nat}{u:Value}(hu:(dV h)[j]? =some u):(lV h n A m c)[j]? =some u:=by
 rw[lV,List.getElem?_append_left ((List.getElem?_eq_some_iff.1 hu).1)];exact hu
theorem zr{h:List UInt32}{n n' :Nat}{A:Option Addr}{m c:Nat}(hh:h.length=8):(lV h n A m c).set 8 (.int .i64 (n' :Int))=lV h n' A m c:=by
 rw[lV,List.set_append_right _ _ (by rw[bo];omega),bo,hh];rfl
theorem sS{h:List UInt32}{n:Nat}{A A' :Option Addr}{m c m' c' :Nat}(hh:h.length=8):(lV h n A m c).set 9 (.slice A' m' c')=lV h n A' m' c' :=by
 rw[lV,List.set_append_right _ _ (by rw[bo];omega),bo,hh];rfl
theorem BN{h h' :List UInt32}{n:Nat}{A:Option Addr}{m c:Nat}(hh:h.length=8)(hh' :h'.length=8):br (lV h n A m c) 0 (dV h')=lV h' n A m c:=by
 rw[br,List.take_zero,List.nil_append,Nat.zero_add,bo,hh',lV,List.drop_append_of_le_length (by rw[bo];omega),List.drop_of_length_le (by rw[bo];omega)];rfl
theorem FA:cf Tryz.prog 172 [] [] [] (fun v_ X_ S_=>∃g,v_=(.pointer (some ⟨g,0,none⟩))∧X_=[lZ g ⟨lT,0,none,0,[]⟩]∧S_=[]):=by
 refine aP (N:=4) Tryz.func172 rfl rfl (by simp) fun b=> ?_
 refine ah<|aj<|hy (fun _=>ab rfl)<|ai<|ag<|ah<|aj<|hy (fun _=>yV (tQ (n:=8) wF (by kernel_rfl) rfl (by kernel_rfl) rfl (by kernel_rfl) (by kernel_rfl) (qs (l:=[1779033703,3144134277,1013904242,2773480762,1359893119,2600822924,528734635,1541459225]))) ((rfl:_=Value.agg (dV lT).toArray)))<|hy (fun _=>yV (cn Cx rfl rfl (by kernel_rfl) (.cons (o:=0) (sz:=8) (by kernel_rfl) rfl rfl (Nat.le_of_ble_eq_true rfl) .nil)) ((rfl:_=Value.agg (lV lT 0 none 0 0).toArray)))<| ?_
 refine hx (cy rfl (fun g3=> ?_))
 refine hy (fun _=>ab rfl)<|ai<|al (ρ' :=[(0,_)]) ⟨rfl,trivial⟩<|ak (X' :=[_]) (S' :=[]) (fun _ m=>m)<|ag<|aU<| ?_
 refine ak (fun w m=>m.bO 0 rfl (show _=aI g3 308 (lV lT 0 none 0 0)from congrArg (aI _ _) (bq _))) ?_
 refine ak (fun w m=>m.dx (r' :=aG 5 1 (.slice none 0 0) 0 []) (.refl _ _) (Own.nil _ _ _ _) (fun k hk=>hk.elim)) ?_
 refine ak (X' :=lZ g3 ⟨lT,0,none,0,[]⟩::_) (fun w m=>(m.perm (ar [1,0] _ [_,_] _ rfl)).pack) ?_
 exact bc trivial rfl rfl [0] rfl [] rfl ⟨_,rfl,rfl,rfl⟩
theorem C7:ti.ok ⟨lT,0,none,0,[]⟩ []:=⟨rfl,rfl,[],rfl,rfl,rfl⟩
theorem wg{g:Nat}{s:ti}{B:Option Addr}{mb mc:Nat}{l:List UInt8}(hh:s.h.length=8)(hn:s.n+mb≤1000000000000000)(hr:s.rest.length+mb≤140737488355328):cf Tryz.prog 173 [.pointer (some ⟨g,0,none⟩),.slice B mb mc] [lZ g s] [c6 1 B mb (aQ l),ef] (fun v_ X_ S_=>∃s1,v_=(.tuple #[])∧X_=[lZ g s1]∧S_=[]∧(s1.rest.length<64∧∀all,s.ok all→s1.ok (all++l))):=by
 refine aP (N:=49) Tryz.func173 rfl rfl (by simp) fun b=> ?_
 refine aZ (fun m=>gz (m.rd 0 rfl)) ?_
 rintro⟨hl_r,hA_r⟩
 have hlm:l.length=mb:=hl_r
 have hl0:=jR (n:=s.n) (A:=s.A) (m:=s.rest.length) (c:=s.c) hh
 refine bB (fun w m=>(m.perm (ar [0] _ [_] _ rfl)).unpack) ?_
 refine ah<|aj<|hy (fun _=>aa rfl)<|hy (fun _=>bh rfl)<|hy (fun _=>aL rfl mM (by decide))<|hy (fun m=>aw rfl fE ((m.aY 0 rfl).ay 8 _ (wb hh)))<|hy (fun _=>aa rfl)<|hy (fun _=>aX rfl Tryz.underlying27)<|hy (fun _=>aM rfl rfl (bD (by omega) (by omega)))<|hy (fun _=>bh rfl)<|hy (fun _=>aL rfl mM (by decide))<| ?_
 refine cI (cz 0 rfl rfl rfl tW rfl (by rw[hl0];decide) ?_)
 refine ai<|al (ρ' :=[(0,_),(1,_)]) ⟨rfl,rfl,trivial⟩<|ak (X' :=[_,_]) (S' :=[_,_]) (fun _ m=>m)<|ag<|ah<|aj<| ?_
 refine aR (fun w m=>m.bO 0 rfl (show _=aI g 308 (lV s.h (s.n+mb) s.A s.rest.length s.c)from by rw[Nat.zero_add,←Int.natCast_add,zr hh])) ?_
 refine hy (fun _=>aa rfl)<|hy (fun _=>aa rfl)<|hy (fun _=>bh rfl)<|hy (fun _=>aL rfl jD (by decide))<|hy (fun m=>aw rfl dX ((m.aY 0 rfl).ay 9 _ (sl hh)))<|hy (fun _=>aa rfl)<| ?_
 refine hx (bH 1 rfl rfl rfl Tryz.underlying27 Tryz.underlying27 (by exact .inl rfl) eP rfl (fun m=>Src.bY (m.rd 0 rfl)) aS (by unfold maxLen;omega) (by omega) (fun u=> ?_))
 refine aB (fun m=>(m.own 0 rfl).slice) ?_
 rintro⟨A_d1,c_d1,rfl,hc_d1⟩
 refine aB (fun m=>(m.ord 0 rfl).2.1) fun hA_d1=> ?_
 refine aR (fun w m=>m.bO 0 rfl (show _=aG 5 1 (.slice A_d1 (s.rest++l).length c_d1) (s.rest++l).length (aQ (s.rest++l))from by rw[List.length_append,hlm];simp[aQ])) ?_
 have hls:=jR (n:=s.n+mb) (A:=s.A) (m:=s.rest.length) (c:=s.c) hh
 refine hy (fun _=>bh rfl)<|hy (fun _=>aL rfl jD (by decide))<| ?_
 refine cI (cz 1 rfl rfl rfl pI rfl (by rw[hls];decide) ?_)
 refine ai<|al (ρ' :=[(0,_),(1,_)]) ⟨rfl,rfl,trivial⟩<|ak (X' :=[_,_]) (S' :=[_,_]) (fun _ m=>m)<|ag<|aK<| ?_
 refine bB (fun w m=>m.bO 0 rfl (show _=aI g 308 (lV s.h (s.n+mb) A_d1 (s.rest++l).length c_d1)from by rw[Nat.zero_add,sS hh,List.length_append,hlm])) ?_
 have hlen:(s.rest++l).length=s.rest.length+mb:=by rw[List.length_append,hlm]
 refine ur (fun h A1 c1 q dn=>q.length) (fun h A1 c1 q dn=>[]) (fun h A1 c1 q dn=>[aI g 308 (lV h (s.n+mb) A1 q.length c1),aG 5 1 (.slice A1 q.length c1) q.length (aQ q)]) (fun h A1 c1 q dn=>[]) (fun h A1 c1 q dn=>h.length=8∧q.length≤c1∧dn++q=s.rest++l∧dn.length % 64=0∧∀D,D.length % 64=0→s.h=fa lT D→h=fa lT (D++dn)) s.h A_d1 c_d1 (s.rest++l) [] [(0,_),(1,_)] ⟨rfl,rfl,trivial⟩ [0,0] rfl [] rfl (⟨hh,(by omega),rfl,rfl,fun D _ e=>by rw[List.append_nil];exact e⟩) trivial (fun h A1 c1 q dn ⟨h8,hqc,hdq,hd64,hD⟩=> ?_)
 have hls:=jR (n:=s.n+mb) (A:=A1) (m:=q.length) (c:=c1) h8
 refine ah<|ah<|aj<|hy (fun _=>aa rfl)<|hy (fun _=>bh rfl)<|hy (fun _=>aL rfl jD (by decide))<|hy (fun m=>aw rfl dX ((m.aY 0 rfl).ay 9 _ (sl h8)))<|hy (fun _=>aX rfl Tryz.underlying27)<|hy (fun _=>jZ rfl rfl)<|ai<|al (ρ' :=[(27,_),(0,_),(1,_)]) ⟨rfl,rfl,rfl,trivial⟩<|ag<| ?_
 refine cD rfl (fun hge=> ?_) (fun hge=> ?_)
 ·have hq64:64≤q.length:=by omega
  refine aD<|ag<|aK<|ah<|cN [10,13] [(0,some 1),(1,some 0),(2,some 0),(3,some 0),(4,some 0),(5,some 1),(6,some 0),(7,some 0),(8,some 0),(9,some 0),(10,none),(11,some 1),(12,some 1),(13,none)] (by kernel_rfl) (by kernel_rfl) rfl 1<|an (aa rfl)<|an (aa rfl)<|an (bh rfl)<|an (aL rfl n8 (by decide))<|b6 (fun m=>yV (a6 rfl qI lf (by rw[bo,h8]) (fun j u hu=>(m.aY 0 rfl).ay j u (z8 hu))) ((rfl:_=Value.agg (dV h).toArray)))<|an (aa rfl)<|an (bh rfl)<|an (aL rfl jD (by decide))<|b6 (fun m=>aw rfl dX ((m.aY 0 rfl).ay 9 _ (sl h8)))<|an (re rfl rfl Tryz.underlying27 dZ (show((64:Nat):Int)=64 from rfl) (by omega))<| ?_
  refine dT (cC rfl Tryz.call227 (GI (by omega) h8 (l:=(q.take 64))) [] rfl (.x 1 rfl (View.own.trans (View.take hq64)) (.s 1 rfl .nil)) ?_)
  rintro _ _ _ ⟨rfl,rfl,rfl⟩
  refine⟨rfl, ?_⟩
  refine⟨(fun _=>wk [0,0] [0,1] rfl rfl), ?_⟩
  refine an (bh rfl)<|an (aL rfl n8 (by decide))<| ?_
  have hb8:=iC h8 (q.take 64)
  refine j5 (ot 0 rfl rfl rfl lf (by rw[bo,hb8]) gF (by rw[hls];decide) ⟨(fun h=>absurd h (by decide)), ?_⟩)
  refine fg (fun w m=>m.bO 0 rfl (show _=aI g 308 (lV (eg h (q.take 64)) (s.n+mb) A1 q.length c1)from by rw[Nat.zero_add,BN h8 hb8])) ?_
  have hls2:=jR (n:=s.n+mb) (A:=A1) (m:=q.length) (c:=c1) hb8
  refine fg (X' :=aG 5 1 (.slice (if c1=64 then A1 else A1.map (·.add (64*1))) (q.length-64) (c1-64)) (q.length-64) ((aQ q).drop (64*1))::_) (fun w m=>(m.perm (ar [1] _ [_] _ rfl)).vP (View.r8 hq64 hqc)) ?_
  refine bz<|al (ρ' :=[(27,_),(0,_),(1,_)]) ⟨rfl,rfl,rfl,trivial⟩<|ak (X' :=[_,_]) (S' :=[_,_]) (fun _ m=>m)<|ag<|aj<|hy (fun _=>aa rfl)<|hy (fun _=>aa rfl)<|hy (fun _=>bh rfl)<|hy (fun _=>aL rfl jD (by decide))<|hy (fun m=>aw rfl dX ((m.aY 1 rfl).ay 9 _ (sl hb8)))<|hy (fun _=>eh rfl rfl Tryz.underlying27 dZ (show((64:Nat):Int)=64 from rfl) (by omega))<|hy (fun _=>bh rfl)<|hy (fun _=>aL rfl jD (by decide))<| ?_
  refine cI (cz 1 rfl rfl rfl pI rfl (by rw[hls2];decide) ?_)
  refine ai<|al (ρ' :=[(27,_),(0,_),(1,_)]) ⟨rfl,rfl,rfl,trivial⟩<|ak (X' :=[_,_]) (S' :=[_,_]) (fun _ m=>m)<|aT<| ?_
  have hqd:(q.drop 64).length=q.length-64:=List.length_drop
  have e9:(aQ q).drop (64*1)=aQ (q.drop 64):=by simp[aQ,List.map_drop]
  generalize hA2:(if c1=64 then A1 else A1.map (·.add (64*1)))=A2
  refine ak (fun w m=>m.bO 0 rfl (show _=aI g 308 (lV (eg h (q.take 64)) (s.n+mb) A2 (q.drop 64).length (c1-64))from by rw[Nat.zero_add,sS hb8,hqd])) ?_
  refine ak (fun w m=>m.bO 1 rfl (show _=aG 5 1 (.slice A2 (q.drop 64).length (c1-64)) (q.drop 64).length (aQ (q.drop 64))from by rw[hqd,e9])) ?_
  refine pc (eg h (q.take 64)) A2 (c1-64) (q.drop 64) (dn++q.take 64) ⟨rfl,rfl,trivial⟩ [1,0] rfl [0,1] rfl (⟨hb8,by omega,by rw[List.append_assoc,List.take_append_drop];exact hdq,by rw[List.length_append,List.length_take];omega,fun D h1 h2=>by rw[←List.append_assoc,pA (by rw[List.length_append];omega) (by rw[List.length_take];omega),←hD D h1 h2]⟩) (by omega)
 ·refine bK<|ao<|ao<|aC<| ?_
  have hok:∀all,s.ok all→ti.ok ⟨h,s.n+mb,A1,c1,q⟩ (all++l):=fun all ok=>by
   obtain⟨D,e1,e2,e3⟩:=ok.F9
   refine⟨h8, ?_,D++dn, ?_, ?_,hD D e2 e3⟩
   ·show s.n+mb=_
    rw[List.length_append,ok.n,hlm]
   ·show(D++dn)++q=_
    rw[List.append_assoc,hdq,←List.append_assoc,e1]
   ·rw[List.length_append];omega
  refine ak (X' :=lZ g ⟨h,s.n+mb,A1,c1,q⟩::_) (fun w m=>(m.perm (ar [0,0] _ [_,_] _ rfl)).pack) ?_
  exact fD trivial rfl [0] rfl [] rfl ⟨_,rfl,rfl,rfl,⟨(by show q.length<64;omega),hok⟩⟩
theorem Cg{h:List UInt32}{n:Nat}{A:Option Addr}{m c:Nat}(hh:h.length=8){z:List Value}(hz:z.length=10):br (br (br z 0 (dV h)) 8 [.int .i64 (n:Int)]) 9 [.slice A m c]=lV h n A m c:=by
 have hw:(dV h).length=8:=by rw[bo,hh]
 have e1:br z 0 (dV h)=dV h++z.drop 8:=by simp[br,hw]
 match hq:z.drop 8,(show(z.drop 8).length=2 by rw[List.length_drop,hz])with
 | [x,y],_=>
  rw[e1,hq]
  have e2:br (dV h++[x,y]) 8 [.int .i64 (n:Int)]=dV h++[.int .i64 (n:Int),y]:=by
   rw[br,List.take_append_of_le_length (by omega),List.take_of_length_le (by omega),List.drop_append,List.drop_of_length_le (by omega)]
   simp[hw]
  rw[e2,br,List.take_append,List.take_of_length_le (by omega),List.drop_of_length_le (by simp[hw])]
  simp[hw,lV]
theorem C5{P:Program}{pl:Nat→Option (Nat×Nat)}{h:List UInt32}(hh:h.length=8){zs:List Value}(hz:zs.length=10)(p0:pl 0=some (0,8))(p1:pl 1=some (8,1))(p2:pl 2=some (9,1)){n:Nat}{A:Option Addr}{m c:Nat}:
  vq P pl zs [(0,.agg (dV h).toArray),(1,.int .i64 (n:Int)),(2,.slice A m c)] (lV h n A m c):=by
 have hw:(dV h).length=8:=by rw[bo,hh]
 have l1:(br zs 0 (dV h)).length=10:=by rw[dD (by omega),hz]
 have l2:(br (br zs 0 (dV h)) 8 [Value.int .i64 (n:Int)]).length=10:=by rw[dD (by rw[l1];show 8+1≤10;decide),l1]
 refine .cons (vs:=dV h) p0 rfl hw (by omega) (.cons (vs:=[.int .i64 (n:Int)]) p1 rfl rfl (by omega) (.cons (vs:=[.slice A m c]) p2 rfl rfl (by omega) ?_))
 have e:=Cg (n:=n) (A:=A) (m:=m) (c:=c) hh hz
 show vq P pl (br (br (br zs 0 (dV h)) 8 [.int .i64 (n:Int)]) 9 [.slice A m c]) [] _
 rw[e]
 exact .nil
theorem Bb{g:Nat}{s:ti}(hh:s.h.length=8)(hr:s.rest.length≤140737488351232):cf Tryz.prog 228 [.pointer (some ⟨g,0,none⟩)] [lZ g s] [] (fun v_ X_ S_=>∃g2 s2,v_=(.pointer (some ⟨g2,0,none⟩))∧X_=[lZ g s,lZ g2 s2]∧S_=[]∧(s2.h=s.h∧s2.n=s.n∧s2.rest=s.rest)):=by
 refine aP (N:=18) Tryz.func228 rfl rfl (by simp) fun b=> ?_
 refine bB (fun w m=>(m.perm (ar [0] _ [_] _ rfl)).unpack) ?_
 have hl0:=jR (n:=s.n) (A:=s.A) (m:=s.rest.length) (c:=s.c) hh
 refine ah<|aj<|hy (fun _=>ab rfl)<|ai<|ag<|ah<|cN [12,14] [(0,some 2),(1,some 1),(2,some 1),(3,some 1),(4,some 2),(5,some 1),(6,some 1),(7,some 1),(8,some 2),(9,some 2),(10,some 0),(11,some 0),(12,none),(13,some 1),(14,none),(15,some 2)] (by kernel_rfl) (by kernel_rfl) rfl 99<|an (aa rfl)<|an (bh rfl)<|an (aL rfl n8 (by decide))<|b6 (fun m=>yV (a6 rfl qI lf (by rw[bo,hh]) (fun j u hu=>(m.aY 0 rfl).ay j u (z8 hu))) ((rfl:_=Value.agg (dV s.h).toArray)))<|an (aa rfl)<|an (bh rfl)<|an (aL rfl mM (by decide))<|b6 (fun m=>aw rfl fE ((m.aY 0 rfl).ay 8 _ (wb hh)))<|an (aa rfl)<|an (bh rfl)<|an (aL rfl jD (by decide))<|b6 (fun m=>aw rfl dX ((m.aY 0 rfl).ay 9 _ (sl hh)))<| ?_
 refine dT (cC rfl Tryz.call117 (r5 (by omega)) [] rfl (.x 1 rfl .own .nil) ?_)
 rintro _ _ _ ⟨v,rfl,rfl,rfl⟩
 refine⟨rfl, ?_⟩
 refine⟨(fun _=>wk [1,1] [] rfl rfl), ?_⟩
 refine b9 (fun m=>(m.own 0 rfl).slice) ?_
 rintro⟨A_x,c_x,rfl,hc_x⟩
 refine b9 (fun m=>(m.ord 0 rfl).2.1) fun hA_x=> ?_
 refine an (cn Cx rfl rfl (by kernel_rfl) (C5 hh rfl (by kernel_rfl) (by kernel_rfl) (by kernel_rfl)))<| ?_
 refine dT (cy rfl (fun g17=>⟨(fun _=>wk [2,2] [] rfl rfl), ?_⟩))
 refine an (ab rfl)<|bz<|al (ρ' :=[(2,_),(0,_)]) ⟨rfl,rfl,trivial⟩<|ak (X' :=[_,_,_,_]) (S' :=[]) (fun _ m=>m)<|ag<|aU<| ?_
 refine ak (fun w m=>m.bO 0 rfl (show _=aI g17 308 (lV s.h s.n A_x s.rest.length c_x)from congrArg (aI _ _) (bq _))) ?_
 refine ak (X' :=lZ g s::_) (fun w m=>(m.perm (ar [2,2] _ [_,_] _ rfl)).pack) ?_
 refine ak (X' :=lZ g17 ⟨s.h,s.n,A_x,c_x,s.rest⟩::_) (fun w m=>(m.perm (ar [1,1] _ [_,_] _ rfl)).pack) ?_
 exact bc trivial rfl rfl [1,0] rfl [] rfl ⟨_,_,rfl,rfl,rfl,⟨rfl,rfl,rfl⟩⟩
end Go.Proofs.YtmibdabdlgmafaaGreatDoor
end
section
set_option maxRecDepth 20000
namespace Go.Proofs.YtmibdabdlgmafaaGreatDoor
open Go.Eng Go.Hx
theorem xW(n:Nat)(h:n<18446744073709551616):IntKind.u64.wrap (n:Int)=(n:Int):=by
 simp[IntKind.wrap,IntKind.signed,IntKind.bits];omega
theorem zU{n i:Nat}(hi:i<8):(se n).take (i+1)=(se n).take i++[UInt8.ofNat (n/256 ^ (7-i))]:=by
 rw[se,←List.map_take,←List.map_take,List.take_range,List.take_range,show min (i+1) 8=i+1 by omega,show min i 8=i by omega,List.range_succ,List.map_append];rfl
theorem Hb{i:Nat}(hi:i<8):2 ^ (56-8*i)=256 ^ (7-i):=by
 rw[show(256:Nat)=2 ^ 8 from rfl,←Nat.pow_mul];congr 1;omega
theorem wE(h:List UInt32)(j:Nat)(hj:j<h.length):eF (h.take (j+1))=eF (h.take j)++Aw (h.getD j 0):=by
 rw[List.take_succ_eq_append_getElem hj,eF,eF,List.flatMap_append]
 simp[List.getD,List.getElem?_eq_getElem hj]
theorem pz(h:List UInt32):∀j,j≤h.length→(eF (h.take j)).length=4*j
 |0,_=>rfl
 |j+1,hj=>by rw[wE h j (by omega),List.length_append,pz h j (by omega)];show 4*j+4=_;omega
theorem Ge{p r:List UInt8}{k:Nat}{a b c d x y z u:UInt8}(hp:p.length=k):
  ((((aQ (p++x::y::z::u::r)).set k (B8 a)).set (k+1) (B8 b)).set (k+2) (B8 c)).set (k+3) (B8 d)=aQ (p++a::b::c::d::r):=by
 subst hp
 simp[aQ,List.set_append]
theorem E4{g:Nat}{s:ti}{all:List UInt8}(ok:s.ok all)(hr:s.rest.length<64)(ha:all.length≤140737488351232):cf Tryz.prog 174 [.pointer (some ⟨g,0,none⟩)] [lZ g s] [ef] (fun v_ X_ S_=>v_=(.agg (aQ (ba all)).toArray)∧X_=[lZ g s]∧S_=[]):=by
 have hh:=ok.len
 have hsn:=ok.n
 have hl0:=jR (n:=s.n) (A:=s.A) (m:=s.rest.length) (c:=s.c) hh
 have hz64:gR s.n<64:=Nat.mod_lt _ (by decide)
 have hzp:(s.n+(1+gR s.n)) % 64=56:=by unfold gR;omega
 have hzm:∀j,j<gR s.n→(s.n+(1+j)) % 64≠56:=fun j hj=>by unfold gR at hj;omega
 refine aP (N:=83) Tryz.func174 rfl rfl (by simp) fun b=> ?_
 refine ah<|aj<| ?_
 refine hx (aN dL (fun g2=> ?_))
 refine ai<|ak (X' :=[_,_]) (S' :=[_]) (fun _ m=>m)<|ag<|ah<|aj<|hy (fun _=>aa rfl)<| ?_
 refine hx (aq rfl Tryz.call228 (Bb (by omega) (by omega)) [1] rfl [] rfl ?_)
 rintro _ _ _ ⟨g22,s2,rfl,rfl,rfl,hp⟩
 refine hy (fun _=>ab rfl)<|ai<|al (ρ' :=[(3,_),(2,_),(0,_)]) ⟨rfl,rfl,rfl,trivial⟩<|ak (X' :=[_,_,_]) (S' :=[_]) (fun _ m=>m)<|ag<|ah<|aj<| ?_
 refine hx (bV Tryz.underlying27 eP rfl rfl rfl (by simp[Value.cells,B8]) (by decide) (by decide) (fun g12=> ?_))
 have hA_b12:0<1→(some (⟨g12,0,none⟩:Addr))≠none:=fun _ h=>by cases h
 refine hy (fun _=>ab rfl)<|ai<|al (ρ' :=[(4,_),(3,_),(2,_),(0,_)]) ⟨rfl,rfl,rfl,rfl,trivial⟩<|ak (X' :=[_,_,_,_]) (S' :=[_]) (fun _ m=>m)<|ag<|ah<|aK<| ?_
 obtain⟨c1,c2,c3⟩:=hp
 refine bB (fun w m=>m.bO 0 rfl (show _=aG 5 1 (.slice (some ⟨g12,0,none⟩) 1 1) (1+0) (aQ (128::List.replicate 0 0))from rfl)) ?_
 refine fv (fun j A1 cc=>gR s.n-j) (fun j A1 cc=>[(4,.slice A1 (1+j) cc)]) (fun j A1 cc=>[aG 5 1 (.slice A1 (1+j) cc) (1+j) (aQ (128::List.replicate j 0)),lZ g s]) (fun j A1 cc=>[]) (fun j A1 cc=>j≤gR s.n) 0 (some ⟨g12,0,none⟩) 1 [(3,_),(2,_),(0,_)] ⟨rfl,rfl,rfl,trivial⟩ [0,0] rfl [] rfl (Nat.zero_le _) ⟨rfl,trivial⟩ (fun j A1 cc hjz=> ?_)
 refine bB (fun w m=>(m.perm (ar [1] _ [_] _ rfl)).unpack) ?_
 refine ah<|ah<|aj<|hy (fun _=>aa rfl)<|hy (fun _=>bh rfl)<|hy (fun _=>aL rfl mM (by decide))<|hy (fun m=>aw rfl fE ((m.aY 0 rfl).ay 8 _ (wb hh)))<|hy (fun _=>aa rfl)<|hy (fun _=>aX rfl Tryz.underlying27)<|hy (fun _=>aM rfl rfl (bD (by omega) (by omega)))<|hy (fun _=>gC rfl rfl (by omega) (by omega))<|hy (fun _=>dN rfl rfl)<|ai<|al (ρ' :=[(21,_),(4,_),(3,_),(2,_),(0,_)]) ⟨rfl,rfl,rfl,rfl,rfl,trivial⟩<|ag<| ?_
 refine bB (X' :=lZ g s::_) (fun w m=>(m.perm (ar [0,0] _ [_,_] _ rfl)).pack) ?_
 refine cD rfl (fun hne=> ?_) (fun hne=> ?_)
 ·have hj:j<gR s.n:=by
   rcases Nat.lt_or_eq_of_le hjz with h|h
   ·exact h
   ·rw[←h]at hzp;omega
  refine aD<|ag<|aK<|aj<|hy (fun _=>aa rfl)<| ?_
  refine hx (bV Tryz.underlying27 eP rfl rfl rfl (by simp[Value.cells,B8]) (by decide) (by decide) (fun g23=> ?_))
  have hA_b23:0<1→(some (⟨g23,0,none⟩:Addr))≠none:=fun _ h=>by cases h
  refine aR (fun w m=>m.bO 0 rfl (show _=aG 5 1 (.slice (some ⟨g23,0,none⟩) 1 1) 1 (aQ [0])from rfl)) ?_
  refine hx (bH 2 rfl rfl rfl Tryz.underlying27 Tryz.underlying27 (by exact .inl rfl) eP rfl (fun m=>Src.bY (m.ord 0 rfl)) aS (by unfold maxLen;omega) (by omega) (fun u=> ?_))
  refine aB (fun m=>(m.own 0 rfl).slice) ?_
  rintro⟨A_b12,c_b12,rfl,hc_b12⟩
  refine aB (fun m=>(m.ord 0 rfl).2.1) fun hA_b12=> ?_
  refine hy (fun _=>ab rfl)<|ai<|al (ρ' :=[(4,_),(21,_),(3,_),(2,_),(0,_)]) ⟨rfl,rfl,rfl,rfl,rfl,trivial⟩<|ak (X' :=[_,_,_,_,_]) (S' :=[_]) (fun _ m=>m)<|aT<| ?_
  refine ak (fun w m=>m.bO 0 rfl (show _=aG 5 1 (.slice A_b12 (1+(j+1)) c_b12) (1+(j+1)) (aQ (128::List.replicate (j+1) 0))from by rw[Nat.add_assoc,List.replicate_succ',aQ,aQ,aQ,←List.map_append];rfl)) ?_
  refine eZ (j+1) A_b12 c_b12 ⟨rfl,rfl,rfl,rfl,trivial⟩ [0,1,1,1] rfl [0] rfl (by omega) (by omega)
 ·have hj:j=gR s.n:=by
   refine Decidable.byContradiction fun hn=> ?_
   have:=hzm j (by omega)
   omega
  subst hj
  have hsl:IntKind.u64.wrap ((s.n:Int)*8)=((8*s.n:Nat):Int):=by
   rw[show(s.n:Int)*8=((8*s.n:Nat):Int) by omega]
   exact xW _ (by omega)
  refine bK<|ao<|ao<|aC<|ag<|ah<|aj<|hy (fun _=>aa rfl)<|hy (fun _=>bh rfl)<|hy (fun _=>aL rfl mM (by decide))<|hy (fun m=>aw rfl fE ((show fb _ _ _ _ from m.FX 0 rfl 0 rfl).ay 8 _ (wb hh)))<|hy (fun _=>bT rfl Tryz.underlying3 Tryz.underlying310 (xW s.n (by omega)))<|hy (fun _=>sL (p:=8) rfl rfl (by decide) (by decide) (by decide) hsl)<|hy (fun _=>ab rfl)<|ai<|al (ρ' :=[(5,_),(21,_),(4,_),(3,_),(2,_),(0,_)]) ⟨rfl,rfl,rfl,rfl,rfl,rfl,trivial⟩<|ag<|ah<|ah<|aj<|hy (fun _=>aa rfl)<|ai<|ag<|aK<| ?_
  generalize hz:gR s.n=z at hz64
  refine bB (fun w m=>m.bO 1 rfl (show _=aG 5 1 (.slice A1 (1+z+0) cc) (1+z+0) (aQ (128::List.replicate z 0++(se (8*s.n)).take 0))from by rw[List.take_zero,List.append_nil];rfl)) ?_
  refine fv (fun i A2 ce=>8-i) (fun i A2 ce=>[(4,.slice A2 (1+z+i) ce),(31,.int .i64 (i:Nat))]) (fun i A2 ce=>[aG 5 1 (.slice A2 (1+z+i) ce) (1+z+i) (aQ (128::List.replicate z 0++(se (8*s.n)).take i))]) (fun i A2 ce=>[]) (fun i A2 ce=>i≤8) 0 A1 cc [(5,_),(21,_),(3,_),(2,_),(0,_)] ⟨rfl,rfl,rfl,rfl,rfl,trivial⟩ [0] rfl [] rfl (Nat.zero_le _) ⟨rfl,rfl,trivial⟩ (fun i A2 ce hi8=> ?_)
  refine ah<|aj<|hy (fun _=>bw rfl rfl)<|ai<|ag<|ah<| ?_
  refine cD rfl (fun hi=> ?_) (fun hi=> ?_)
  ·have hcv:IntKind.u8.wrap (((8*s.n:Nat):Int)/((2 ^ (56-8*i):Nat):Int))=((UInt8.ofNat (8*s.n/256 ^ (7-i))).toNat:Int):=by
    rw[←Int.natCast_ediv,Hb (by omega)]
    exact gA _
   have hsb:(56:Int)-8*(i:Int)=((56-8*i:Nat):Int):=by omega
   refine aD<|ag<|ah<|aK<|ah<|aj<|hy (fun _=>aa rfl)<|hy (fun _=>ab rfl)<|ai<|al (ρ' :=[(6,_),(32,_),(4,_),(31,_),(5,_),(21,_),(3,_),(2,_),(0,_)]) ⟨rfl,rfl,rfl,rfl,rfl,rfl,rfl,rfl,rfl,trivial⟩<|ag<|aj<|hy (fun _=>aa rfl)<|hy (fun _=>aa rfl)<|hy (fun _=>aa rfl)<|hy (fun _=>fp rfl rfl (bD (by omega) (by omega)))<|hy (fun _=>ck rfl rfl (bD (by omega) (by omega)))<| ?_
   rw[hsb]
   refine hy (fun _=>nr rfl rfl (by omega) (by simp[IntKind.bits];omega) (show(2:Int) ^ (((56-8*i:Nat):Int)).toNat=((2 ^ (56-8*i):Nat):Int) by rw[Int.toNat_natCast];simp))<|hy (fun _=>bT rfl Tryz.underlying310 Tryz.underlying5 hcv)<| ?_
   refine hx (bV Tryz.underlying27 eP rfl rfl rfl (by simp[Value.cells,B8]) (by decide) (by decide) (fun g41=> ?_))
   have hA_b41:0<1→(some (⟨g41,0,none⟩:Addr))≠none:=fun _ h=>by cases h
   refine aR (fun w m=>m.bO 0 rfl (show _=aG 5 1 (.slice (some ⟨g41,0,none⟩) 1 1) 1 (aQ [UInt8.ofNat (8*s.n/256 ^ (7-i))])from rfl)) ?_
   refine hx (bH 1 rfl rfl rfl Tryz.underlying27 Tryz.underlying27 (by exact .inl rfl) eP rfl (fun m=>Src.bY (m.ord 0 rfl)) aS (by unfold maxLen;omega) (by omega) (fun u=> ?_))
   refine aB (fun m=>(m.own 0 rfl).slice) ?_
   rintro⟨A_b12,c_b12,rfl,hc_b12⟩
   refine aB (fun m=>(m.ord 0 rfl).2.1) fun hA_b12=> ?_
   refine hy (fun _=>ab rfl)<|ai<|al (ρ' :=[(4,_),(6,_),(32,_),(31,_),(5,_),(21,_),(3,_),(2,_),(0,_)]) ⟨rfl,rfl,rfl,rfl,rfl,rfl,rfl,rfl,rfl,trivial⟩<|ak (X' :=[_,_,_,_,_]) (S' :=[_]) (fun _ m=>m)<|aT<|ag<|aj<|hy (fun _=>aM rfl rfl (bD (by omega) (by omega)))<|hy (fun _=>aa rfl)<|ai<|al (ρ' :=[(31,_),(4,_),(6,_),(32,_),(5,_),(21,_),(3,_),(2,_),(0,_)]) ⟨rfl,rfl,rfl,rfl,rfl,rfl,rfl,rfl,rfl,trivial⟩<| ?_
   refine ak (fun w m=>m.bO 0 rfl (show _=aG 5 1 (.slice A_b12 (1+z+(i+1)) c_b12) (1+z+(i+1)) (aQ (128::List.replicate z 0++(se (8*s.n)).take (i+1)))from by rw[zU (by omega),←List.append_assoc];simp[aQ,Nat.add_assoc])) ?_
   refine eZ (i+1) A_b12 c_b12 ⟨rfl,rfl,rfl,rfl,rfl,rfl,rfl,trivial⟩ [0,1,1,1] rfl [0] rfl (by omega) (by omega)
  ·obtain rfl:i=8:=by omega
   have hpad:all++(128::List.replicate z 0++(se (8*s.n)).take 8)=iJ all:=by
    rw[List.take_of_length_le (by simp[se]),iJ,←hsn,hz,List.append_assoc]
   refine bK<|ao<|ao<|aC<|ag<|ah<|aj<|hy (fun _=>aa rfl)<|hy (fun _=>aa rfl)<| ?_
   refine hx (cC rfl Tryz.call173 (wg (by rw[c1];exact hh) (by rw[c2];omega) (by rw[c3];omega) (s:=s2) (l:=(128::List.replicate z 0++(se (8*s.n)).take 8))) [2] rfl (.x 0 rfl .own (.s 0 rfl .nil)) ?_)
   rintro _ _ _ ⟨s1,rfl,rfl,rfl,hw⟩
   refine⟨rfl, ?_⟩
   obtain⟨hw1,hw2⟩:=hw
   have ok2:s2.ok all:=⟨by rw[c1];exact hh,by rw[c2];exact hsn,by rw[c1,c3];exact ok.F9⟩
   have ok3:=hw2 all ok2
   rw[hpad]at ok3
   have hh3:=ok3.len
   have hfin:s1.h=fa lT (iJ all):=by
    obtain⟨D,e1,e2,e3⟩:=ok3.F9
    have hl:=congrArg List.length e1
    rw[List.length_append]at hl
    have hp:=nz all
    have:s1.rest=[]:=List.eq_nil_of_length_eq_zero (by omega)
    rw[this,List.append_nil]at e1
    rw[e3,e1]
   have hsha:eF s1.h=ba all:=by rw[hfin];rfl
   have hd32:=pz s1.h
   have hl3:=jR (n:=s1.n) (A:=s1.A) (m:=s1.rest.length) (c:=s1.c) hh3
   refine aR (fun w m=>(m.perm (ar [0] _ [_] _ rfl)).unpack) ?_
   refine ai<|al (ρ' :=[(32,_),(4,_),(31,_),(5,_),(21,_),(3,_),(2,_),(0,_)]) ⟨rfl,rfl,rfl,rfl,rfl,rfl,rfl,rfl,trivial⟩<|ak (X' :=[_,_,_,_,_]) (S' :=[_]) (fun _ m=>m)<|ag<|ah<|aj<| ?_
   refine hx (aN dL (fun g7=> ?_))
   refine aR (fun w m=>m.bO 0 rfl (show _=aI g7 53 (aQ (eF (s1.h.take 0)++List.replicate (32-4*0) 0))from rfl)) ?_
   refine ai<|ak (X' :=[_,_,_,_,_,_]) (S' :=[_]) (fun _ m=>m)<|ag<|ah<|ah<|aj<|hy (fun _=>aa rfl)<|hy (fun _=>bh rfl)<|hy (fun _=>aL rfl n8 (by decide))<|hy (fun m=>yV (a6 rfl qI lf (by rw[bo,hh3]) (fun j u hu=>(m.aY 1 rfl).ay j u (z8 hu))) ((rfl:_=Value.agg (dV s1.h).toArray)))<|hy (fun _=>aa rfl)<|ai<|al (ρ' :=[(51,_),(50,_),(7,_),(32,_),(4,_),(31,_),(5,_),(21,_),(3,_),(2,_),(0,_)]) ⟨rfl,rfl,rfl,rfl,rfl,rfl,rfl,rfl,rfl,rfl,rfl,trivial⟩<|ag<|aK<| ?_
   refine dz (fun k=>8-k) (fun k=>[(51,.int .i64 (k:Nat))]) (fun k=>[aI g7 53 (aQ (eF (s1.h.take k)++List.replicate (32-4*k) 0))]) (fun k=>[]) (fun k=>k≤8) 0 [(50,_),(7,_),(32,_),(4,_),(31,_),(5,_),(21,_),(3,_),(2,_),(0,_)] ⟨rfl,rfl,rfl,rfl,rfl,rfl,rfl,rfl,rfl,rfl,trivial⟩ [0] rfl [] rfl (Nat.zero_le _) ⟨rfl,trivial⟩ (fun k hk8=> ?_)
   refine ah<|aj<|hy (fun _=>bw rfl rfl)<|ai<|ag<|ah<| ?_
   refine cD rfl (fun hk=> ?_) (fun hk=> ?_)
   ·have hdk:=hd32 k (by omega)
    have hr4:List.replicate (32-4*k) (0:UInt8)=0::0::0::0::List.replicate (32-4*(k+1)) 0:=by
     rw[show 32-4*k=(32-4*(k+1))+4 by omega];rfl
    refine aD<|ag<|ah<|aK<|ah<|aj<|hy (fun _=>aa rfl)<|hy (fun _=>yV (EB rfl rfl Tryz.underlying306 bF bM rfl (by omega) (bf (by omega))) ((rfl:_=Wd (s1.h.getD k 0))))<|hy (fun _=>ab rfl)<|hy (fun _=>ab rfl)<|ai<|al (ρ' :=[(9,_),(8,_),(52,_),(51,_),(50,_),(7,_),(32,_),(4,_),(31,_),(5,_),(21,_),(3,_),(2,_),(0,_)]) ⟨rfl,rfl,rfl,rfl,rfl,rfl,rfl,rfl,rfl,rfl,rfl,rfl,rfl,rfl,trivial⟩<|ag<|aj<|hy (fun _=>aa rfl)<|hy (fun _=>fp rfl rfl (bD (by omega) (by omega)))<|hy (fun _=>aa rfl)<|hy (fun _=>fp rfl rfl (bD (by omega) (by omega)))<|hy (fun _=>aM rfl rfl (bD (by omega) (by omega)))<|hy (fun _=>aa rfl)<|hy (fun _=>fp rfl rfl (bD (by omega) (by omega)))<|hy (fun _=>aM rfl rfl (bD (by omega) (by omega)))<|hy (fun _=>aa rfl)<|hy (fun _=>fp rfl rfl (bD (by omega) (by omega)))<|hy (fun _=>aM rfl rfl (bD (by omega) (by omega)))<|hy (fun _=>aa rfl)<|hy (fun _=>l5 (k:=24) (b:=16777216) (by decide) rfl rfl rfl)<|hy (fun _=>y7 rfl Tryz.underlying166 Tryz.underlying5)<|hy (fun _=>aa rfl)<|hy (fun _=>l5 (k:=16) (b:=65536) (by decide) rfl rfl rfl)<|hy (fun _=>y7 rfl Tryz.underlying166 Tryz.underlying5)<|hy (fun _=>aa rfl)<|hy (fun _=>l5 (k:=8) (b:=256) (by decide) rfl rfl rfl)<|hy (fun _=>y7 rfl Tryz.underlying166 Tryz.underlying5)<|hy (fun _=>aa rfl)<|hy (fun _=>y7 rfl Tryz.underlying166 Tryz.underlying5)<|hy (fun _=>bZ rfl rfl Tryz.underlying53 dZ (show((4*k:Nat):Int)=_ by omega) (by omega))<| ?_
    refine cI (cz 0 rfl rfl rfl dZ rfl (by simp[aQ];omega) ?_)
    refine hy (fun _=>bZ rfl rfl Tryz.underlying53 dZ (show((4*k+1:Nat):Int)=_ by omega) (by omega))<| ?_
    refine cI (cz 0 rfl rfl rfl dZ rfl (by simp[aQ];omega) ?_)
    refine hy (fun _=>bZ rfl rfl Tryz.underlying53 dZ (show((4*k+2:Nat):Int)=_ by omega) (by omega))<| ?_
    refine cI (cz 0 rfl rfl rfl dZ rfl (by simp[aQ];omega) ?_)
    refine hy (fun _=>bZ rfl rfl Tryz.underlying53 dZ (show((4*k+3:Nat):Int)=_ by omega) (by omega))<| ?_
    refine cI (cz 0 rfl rfl rfl dZ rfl (by simp[aQ];omega) ?_)
    refine ai<|al (ρ' :=[(9,_),(8,_),(52,_),(51,_),(50,_),(7,_),(32,_),(4,_),(31,_),(5,_),(21,_),(3,_),(2,_),(0,_)]) ⟨rfl,rfl,rfl,rfl,rfl,rfl,rfl,rfl,rfl,rfl,rfl,rfl,rfl,rfl,trivial⟩<|ak (X' :=[_,_,_,_,_,_]) (S' :=[_]) (fun _ m=>m)<|aT<|ag<|aj<|hy (fun _=>aM rfl rfl (bD (by omega) (by omega)))<|hy (fun _=>aa rfl)<|ai<|al (ρ' :=[(51,_),(9,_),(8,_),(52,_),(50,_),(7,_),(32,_),(4,_),(31,_),(5,_),(21,_),(3,_),(2,_),(0,_)]) ⟨rfl,rfl,rfl,rfl,rfl,rfl,rfl,rfl,rfl,rfl,rfl,rfl,rfl,rfl,trivial⟩<| ?_
    refine ak (fun w m=>m.bO 0 rfl (show _=aI g7 53 (aQ (eF (s1.h.take (k+1))++List.replicate (32-4*(k+1)) 0))from by rw[hr4,Nat.zero_add,Nat.zero_add,Nat.zero_add,Nat.zero_add,Ge hdk,wE _ _ (by omega)];simp[Aw])) ?_
    refine cM (k+1) ⟨rfl,rfl,rfl,rfl,rfl,rfl,rfl,rfl,rfl,rfl,rfl,trivial⟩ [0,0,0,0,0,0] rfl [0] rfl (by omega) (by omega)
   ·obtain rfl:k=8:=by omega
    refine bB (fun w m=>m.bO 0 rfl (show _=aI g7 53 (aQ (ba all))from by rw[List.take_of_length_le (by omega),hsha];simp)) ?_
    refine bK<|ao<|ao<|aC<|ag<|ah<|aj<|hy (fun m=>yV (a6 rfl cr bp (by rw[az,bj]) ((m.aY 0 rfl).ay)) ((rfl:_=Value.agg (aQ (ba all)).toArray)))<| ?_
    refine cI (aJ 5 rfl rfl rfl bp (by rw[az,bj]) aS rfl ?_)
    refine ai<|al (ρ' :=[(52,_),(51,_),(50,_),(7,_),(32,_),(4,_),(31,_),(5,_),(21,_),(3,_),(2,_),(0,_)]) ⟨rfl,rfl,rfl,rfl,rfl,rfl,rfl,rfl,rfl,rfl,rfl,rfl,trivial⟩<|ak (X' :=[_,_,_,_,_,_]) (S' :=[_]) (fun _ m=>m)<|ag<|aU<| ?_
    exact fe trivial rfl rfl cr bp (by rw[az,bj]) (fun m=>(m.aY 0 rfl).ay) [5] rfl [] rfl ⟨rfl,rfl,rfl⟩
theorem vb{A:Option Addr}{n c:Nat}{l:List UInt8}(hn:n≤140737488351232):cf Tryz.prog 102 [.slice A n c] [] [c6 1 A n (aQ l),ef] (fun v_ X_ S_=>v_=(.agg (aQ (ba l)).toArray)∧X_=[]∧S_=[]):=by
 refine aP (N:=10) Tryz.func102 rfl rfl (by simp) fun b=> ?_
 refine aZ (fun m=>gz (m.rd 0 rfl)) ?_
 rintro⟨hl_r,hA_r⟩
 have hln:l.length=n:=hl_r
 refine ah<|aj<| ?_
 refine hx (aN dL (fun g2=> ?_))
 refine ai<|ak (X' :=[_]) (S' :=[_,_]) (fun _ m=>m)<|ag<|ah<|aj<| ?_
 refine hx (aq rfl Tryz.call172 (FA) [] rfl [] rfl ?_)
 rintro _ _ _ ⟨g,rfl,rfl,rfl⟩
 refine hy (fun _=>ab rfl)<|ai<|al (ρ' :=[(3,_),(2,_),(0,_)]) ⟨rfl,rfl,rfl,trivial⟩<|ak (X' :=[_,_]) (S' :=[_,_]) (fun _ m=>m)<|ag<|ah<|aj<|hy (fun _=>aa rfl)<|hy (fun _=>aa rfl)<| ?_
 refine hx (aq rfl Tryz.call173 (wg rfl (by show 0+n≤_;omega) (by show 0+n≤_;omega) (s:=⟨lT,0,none,0,[]⟩)) [0] rfl [0,1] rfl ?_)
 rintro _ _ _ ⟨s1,rfl,rfl,rfl,hw⟩
 refine ai<|al (ρ' :=[(3,_),(2,_),(0,_)]) ⟨rfl,rfl,rfl,trivial⟩<|ak (X' :=[_,_]) (S' :=[_,_]) (fun _ m=>m)<|ag<|ah<|aj<| ?_
 obtain⟨hw1,hw2⟩:=hw
 have ok1:=hw2 [] C7
 rw[List.nil_append]at ok1
 refine hy (fun _=>aa rfl)<| ?_
 refine hx (aq rfl Tryz.call174 (E4 ok1 hw1 (by omega) (all:=l)) [0] rfl [1] rfl ?_)
 rintro _ _ _ ⟨rfl,rfl,rfl⟩
 refine cI (aJ 1 rfl rfl rfl bp (by rw[az,bj]) aS rfl ?_)
 refine ai<|al (ρ' :=[(3,_),(2,_),(0,_)]) ⟨rfl,rfl,rfl,trivial⟩<|ak (X' :=[_,_]) (S' :=[_,_]) (fun _ m=>m)<|ag<|aU<| ?_
 exact fe trivial rfl rfl cr bp (by rw[az,bj]) (fun m=>(m.aY 0 rfl).ay) [] rfl [] rfl ⟨rfl,rfl,rfl⟩
end Go.Proofs.YtmibdabdlgmafaaGreatDoor
end
section
set_option maxRecDepth 20000
set_option maxHeartbeats 4000000
namespace Go.Proofs.YtmibdabdlgmafaaGreatDoor
open Go.Eng Go.Hx
theorem Fm{g:Nat}{st:cG}{d:RD}{kk:Nat}{nm:List UInt8}(hD:DS st d kk)(hm:nm.length=32):cf Tryz.prog 73 [.pointer (some ⟨g,0,none⟩),.agg (aQ nm).toArray] [bn g st] [ef] (fun v_ X_ S_=>∃v,v_=(.tuple #[v,.int .i64 (d.dY nm)])∧X_=[bn g st,aG 5 1 v (d.oU nm).length (aQ (d.oU nm))]∧S_=[]):=by
 have hlen:=hD.uO (aF nm)
 have hol:=qi (f:=d.cm (aF nm)) (most:=4096) (by decide)
 refine aP (N:=33) Tryz.func73 rfl rfl (by simp) fun b=> ?_
 refine ah<|aj<| ?_
 refine hx (cy rfl (fun g3=> ?_))
 refine aR (fun w m=>m.bO 0 rfl (show _=aI g3 53 (aQ nm)from congrArg (aI _ _) (bq _))) ?_
 refine hy (fun _=>ab rfl)<|hy (fun _=>ab rfl)<|ai<|ak (X' :=[_,_]) (S' :=[_]) (fun _ m=>m)<|ag<|ah<|aj<|hy (fun _=>aa rfl)<|hy (fun m=>a6 rfl cr bp (by rw[az];exact hm) ((m.aY 0 rfl).ay))<| ?_
 refine hx (aq rfl Tryz.call94 (rp hm) [] rfl [] rfl ?_)
 rintro _ _ _ ⟨rfl,rfl,rfl⟩
 refine hx (aq rfl Tryz.call90 (D8 hD) [1] rfl [] rfl ?_)
 rintro _ _ _ ⟨v,rfl,rfl,rfl⟩
 refine aB (fun m=>(m.own 1 rfl).slice) ?_
 rintro⟨A_x,c_x,rfl,hc_x⟩
 refine aB (fun m=>(m.ord 1 rfl).2.1) fun hA_x=> ?_
 refine hy (fun _=>aa rfl)<|hy (fun _=>au rfl rfl)<|hy (fun _=>au rfl rfl)<|hy (fun _=>ab rfl)<|hy (fun _=>ab rfl)<|ai<|al (ρ' :=[(7,_),(6,_),(5,_),(4,_),(3,_),(0,_),(1,_)]) ⟨rfl,rfl,rfl,rfl,rfl,rfl,rfl,trivial⟩<|ak (X' :=[_,_,_]) (S' :=[_]) (fun _ m=>m)<|ag<|ah<|ah<|aj<|hy (fun _=>aa rfl)<|hy (fun _=>dN rfl rfl)<|ai<|al (ρ' :=[(17,_),(7,_),(6,_),(5,_),(4,_),(3,_),(0,_),(1,_)]) ⟨rfl,rfl,rfl,rfl,rfl,rfl,rfl,rfl,trivial⟩<|ag<| ?_
 refine cD rfl (fun h1=> ?_) (fun h1=> ?_)
 ·rw[jn h1,kY (by rw[jn h1];exact h1)]
  refine ah<|aj<|hy (fun _=>aa rfl)<|hy (fun _=>ab rfl)<|hy (fun _=>ab rfl)<|ai<|al (ρ' :=[(5,_),(4,_),(17,_),(7,_),(6,_),(3,_),(0,_),(1,_)]) ⟨rfl,rfl,rfl,rfl,rfl,rfl,rfl,rfl,trivial⟩<|ag<|aU<|ax<| ?_
  refine ak (fun w m=>m.dx (r' :=aG 5 1 (.slice none 0 0) 0 []) (.refl _ _) (Own.nil _ _ _ _) (fun k hk=>hk.elim)) ?_
  exact dg trivial rfl rfl rfl [1,0] rfl [] rfl ⟨_,rfl,rfl,rfl⟩
 ·have h1:=Decidable.not_not.1 h1
  refine aD<|ag<|ah<|aj<|hy (fun _=>aa rfl)<| ?_
  refine hx (cC rfl Tryz.call155 (Fi hc_x (by omega) (show(4096:Int)≤1000000 by decide)) [] rfl (.x 1 rfl .own .nil) ?_)
  rintro _ _ _ ⟨v2,rfl,rfl,rfl⟩
  refine⟨rfl, ?_⟩
  refine aB (fun m=>(m.own 0 rfl).slice) ?_
  rintro⟨A_x2,c_x2,rfl,hc_x2⟩
  refine aB (fun m=>(m.ord 0 rfl).2.1) fun hA_x2=> ?_
  refine hy (fun _=>aa rfl)<|hy (fun _=>au rfl rfl)<|hy (fun _=>au rfl rfl)<|hy (fun _=>ab rfl)<|hy (fun _=>ab rfl)<|ai<|al (ρ' :=[(7,_),(8,_),(17,_),(6,_),(5,_),(4,_),(3,_),(0,_),(1,_)]) ⟨rfl,rfl,rfl,rfl,rfl,rfl,rfl,rfl,rfl,trivial⟩<|ak (X' :=[_,_,_,_]) (S' :=[_]) (fun _ m=>m)<|ag<|ah<|ah<|cN [4] [(0,some 0),(1,some 0),(2,some 0),(3,some 0),(5,some 1),(4,none),(6,some 1),(7,some 1)] (by kernel_rfl) (by kernel_rfl) rfl 99<|an (aa rfl)<|an (dN rfl rfl)<|an (aa rfl)<| ?_
  refine kN 26 rfl (fun h2=> ?_) (fun h2=> ?_)
  ·have hE:=l9 (d:=d) (nm:=nm) h1 (.inl h2)
   rw[hE,kY (by rw[hE];decide)]
   refine a7 rfl rfl rfl (by decide)<|a7 rfl rfl rfl (by decide)<|AD rfl rfl rfl (by decide) (fun _=>wk [0,0,0,0] [0] rfl rfl)<|a7 rfl rfl rfl (by decide)<|an (bU rfl rfl)<|bz<|al (ρ' :=[(31,_),(7,_),(8,_),(17,_),(6,_),(5,_),(4,_),(3,_),(0,_),(1,_)]) ⟨rfl,rfl,rfl,rfl,rfl,rfl,rfl,rfl,rfl,rfl,trivial⟩<|ag<| ?_
   refine ib rfl (rfl) ?_
   refine ah<|aj<|hy (fun _=>ab rfl)<|hy (fun _=>ab rfl)<|ai<|ag<|aU<|ax<| ?_
   refine ak (fun w m=>m.dx (r' :=aG 5 1 (.slice none 0 0) 0 []) (.refl _ _) (Own.nil _ _ _ _) (fun k hk=>hk.elim)) ?_
   exact dg trivial rfl rfl rfl [2,0] rfl [] rfl ⟨_,rfl,rfl,rfl⟩
  ·have h2:=Decidable.not_not.1 h2
   refine bG (o:=_) rfl rfl rfl (aa rfl)<|lR (o:=_) rfl rfl rfl (fun m=>a6 rfl cr bp (by rw[az];exact hm) ((m.aY 3 rfl).ay))<| ?_
   refine s3 (o:=_) rfl rfl rfl (cC rfl Tryz.call102 (vb (by omega)) [] rfl (.x 0 rfl .own (.s 0 rfl .nil)) ?_)
   rintro _ _ _ ⟨rfl,rfl,rfl⟩
   refine⟨rfl, ?_⟩
   refine⟨(fun _=>wk [0,0,0,0] [0] rfl rfl), ?_⟩
   refine bG (o:=_) rfl rfl rfl (rP rfl rfl (bj _) hm)<|an (bP rfl rfl)<|bz<|al (ρ' :=[(31,_),(7,_),(8,_),(17,_),(6,_),(5,_),(4,_),(3,_),(0,_),(1,_)]) ⟨rfl,rfl,rfl,rfl,rfl,rfl,rfl,rfl,rfl,rfl,trivial⟩<|ak (X' :=[_,_,_,_]) (S' :=[_]) (fun _ m=>m)<|ag<| ?_
   refine cD rfl (fun h3=> ?_) (fun h3=> ?_)
   ·have hE:=l9 (d:=d) (nm:=nm) h1 (.inr h3)
    rw[hE,kY (by rw[hE];decide)]
    refine ah<|aj<|hy (fun _=>ab rfl)<|hy (fun _=>ab rfl)<|ai<|ag<|aU<|ax<| ?_
    refine ak (fun w m=>m.dx (r' :=aG 5 1 (.slice none 0 0) 0 []) (.refl _ _) (Own.nil _ _ _ _) (fun k hk=>hk.elim)) ?_
    exact dg trivial rfl rfl rfl [2,0] rfl [] rfl ⟨_,rfl,rfl,rfl⟩
   ·have hE:=rC (d:=d) (nm:=nm) h1 (fun q=>q.elim (fun q=>q h2) h3)
    rw[hE,rZ hE]
    refine aD<|ag<|ah<|aj<|hy (fun _=>aa rfl)<|hy (fun _=>ab rfl)<|hy (fun _=>ab rfl)<|ai<|al (ρ' :=[(5,_),(4,_),(31,_),(7,_),(8,_),(17,_),(6,_),(3,_),(0,_),(1,_)]) ⟨rfl,rfl,rfl,rfl,rfl,rfl,rfl,rfl,rfl,rfl,trivial⟩<|ag<|aU<| ?_
    exact dg trivial rfl rfl rfl [1,0] rfl [] rfl ⟨_,rfl,rfl,rfl⟩
theorem DJ{g:Nat}{st:cG}{d:RD}{kk:Nat}{nm:List UInt8}(hD:DS st d kk)(hm:nm.length=32):cf Tryz.prog 145 [.pointer (some ⟨g,0,none⟩),.agg (aQ nm).toArray] [bn g st] [ef] (fun v_ X_ S_=>v_=(.bool (decide (d.dY nm=0)))∧X_=[bn g st]∧S_=[]):=by
 refine aP (N:=15) Tryz.func145 rfl rfl (by simp) fun b=> ?_
 refine ah<|aj<| ?_
 refine hx (cy rfl (fun g3=> ?_))
 refine aR (fun w m=>m.bO 0 rfl (show _=aI g3 53 (aQ nm)from congrArg (aI _ _) (bq _))) ?_
 refine hy (fun _=>ab rfl)<|ai<|ak (X' :=[_,_]) (S' :=[_]) (fun _ m=>m)<|ag<|ah<|aj<|hy (fun _=>aa rfl)<|hy (fun m=>a6 rfl cr bp (by rw[az];exact hm) ((m.aY 0 rfl).ay))<| ?_
 refine hx (aq rfl Tryz.call73 (Fm hD hm) [1] rfl [0] rfl ?_)
 rintro _ _ _ ⟨v,rfl,rfl,rfl⟩
 refine aB (fun m=>(m.own 1 rfl).slice) ?_
 rintro⟨A_x,c_x,rfl,hc_x⟩
 refine aB (fun m=>(m.ord 1 rfl).2.1) fun hA_x=> ?_
 refine hy (fun _=>aa rfl)<|hy (fun _=>au rfl rfl)<|hy (fun _=>au rfl rfl)<|hy (fun _=>ab rfl)<|hy (fun _=>ab rfl)<|ai<|al (ρ' :=[(6,_),(4,_),(3,_),(0,_),(1,_)]) ⟨rfl,rfl,rfl,rfl,rfl,trivial⟩<|ak (X' :=[_,_,_]) (S' :=[_]) (fun _ m=>m)<|ag<|ah<|aj<|hy (fun _=>aa rfl)<|hy (fun _=>cH rfl rfl)<|hy (fun _=>ab rfl)<|ai<|al (ρ' :=[(4,_),(6,_),(3,_),(0,_),(1,_)]) ⟨rfl,rfl,rfl,rfl,rfl,trivial⟩<|ag<|aU<| ?_
 exact bc trivial rfl rfl [0] rfl [] rfl ⟨rfl,rfl,rfl⟩
end Go.Proofs.YtmibdabdlgmafaaGreatDoor
end
section
set_option maxRecDepth 20000
set_option maxHeartbeats 4000000
namespace Go.Proofs.YtmibdabdlgmafaaGreatDoor
open Go.Eng Go.Hx
theorem E6:dj Tryz.prog 179=some false:=by kernel_rfl
theorem FG:fo Tryz.prog 179=some 1:=by kernel_rfl
theorem FV:TI Tryz.prog 179 .nilFunc 1 8:=by unfold TI;kernel_rfl
def sK(g:Nat)(L:List bg)(v:Value)(F:RD→RD×Int):Prop:=∃(f:Nat) (first cap:List Value),v= .func (.func f) first.toArray cap.toArray∧(∀args w,(callFunc f args).run Tryz.prog w= .ok (.enter f args) w)∧
 ∀(st:cG) (d:RD) (kk:Nat),DS st d kk→kk≤99000→cf Tryz.prog f (first++[]++cap) [bn g st] [lM L] (fun v_ X_ S_=>∃st1,v_= .int .i64 (F d).2∧X_=[bn g st1]∧S_=[]∧DS st1 (F d).1 (kk+1))
theorem Gx{g:Nat}{st:cG}{d:RD}{kk:Nat}{A:Option Addr}{n c:Nat}{fs:List Value}{Fs:List (RD→RD×Int)}{L:List bg}(hD:DS st d kk)(hkk:kk+n≤99000)(hn:n≤100000)(hF:Fs.length=n)(hfs:∀(i:Nat) (F:RD→RD×Int),Fs[i]? =some F→∃v,fs[i]? =some v∧sK g L v F):cf Tryz.prog 109 [.slice A n c] [bn g st] [c6 1 A n fs,lM L] (fun v_ X_ S_=>∃st1,v_=(.int .i64 (cg Fs d).2)∧X_=[bn g st1]∧S_=[]∧(DS st1 (cg Fs d).1 (kk+n))):=by
 obtain⟨d0,hd0⟩:∃d0,d0=cg Fs d:=⟨_,rfl⟩
 rw[←hd0]
 refine aP (N:=18) Tryz.func109 rfl rfl (by simp) fun b=> ?_
 refine aZ (fun m=>jq (m.rd 0 rfl)) ?_
 rintro⟨hl_f,hA_f⟩
 refine ah<|aj<|hy (fun _=>ab rfl)<|ai<|ag<|ah<|ah<|aj<|hy (fun _=>aa rfl)<|hy (fun _=>aX rfl Tryz.underlying239)<|hy (fun _=>aa rfl)<|ai<|ag<|aK<| ?_
 refine fv (fun k st d=>n-k) (fun k st d=>[(8,.int .i64 (k:Nat))]) (fun k st d=>[bn g st]) (fun k st d=>[]) (fun k st d=>k≤n∧DS st d (kk+k)∧cg (Fs.drop k) d=d0) 0 st d [(7,_),(6,_),(0,_)] ⟨rfl,rfl,rfl,trivial⟩ [0] rfl [] rfl (⟨Nat.zero_le _,hD,hd0.symm⟩) ⟨rfl,trivial⟩ (fun k st d ⟨hk,hD,hR⟩=> ?_)
 refine ah<|aj<|hy (fun _=>bw rfl rfl)<|ai<|ag<|ah<| ?_
 refine cD rfl (fun hlt=> ?_) (fun hlt=> ?_)
 ·obtain⟨F,hFk⟩:∃F,Fs[k]? =some F:=⟨_,List.getElem?_eq_getElem (by omega)⟩
  obtain⟨v,hv,f,first,cap,rfl,hcall,hcon⟩:=hfs k F hFk
  have hdr:Fs.drop k=F::Fs.drop (k+1):=by
   have hlt2:k<Fs.length:=by omega
   rw[List.drop_eq_getElem_cons hlt2]
   congr 1
   exact Option.some.inj ((List.getElem?_eq_getElem hlt2).symm.trans hFk)
  rw[hdr]at hR
  refine aD<|ag<|ah<|aK<|ah<|aj<|hy (fun _=>aO rfl rfl Tryz.underlying239 FG hA_f rfl (by omega))<|hy (fun m=>aw rfl E6 ((m.rd 0 rfl).cell hv))<|hy (fun _=>ab rfl)<|ai<|al (ρ' :=[(4,_),(9,_),(8,_),(7,_),(6,_),(0,_)]) ⟨rfl,rfl,rfl,rfl,rfl,rfl,trivial⟩<|ag<|ah<|aj<|hy (fun _=>aa rfl)<| ?_
  refine hx (o6 rfl rfl hcall (hcon st d (kk+k) hD (by omega)) [0] rfl [1] rfl ?_)
  rintro _ _ _ ⟨st1,rfl,rfl,rfl,hD1⟩
  refine hy (fun _=>ab rfl)<|ai<|al (ρ' :=[(5,_),(4,_),(9,_),(8,_),(7,_),(6,_),(0,_)]) ⟨rfl,rfl,rfl,rfl,rfl,rfl,rfl,trivial⟩<|ak (X' :=[_]) (S' :=[_,_]) (fun _ m=>m)<|ag<|ah<|aj<|hy (fun _=>aa rfl)<|hy (fun _=>dN rfl rfl)<|ai<|al (ρ' :=[(15,_),(5,_),(4,_),(9,_),(8,_),(7,_),(6,_),(0,_)]) ⟨rfl,rfl,rfl,rfl,rfl,rfl,rfl,rfl,trivial⟩<|ag<| ?_
  refine cD rfl (fun he=> ?_) (fun he=> ?_)
  ·have e0:cg (F::Fs.drop (k+1)) d=F d:=if_pos he
   rw[e0]at hR
   rw[←hR]
   refine ah<|aj<|hy (fun _=>aa rfl)<|hy (fun _=>ab rfl)<|ai<|al (ρ' :=[(2,_),(15,_),(5,_),(4,_),(9,_),(8,_),(7,_),(6,_),(0,_)]) ⟨rfl,rfl,rfl,rfl,rfl,rfl,rfl,rfl,rfl,trivial⟩<|ag<|aU<|aW<|ax<|ax<|aW<|ax<| ?_
   exact bc trivial rfl rfl [0] rfl [] rfl ⟨st1,rfl,rfl,rfl,(hD1.le (by omega))⟩
  ·have e0:cg (F::Fs.drop (k+1)) d=cg (Fs.drop (k+1)) (F d).1:=if_neg he
   rw[e0]at hR
   refine aD<|aT<|ag<|aj<|hy (fun _=>aM rfl rfl (bD (by omega) (by omega)))<|hy (fun _=>aa rfl)<|ai<|al (ρ' :=[(8,_),(15,_),(5,_),(4,_),(9,_),(7,_),(6,_),(0,_)]) ⟨rfl,rfl,rfl,rfl,rfl,rfl,rfl,rfl,trivial⟩<| ?_
   refine eZ (k+1) st1 (F d).1 ⟨rfl,rfl,rfl,rfl,trivial⟩ [0] rfl [0,1] rfl (⟨by omega,hD1,hR⟩) (by omega)
 ·obtain rfl:k=n:=by omega
  rw[List.drop_of_length_le (by omega)]at hR
  have hR:(d,0)=d0:=hR
  rw[←hR]
  refine bK<|ao<|ao<|aC<|ag<|ah<|aj<|hy (fun _=>ab rfl)<|ai<|ag<|aU<| ?_
  exact bc trivial rfl rfl [0] rfl [] rfl ⟨st,rfl,rfl,rfl,hD⟩
end Go.Proofs.YtmibdabdlgmafaaGreatDoor
end
section
set_option maxRecDepth 20000
set_option maxHeartbeats 4000000
namespace Go.Proofs.YtmibdabdlgmafaaGreatDoor
open Go.Eng Go.Hx
theorem Fe{g g2 g9 g3:Nat}{st:cG}{d:RD}{kk:Nat}{p:List UInt8}{A:Option Addr}{n c:Nat}{bb:List UInt8}(hD:DS st d kk)(hkk:kk≤99000)(hc:n≤c)(hl:bb.length=n)(hn:n≤4096):cf Tryz.prog 105 [.pointer (some ⟨g2,0,none⟩),.pointer (some ⟨g9,0,none⟩),.pointer (some ⟨g3,0,none⟩)] [bn g st] [aI g2 35 [.pointer (some ⟨g,0,none⟩)],aI g9 9 [SV p],aI g3 27 [.slice A n c],c6 1 A n (aQ bb)] (fun v_ X_ S_=>∃st1,v_=(.int .i64 (d.bE p (bA bb)))∧X_=[bn g st1]∧S_=[]∧(DS st1 (d.write p (bA bb)) (kk+1))):=by
 have hsl:=kD bb
 refine aP (N:=9) Tryz.func105 rfl rfl (by simp) fun b=> ?_
 refine aZ (fun m=>gz (m.rd 3 rfl)) ?_
 rintro⟨hl_r,hA_r⟩
 refine ah<|aj<|hy (fun _=>ab rfl)<|ai<|ag<|ah<|cN [3,4] [(0,some 1),(1,some 1),(2,some 0),(3,none),(4,none),(5,some 2)] (by kernel_rfl) (by kernel_rfl) rfl 1<|b6 (fun m=>aw rfl l7 (aA (m.uH 0 rfl) (i:=0) rfl))<|b6 (fun m=>aw rfl lL (aA (m.uH 1 rfl) (i:=0) rfl))<|b6 (fun m=>aw rfl dX (aA (m.uH 2 rfl) (i:=0) rfl))<| ?_
 refine dT (aq rfl Tryz.call106 (Fp (by omega) (by omega) hl) [] rfl [3] rfl ?_)
 rintro _ _ _ ⟨v,rfl,rfl,rfl⟩
 refine⟨(fun _=>wk [1] [0,1,2,3] rfl rfl), ?_⟩
 refine b9 (fun m=>(m.own 0 rfl).slice) ?_
 rintro⟨A_x,c_x,rfl,hc_x⟩
 refine b9 (fun m=>(m.ord 0 rfl).2.1) fun hA_x=> ?_
 refine dT (cC rfl Tryz.call33 (vT hD (by omega) rfl (by omega)) [1] rfl (.x 0 rfl .own .nil) ?_)
 rintro _ _ _ ⟨st1,rfl,rfl,rfl,hp⟩
 refine⟨rfl, ?_⟩
 refine⟨(fun h=>absurd h (by decide)), ?_⟩
 refine an (ab rfl)<|bz<|al (ρ' :=[(3,_),(0,_),(1,_),(2,_)]) ⟨rfl,rfl,rfl,rfl,trivial⟩<|ak (X' :=[_,_]) (S' :=[_,_,_,_]) (fun _ m=>m)<|ag<|aU<| ?_
 exact bc trivial rfl rfl [0] rfl [] rfl ⟨st1,rfl,rfl,rfl,hp⟩
theorem Fa{g g2 g9 g6:Nat}{st:cG}{d:RD}{kk:Nat}{p nm:List UInt8}(hD:DS st d kk)(hkk:kk≤99000)(hm:nm.length=32):cf Tryz.prog 107 [.pointer (some ⟨g2,0,none⟩),.pointer (some ⟨g9,0,none⟩),.pointer (some ⟨g6,0,none⟩)] [bn g st] [aI g2 35 [.pointer (some ⟨g,0,none⟩)],aI g9 9 [SV p],aI g6 53 (aQ nm)] (fun v_ X_ S_=>∃st1,v_=(.int .i64 (d.bQ p (aF nm)))∧X_=[bn g st1]∧S_=[]∧(DS st1 (d.rename p (aF nm)) (kk+1))):=by
 refine aP (N:=9) Tryz.func107 rfl rfl (by simp) fun b=> ?_
 refine ah<|aj<|hy (fun _=>ab rfl)<|ai<|ag<|ah<|cN [3,4] [(0,some 1),(1,some 1),(2,some 0),(3,none),(4,none),(5,some 2)] (by kernel_rfl) (by kernel_rfl) rfl 1<|b6 (fun m=>aw rfl l7 (aA (m.uH 0 rfl) (i:=0) rfl))<|b6 (fun m=>aw rfl lL (aA (m.uH 1 rfl) (i:=0) rfl))<|b6 (fun m=>a6 rfl cr bp (by rw[az];exact hm) ((m.uH 2 rfl).ay))<| ?_
 refine dT (aq rfl Tryz.call94 (rp hm) [] rfl [] rfl ?_)
 rintro _ _ _ ⟨rfl,rfl,rfl⟩
 refine⟨(fun _=>wk [0] [0,1,2] rfl rfl), ?_⟩
 refine dT (aq rfl Tryz.call108 (yw hD (by omega) (a:=p) (c:=aF nm)) [0] rfl [] rfl ?_)
 rintro _ _ _ ⟨st1,rfl,rfl,rfl,hp⟩
 refine⟨(fun h=>absurd h (by decide)), ?_⟩
 refine an (ab rfl)<|bz<|al (ρ' :=[(3,_),(0,_),(1,_),(2,_)]) ⟨rfl,rfl,rfl,rfl,trivial⟩<|ak (X' :=[_]) (S' :=[_,_,_]) (fun _ m=>m)<|ag<|aU<| ?_
 exact bc trivial rfl rfl [0] rfl [] rfl ⟨st1,rfl,rfl,rfl,hp⟩
abbrev iX(g g2 g9 g3 g6:Nat)(A:Option Addr)(n c:Nat)(bb nm p:List UInt8):List bg:=[aI g2 35 [.pointer (some ⟨g,0,none⟩)],aI g9 9 [SV p],aI g3 27 [.slice A n c],aI g6 53 (aQ nm),c6 1 A n (aQ bb)]
theorem uK{g g2 g9 g3 g6:Nat}{A:Option Addr}{n c:Nat}{bb nm p:List UInt8}(hc:n≤c)(hl:bb.length=n)(hn:n≤4096):
  sK g (iX g g2 g9 g3 g6 A n c bb nm p) (.func (.func 105) #[] #[.pointer (some ⟨g2,0,none⟩),.pointer (some ⟨g9,0,none⟩),.pointer (some ⟨g3,0,none⟩)]) (rL p (bA bb)):=
 ⟨105,[],[.pointer (some ⟨g2,0,none⟩),.pointer (some ⟨g9,0,none⟩),.pointer (some ⟨g3,0,none⟩)],rfl,Tryz.call105,fun st d kk hD hk=>cf.uz (Fe hD hk hc hl hn) (by
  intro s hs
  simp only[List.mem_cons,List.not_mem_nil,or_false]at hs
  rcases hs with rfl|rfl|rfl|rfl
  ·exact⟨_,List.mem_singleton.2 rfl,View.n0 0 rfl⟩
  ·exact⟨_,List.mem_singleton.2 rfl,View.n0 1 rfl⟩
  ·exact⟨_,List.mem_singleton.2 rfl,View.n0 2 rfl⟩
  ·exact⟨_,List.mem_singleton.2 rfl,View.n0 4 rfl⟩) (fun v X S h=>by
  obtain⟨st1,h1,h2,h3,h4⟩:=h
  exact⟨[],⟨st1,h1,h2,rfl,h4⟩,rU.nil⟩)⟩
theorem xK{g g2 g9 g3 g6:Nat}{A:Option Addr}{n c:Nat}{bb nm p:List UInt8}(hm:nm.length=32):
  sK g (iX g g2 g9 g3 g6 A n c bb nm p) (.func (.func 107) #[] #[.pointer (some ⟨g2,0,none⟩),.pointer (some ⟨g9,0,none⟩),.pointer (some ⟨g6,0,none⟩)]) (rO p (aF nm)):=
 ⟨107,[],[.pointer (some ⟨g2,0,none⟩),.pointer (some ⟨g9,0,none⟩),.pointer (some ⟨g6,0,none⟩)],rfl,Tryz.call107,fun st d kk hD hk=>cf.uz (Fa hD hk hm) (by
  intro s hs
  simp only[List.mem_cons,List.not_mem_nil,or_false]at hs
  rcases hs with rfl|rfl|rfl
  ·exact⟨_,List.mem_singleton.2 rfl,View.n0 0 rfl⟩
  ·exact⟨_,List.mem_singleton.2 rfl,View.n0 1 rfl⟩
  ·exact⟨_,List.mem_singleton.2 rfl,View.n0 3 rfl⟩) (fun v X S h=>by
  obtain⟨st1,h1,h2,h3,h4⟩:=h
  exact⟨[],⟨st1,h1,h2,rfl,h4⟩,rU.nil⟩)⟩
theorem qP{g:Nat}{L:List bg}:sK g L (.func (.func 110) #[.pointer (some ⟨g,0,none⟩)] #[]) cq:=
 ⟨110,[.pointer (some ⟨g,0,none⟩)],[],rfl,Tryz.call110,fun st d kk hD hk=>cf.uz (uL hD) (fun s hs=>by cases hs) (fun v X S h=>by
  obtain⟨st1,h1,h2,h3,h4⟩:=h
  exact⟨[],⟨st1,h1,h2,rfl,h4.le (by omega)⟩,rU.nil⟩)⟩
theorem eR:dR.length=32:=List.length_replicate
theorem xM:(aQ dR).length=32:=by rw[az,eR]
theorem we{d:RD}{b:List UInt8}(h:4096<b.length):d.put b=(d,dR,3):=by unfold RD.put;rw[if_pos h]
theorem Ad{d:RD}{b:List UInt8}(h:¬4096<b.length)(h6:d.dY (ba b)=6):d.put b=(d,dR,6):=by unfold RD.put;rw[if_neg h,if_pos h6]
theorem wN{d:RD}{b:List UInt8}(h:¬4096<b.length)(h6:d.dY (ba b)=0):d.put b=(d,ba b,0):=by unfold RD.put;rw[if_neg h,if_neg (by rw[h6];decide),if_pos h6]
theorem AR{d:RD}{b:List UInt8}(h:¬4096<b.length)(h6:¬d.dY (ba b)=6)(h0:¬d.dY (ba b)=0):d.put b=((d.hZ b).1,if(d.hZ b).2=0 then ba b else dR,(d.hZ b).2):=by unfold RD.put;rw[if_neg h,if_neg h6,if_neg h0]
abbrev zT(g g2 g9 g3 g6:Nat):List Value:=[.func (.func 105) #[] #[.pointer (some ⟨g2,0,none⟩),.pointer (some ⟨g9,0,none⟩),.pointer (some ⟨g3,0,none⟩)],.func (.func 110) #[.pointer (some ⟨g,0,none⟩)] #[],.func (.func 107) #[] #[.pointer (some ⟨g2,0,none⟩),.pointer (some ⟨g9,0,none⟩),.pointer (some ⟨g6,0,none⟩)],.func (.func 110) #[.pointer (some ⟨g,0,none⟩)] #[]]
abbrev vz(p b nm:List UInt8):List (RD→RD×Int):=[rL p (bA b),cq,rO p (aF nm),cq]
theorem xh{g g2 g9 g3 g6:Nat}{A:Option Addr}{n c:Nat}{bb nm p:List UInt8}(hc:n≤c)(hl:bb.length=n)(hn:n≤4096)(hm:nm.length=32):
  ∀(i:Nat) (F:RD→RD×Int),(vz p bb nm)[i]? =some F→∃v,(zT g g2 g9 g3 g6)[i]? =some v∧sK g (iX g g2 g9 g3 g6 A n c bb nm p) v F:=by
 intro i F h
 match i with
 |0=>cases h;exact⟨_,rfl,uK hc hl hn⟩
 |1=>cases h;exact⟨_,rfl,qP⟩
 |2=>cases h;exact⟨_,rfl,xK hm⟩
 |3=>cases h;exact⟨_,rfl,qP⟩
 |i+4=>cases h
theorem Fb{g:Nat}{st:cG}{d:RD}{kk:Nat}{A:Option Addr}{n c:Nat}{bb:List UInt8}(hD:DS st d kk)(hkk:kk≤90000)(hc:n≤c)(hl:bb.length=n)(hn:n≤100000):cf Tryz.prog 28 [.pointer (some ⟨g,0,none⟩),.slice A n c] [bn g st] [c6 1 A n (aQ bb),ef] (fun v_ X_ S_=>∃st1,v_=(.tuple #[.agg (aQ (d.put bb).2.1).toArray,.int .i64 (d.put bb).2.2])∧X_=[bn g st1]∧S_=[]∧(DS st1 (d.put bb).1 (kk+4))):=by
 have h32:(aQ (ba bb)).length=32:=by rw[az,bj]
 have hhl:(bW (ba bb)).length=64:=by rw[dA,bj]
 refine aP (N:=53) Tryz.func28 rfl rfl (by simp) fun b=> ?_
 refine aZ (fun m=>gz (m.rd 0 rfl)) ?_
 rintro⟨hl_r,hA_r⟩
 refine ah<|aj<| ?_
 refine hx (cy rfl (fun g2=> ?_))
 refine aR (fun w m=>m.bO 0 rfl (show _=aI g2 35 [.pointer (some ⟨g,0,none⟩)]from rfl)) ?_
 refine hx (cy rfl (fun g3=> ?_))
 refine aR (fun w m=>m.bO 0 rfl (show _=aI g3 27 [.slice A n c]from rfl)) ?_
 refine hx (aN dL (fun g4=> ?_))
 refine hy (fun _=>ab rfl)<|ai<|ak (X' :=[_,_,_,_]) (S' :=[_,_]) (fun _ m=>m)<|ag<|ah<|ah<|aj<|hy (fun m=>aw rfl dX (aA (m.aY 1 rfl) rfl))<|hy (fun _=>aX rfl Tryz.underlying27)<|hy (fun _=>cR rfl rfl)<|ai<|al (ρ' :=[(15,_),(5,_),(4,_),(3,_),(2,_),(0,_),(1,_)]) ⟨rfl,rfl,rfl,rfl,rfl,rfl,rfl,trivial⟩<|ag<| ?_
 refine cD rfl (fun h1=> ?_) (fun h1=> ?_)
 ·have hb:4096<bb.length:=by omega
  rw[we hb]
  refine ah<|aj<|hy (fun _=>yV (eC dL rfl (by kernel_rfl)) ((rfl:_=Value.agg (aQ dR).toArray)))<| ?_
  refine cI (aJ 0 rfl rfl rfl bp xM aS rfl ?_)
  refine hy (fun _=>ab rfl)<|ai<|al (ρ' :=[(5,_),(15,_),(4,_),(3,_),(2,_),(0,_),(1,_)]) ⟨rfl,rfl,rfl,rfl,rfl,rfl,rfl,trivial⟩<|ak (X' :=[_,_,_,_]) (S' :=[_,_]) (fun _ m=>m)<|ag<|aU<|ax<| ?_
  exact ew trivial rfl rfl rfl cr bp xM (fun m=>(m.aY 0 rfl).ay) [3] rfl [] rfl ⟨st,rfl,rfl,rfl,(hD.le (by omega))⟩
 ·have hb:¬4096<bb.length:=by omega
  refine aD<|ag<|ah<|aj<|hy (fun m=>aw rfl dX (aA (m.aY 1 rfl) rfl))<| ?_
  refine hx (aq rfl Tryz.call102 (vb (by omega)) [] rfl [0,1] rfl ?_)
  rintro _ _ _ ⟨rfl,rfl,rfl⟩
  refine hx (aN dL (fun g6=> ?_))
  refine cI (aJ 0 rfl rfl rfl bp h32 aS rfl ?_)
  refine ai<|al (ρ' :=[(6,_),(15,_),(5,_),(4,_),(3,_),(2,_),(0,_),(1,_)]) ⟨rfl,rfl,rfl,rfl,rfl,rfl,rfl,rfl,trivial⟩<|ak (X' :=[_,_,_,_,_]) (S' :=[_,_]) (fun _ m=>m)<|ag<|ah<|aj<|hy (fun m=>aw rfl l7 (aA (m.aY 3 rfl) rfl))<|hy (fun m=>a6 rfl cr bp h32 ((m.aY 0 rfl).ay))<| ?_
  refine hx (aq rfl Tryz.call73 (Fm hD (bj _)) [4] rfl [1] rfl ?_)
  rintro _ _ _ ⟨v,rfl,rfl,rfl⟩
  refine aB (fun m=>(m.own 1 rfl).slice) ?_
  rintro⟨A_x,c_x,rfl,hc_x⟩
  refine aB (fun m=>(m.ord 1 rfl).2.1) fun hA_x=> ?_
  refine hy (fun _=>aa rfl)<|hy (fun _=>au rfl rfl)<|hy (fun _=>au rfl rfl)<|hy (fun _=>ab rfl)<|hy (fun _=>ab rfl)<|ai<|al (ρ' :=[(8,_),(6,_),(15,_),(5,_),(4,_),(3,_),(2,_),(0,_),(1,_)]) ⟨rfl,rfl,rfl,rfl,rfl,rfl,rfl,rfl,rfl,trivial⟩<|ak (X' :=[_,_,_,_,_,_]) (S' :=[_,_]) (fun _ m=>m)<|ag<|ah<|ah<|aj<|hy (fun _=>aa rfl)<|hy (fun _=>ke rfl Tryz.underlying47 (fun _ h=>by cases h))<|hy (fun _=>ke rfl Tryz.underlying47 (fun _ h=>by cases h))<| ?_
  refine hx (aq rfl Tryz.call103 (Eh) [] rfl [] rfl ?_)
  rintro _ _ _ ⟨rfl,rfl,rfl⟩
  refine ai<|al (ρ' :=[(28,_),(8,_),(6,_),(15,_),(5,_),(4,_),(3,_),(2,_),(0,_),(1,_)]) ⟨rfl,rfl,rfl,rfl,rfl,rfl,rfl,rfl,rfl,rfl,trivial⟩<|ak (X' :=[_,_,_,_,_,_]) (S' :=[_,_]) (fun _ m=>m)<|ag<| ?_
  refine cD rfl (fun h6=> ?_) (fun h6=> ?_)
  ·rw[Ad hb h6]
   have h6' :d.dY (ba bb)=6:=h6
   rw[h6']
   refine ah<|aj<|hy (fun _=>yV (eC dL rfl (by kernel_rfl)) ((rfl:_=Value.agg (aQ dR).toArray)))<|hy (fun _=>aa rfl)<| ?_
   refine cI (aJ 3 rfl rfl rfl bp xM aS rfl ?_)
   refine hy (fun _=>ab rfl)<|ai<|al (ρ' :=[(5,_),(28,_),(8,_),(6,_),(15,_),(4,_),(3,_),(2,_),(0,_),(1,_)]) ⟨rfl,rfl,rfl,rfl,rfl,rfl,rfl,rfl,rfl,rfl,trivial⟩<|ak (X' :=[_,_,_,_,_,_]) (S' :=[_,_]) (fun _ m=>m)<|ag<|aU<|ax<| ?_
   exact ew trivial rfl rfl rfl cr bp xM (fun m=>(m.aY 0 rfl).ay) [1] rfl [] rfl ⟨st,rfl,rfl,rfl,(hD.le (by omega))⟩
  ·refine aD<|ag<|ah<|ah<|aj<|hy (fun _=>aa rfl)<|hy (fun _=>cH rfl rfl)<|ai<|al (ρ' :=[(32,_),(28,_),(8,_),(6,_),(15,_),(5,_),(4,_),(3,_),(2,_),(0,_),(1,_)]) ⟨rfl,rfl,rfl,rfl,rfl,rfl,rfl,rfl,rfl,rfl,rfl,trivial⟩<|ag<| ?_
   refine cD rfl (fun h0=> ?_) (fun h0=> ?_)
   ·rw[wN hb h0]
    have h0' :d.dY (ba bb)=0:=h0
    rw[h0']
    refine ah<|aj<|hy (fun m=>a6 rfl cr bp h32 ((m.aY 2 rfl).ay))<|hy (fun _=>aa rfl)<| ?_
    refine cI (aJ 3 rfl rfl rfl bp h32 aS rfl ?_)
    refine hy (fun _=>ab rfl)<|ai<|al (ρ' :=[(5,_),(32,_),(28,_),(8,_),(6,_),(15,_),(4,_),(3,_),(2,_),(0,_),(1,_)]) ⟨rfl,rfl,rfl,rfl,rfl,rfl,rfl,rfl,rfl,rfl,rfl,trivial⟩<|ak (X' :=[_,_,_,_,_,_]) (S' :=[_,_]) (fun _ m=>m)<|ag<|aU<|ax<| ?_
    exact ew trivial rfl rfl rfl cr bp h32 (fun m=>(m.aY 0 rfl).ay) [1] rfl [] rfl ⟨st,rfl,rfl,rfl,(hD.le (by omega))⟩
   ·rw[AR hb h6 h0]
    refine aD<|ag<|ah<|aj<|hy (fun m=>a6 rfl cr bp h32 ((m.aY 2 rfl).ay))<| ?_
    refine hx (aq rfl Tryz.call104 (Aa (bj _)) [] rfl [] rfl ?_)
    rintro _ _ _ ⟨rfl,rfl,rfl⟩
    refine hy (fun _=>yV (iS rfl rfl (ij (a:=[116,47]) (b:=bW (ba bb)) (by simp[hhl]))) ((show Value.string (strOf [116,47]++strOf (bW (ba bb)))=SV (bJ (ba bb))from congrArg Value.string (c7 _ _))))<| ?_
    refine hx (aN Gr (fun g9=> ?_))
    refine cI (dI 0 rfl rfl rfl GN rfl (by first|exact Nat.le_of_ble_eq_true rfl|simp) ?_)
    refine ai<|al (ρ' :=[(9,_),(32,_),(28,_),(8,_),(6,_),(15,_),(5,_),(4,_),(3,_),(2,_),(0,_),(1,_)]) ⟨rfl,rfl,rfl,rfl,rfl,rfl,rfl,rfl,rfl,rfl,rfl,rfl,trivial⟩<|ak (X' :=[_,_,_,_,_,_,_]) (S' :=[_,_]) (fun _ m=>m)<|ag<|ah<|aj<|hy (fun _=>j3 rfl rfl)<|hy (fun _=>ab rfl)<|ai<|al (ρ' :=[(10,_),(9,_),(32,_),(28,_),(8,_),(6,_),(15,_),(5,_),(4,_),(3,_),(2,_),(0,_),(1,_)]) ⟨rfl,rfl,rfl,rfl,rfl,rfl,rfl,rfl,rfl,rfl,rfl,rfl,rfl,trivial⟩<|ag<|ah<|aj<|hy (fun _=>j3 rfl rfl)<|hy (fun _=>ab rfl)<|ai<|al (ρ' :=[(11,_),(10,_),(9,_),(32,_),(28,_),(8,_),(6,_),(15,_),(5,_),(4,_),(3,_),(2,_),(0,_),(1,_)]) ⟨rfl,rfl,rfl,rfl,rfl,rfl,rfl,rfl,rfl,rfl,rfl,rfl,rfl,rfl,trivial⟩<|ag<|ah<|ah<|aj<|hy (fun _=>aa rfl)<|hy (fun m=>aw rfl l7 (aA (m.aY 6 rfl) rfl))<|hy (fun _=>j3 rfl rfl)<|hy (fun _=>aa rfl)<|hy (fun m=>aw rfl l7 (aA (m.aY 6 rfl) rfl))<|hy (fun _=>j3 rfl rfl)<| ?_
    refine hx (bV Tryz.underlying239 FV rfl rfl rfl (by simp[Value.cells,B8]) (by decide) (by decide) (fun g46=> ?_))
    have hA_b46:0<4→(some (⟨g46,0,none⟩:Addr))≠none:=fun _ h=>by cases h
    refine aR (fun w m=>m.bO 1 rfl (show _=aI g9 9 [SV (bJ (ba bb))]from rfl)) ?_
    refine aR (fun w m=>m.bO 4 rfl (show _=aI g6 53 (aQ (ba bb))from rfl)) ?_
    refine aR (fun w m=>m.bO 2 rfl (show _=aG 179 1 (.slice (some ⟨g46,0,none⟩) 4 4) 4 (zT g g2 g9 g3 g6)from rfl)) ?_
    refine aR (fun w m=>(m.perm (ar [7] _ [_] _ rfl)).freeze) ?_
    refine aR (fun w m=>(m.perm (ar [2] _ [_] _ rfl)).freeze) ?_
    refine aR (fun w m=>(m.perm (ar [5] _ [_] _ rfl)).freeze) ?_
    refine aR (fun w m=>(m.perm (ar [1] _ [_] _ rfl)).freeze) ?_
    refine aR (S' :=lM (iX g g2 g9 g3 g6 A n c bb (ba bb) (bJ (ba bb)))::_) (fun w m=>m.Co [3,2,1,0,4] rfl) ?_
    refine hx (cC rfl Tryz.call109 (Gx hD (by omega) (show 4≤100000 by decide) rfl (xh hc hl (by omega) (bj _)) (kk:=kk) (Fs:=(vz (bJ (ba bb)) bb (ba bb))) (fs:=(zT g g2 g9 g3 g6)) (L:=(iX g g2 g9 g3 g6 A n c bb (ba bb) (bJ (ba bb))))) [1] rfl (.x 0 rfl .own (.s 0 rfl .nil)) ?_)
    rintro _ _ _ ⟨st1,rfl,rfl,rfl,hD1⟩
    refine⟨rfl, ?_⟩
    refine hy (fun _=>ab rfl)<|ai<|al (ρ' :=[(12,_),(11,_),(10,_),(9,_),(32,_),(28,_),(8,_),(6,_),(15,_),(5,_),(4,_),(3,_),(2,_),(0,_),(1,_)]) ⟨rfl,rfl,rfl,rfl,rfl,rfl,rfl,rfl,rfl,rfl,rfl,rfl,rfl,rfl,rfl,trivial⟩<|ak (X' :=[_,_,_,_]) (S' :=[_,_,_,_,_,_,_]) (fun _ m=>m)<|ag<|ah<|aj<|hy (fun _=>aa rfl)<|hy (fun _=>dN rfl rfl)<|ai<|al (ρ' :=[(49,_),(12,_),(11,_),(10,_),(9,_),(32,_),(28,_),(8,_),(6,_),(15,_),(5,_),(4,_),(3,_),(2,_),(0,_),(1,_)]) ⟨rfl,rfl,rfl,rfl,rfl,rfl,rfl,rfl,rfl,rfl,rfl,rfl,rfl,rfl,rfl,rfl,trivial⟩<|ag<| ?_
    refine cD rfl (fun h2=> ?_) (fun h2=> ?_)
    ·have hn2:¬(d.hZ bb).2=0:=h2
     rw[if_neg hn2]
     refine ah<|aj<|hy (fun _=>yV (eC dL rfl (by kernel_rfl)) ((rfl:_=Value.agg (aQ dR).toArray)))<|hy (fun _=>aa rfl)<| ?_
     refine cI (aJ 3 rfl rfl rfl bp xM aS rfl ?_)
     refine hy (fun _=>ab rfl)<|ai<|al (ρ' :=[(5,_),(49,_),(12,_),(11,_),(10,_),(9,_),(32,_),(28,_),(8,_),(6,_),(15,_),(4,_),(3,_),(2,_),(0,_),(1,_)]) ⟨rfl,rfl,rfl,rfl,rfl,rfl,rfl,rfl,rfl,rfl,rfl,rfl,rfl,rfl,rfl,rfl,trivial⟩<|ak (X' :=[_,_,_,_]) (S' :=[_,_,_,_,_,_,_]) (fun _ m=>m)<|ag<|aU<|ax<| ?_
     exact ew trivial rfl rfl rfl cr bp xM (fun m=>(m.aY 0 rfl).ay) [1] rfl [] rfl ⟨st1,rfl,rfl,rfl,hD1⟩
    ·have h2:=Decidable.not_not.1 h2
     have h2' :(cg (vz (bJ (ba bb)) bb (ba bb)) d).2=0:=h2
     have h2'' :(d.hZ bb).2=0:=h2'
     rw[if_pos h2'',h2'']
     refine aD<|ag<|ah<|aj<|hy (fun m=>a6 rfl cr bp h32 ((m.uH 1 rfl).ay))<| ?_
     refine cI (aJ 3 rfl rfl rfl bp h32 aS rfl ?_)
     refine hy (fun _=>ab rfl)<|ai<|al (ρ' :=[(5,_),(49,_),(12,_),(11,_),(10,_),(9,_),(32,_),(28,_),(8,_),(6,_),(15,_),(4,_),(3,_),(2,_),(0,_),(1,_)]) ⟨rfl,rfl,rfl,rfl,rfl,rfl,rfl,rfl,rfl,rfl,rfl,rfl,rfl,rfl,rfl,rfl,trivial⟩<|ak (X' :=[_,_,_,_]) (S' :=[_,_,_,_,_,_,_]) (fun _ m=>m)<|ag<|aU<| ?_
     exact ew trivial rfl rfl rfl cr bp h32 (fun m=>(m.aY 0 rfl).ay) [1] rfl [] rfl ⟨st1,rfl,rfl,rfl,hD1⟩
end Go.Proofs.YtmibdabdlgmafaaGreatDoor
end
section
set_option maxRecDepth 20000
namespace Go.Proofs.YtmibdabdlgmafaaGreatDoor
open Go.Eng Go.Hx
def ss(l:List (List UInt8)):List Value:=l.map SV
theorem zh{l:List (List UInt8)}{i:Nat}(h:i<l.length):(ss l)[i]? =some (SV (l.getD i [])):=by simp[ss,List.getElem?_map,List.getElem?_eq_getElem h,List.getD]
theorem Ex{l:List (List UInt8)}:∀u∈ss l,u.oneCell' =true:=by
 intro u hu
 obtain⟨x,_,rfl⟩:=List.mem_map.1 hu
 rfl
end Go.Proofs.YtmibdabdlgmafaaGreatDoor
end
section
namespace Go.Proofs
open Go.Shelf
def Tryz.tM:Go.Shelf.Ren:=⟨fun|190=>165|125=>207|258=>223|128=>254|129=>255|302=>258|303=>259|304=>260|305=>261|306=>262|307=>263|308=>264|309=>265|310=>266|333=>291|329=>287|330=>288|334=>292|335=>293|336=>294|344=>307|n=>n,fun|31=>152|9=>9|3=>3|46=>263|0=>0|51=>166|53=>310|4=>4|183=>339|182=>338|131=>343|5=>5|218=>376|222=>380|228=>391|229=>324|n=>n,fun|n=>n⟩
theorem Tryz.Bc:Go.Proofs.Lays.n190 Tryz.prog Tryz.tM:={
 mixed:=by kernel_rfl
 f125:=Tryz.func207.trans (congrArg some (by kernel_rfl))
 f128:=Tryz.func254.trans (congrArg some (by kernel_rfl))
 f129:=Tryz.func255.trans (congrArg some (by kernel_rfl))
 f190:=Tryz.func165.trans (congrArg some (by kernel_rfl))
 f258:=Tryz.func223.trans (congrArg some (by kernel_rfl))
 f302:=Tryz.func258.trans (congrArg some (by kernel_rfl))
 f303:=Tryz.func259.trans (congrArg some (by kernel_rfl))
 f304:=Tryz.func260.trans (congrArg some (by kernel_rfl))
 f305:=Tryz.func261.trans (congrArg some (by kernel_rfl))
 f306:=Tryz.func262.trans (congrArg some (by kernel_rfl))
 f307:=Tryz.func263.trans (congrArg some (by kernel_rfl))
 f308:=Tryz.func264.trans (congrArg some (by kernel_rfl))
 f309:=Tryz.func265.trans (congrArg some (by kernel_rfl))
 f310:=Tryz.func266.trans (congrArg some (by kernel_rfl))
 f329:=Tryz.func287.trans (congrArg some (by kernel_rfl))
 f330:=Tryz.func288.trans (congrArg some (by kernel_rfl))
 f333:=Tryz.func291.trans (congrArg some (by kernel_rfl))
 f334:=Tryz.func292.trans (congrArg some (by kernel_rfl))
 f335:=Tryz.func293.trans (congrArg some (by kernel_rfl))
 f336:=Tryz.func294.trans (congrArg some (by kernel_rfl))
 f344:=Tryz.func307.trans (congrArg some (by kernel_rfl))
 t0:=Tryz.underlying0
 a0:=Tryz.isAgg0
 z0:=Tryz.sizeOf0
 v0:=Tryz.zeroValue0
 t3:=Tryz.underlying3
 a3:=Tryz.isAgg3
 z3:=Tryz.sizeOf3
 v3:=Tryz.zeroValue3
 t4:=Tryz.underlying4
 a4:=Tryz.isAgg4
 z4:=Tryz.sizeOf4
 v4:=Tryz.zeroValue4
 t5:=Tryz.underlying5
 a5:=Tryz.isAgg5
 z5:=Tryz.sizeOf5
 v5:=Tryz.zeroValue5
 t9:=Tryz.underlying9
 a9:=Tryz.isAgg9
 z9:=Tryz.sizeOf9
 v9:=Tryz.zeroValue9
 t31:=Tryz.underlying152
 a31:=Tryz.isAgg152
 z31:=Tryz.sizeOf152
 v31:=Tryz.zeroValue152
 t46:=Tryz.underlying263
 a46:=Tryz.isAgg263
 z46:=Tryz.sizeOf263
 v46:=Tryz.zeroValue263
 t51:=Tryz.underlying166
 a51:=Tryz.isAgg166
 z51:=Tryz.sizeOf166
 v51:=Tryz.zeroValue166
 t53:=Tryz.underlying310
 a53:=Tryz.isAgg310
 z53:=Tryz.sizeOf310
 v53:=Tryz.zeroValue310
 t131:=Tryz.underlying343
 a131:=Tryz.isAgg343
 z131:=Tryz.sizeOf343
 v131:=Tryz.zeroValue343
 t182:=Tryz.underlying338
 a182:=Tryz.isAgg338
 z182:=Tryz.sizeOf338
 v182:=Tryz.zeroValue338
 t183:=Tryz.underlying339
 a183:=Tryz.isAgg339
 z183:=Tryz.sizeOf339
 v183:=Tryz.zeroValue339
 t218:=Tryz.underlying376
 a218:=Tryz.isAgg376
 z218:=Tryz.sizeOf376
 v218:=Tryz.zeroValue376
 t222:=Tryz.underlying380
 a222:=Tryz.isAgg380
 z222:=Tryz.sizeOf380
 v222:=Tryz.zeroValue380
 t228:=Tryz.underlying391
 a228:=Tryz.isAgg391
 z228:=Tryz.sizeOf391
 v228:=Tryz.zeroValue391
 t229:=Tryz.underlying324
 a229:=Tryz.isAgg324
 z229:=Tryz.sizeOf324
 v229:=Tryz.zeroValue324}
end Go.Proofs
end
section
set_option maxRecDepth 20000
namespace Go.Proofs.YtmibdabdlgmafaaGreatDoor
open Go.Eng Go.Hx Go.Sort
def wV(l:List (List UInt8)):List (List UInt8):=l.mergeSort fun x y=>decide (x≤y)
theorem z7{w:World}{g n o:Nat}{os:Array Obj}{cur:Array Value}{e:TypeId}{fr:Nat×Nat}(d:Array (List UInt8))(hb:w.heap[g]? =some (.cells cur e fr)):
  (grow (putRow encStr (Go.Sort.ahead w n) g o d) os).heap[g]? =some (.cells (putCells encStr o d cur) e fr):=by
 have hg:g<w.heap.size:=(Array.getElem?_eq_some_iff.1 hb).1
 rw[heap_grow_old _ _ (by simpa using hg)]
 simp[putRow,mapBlock,Go.Sort.ahead,Array.getElem?_modify,hb,onCells]
theorem Ew{w:World}{g n o:Nat}{os:Array Obj}(d:Array (List UInt8)):Fr (fun k=>k=g) w (grow (putRow encStr (Go.Sort.ahead w n) g o d) os):=by
 refine⟨rfl,rfl,rfl,by simp,fun k hk hne=> ?_⟩
 rw[heap_grow_old _ _ (by simpa using hk)]
 have:g≠k:=fun e=>hne e.symm
 simp[putRow,mapBlock,Go.Sort.ahead,Array.getElem?_modify,this]
theorem yO(cur:List Value)(o:Nat)(ts:List (List UInt8))(h:o+ts.length≤cur.length):((putCells encStr o ts.toArray cur.toArray).toList.drop o).take ts.length=ss ts:=by
 apply List.ext_getElem?
 intro j
 by_cases hj:j<ts.length
 ·rw[List.getElem?_take_of_lt hj,List.getElem?_drop,Array.getElem?_toList]
  simp[putCells,hj,ss,show o+j<cur.length by omega,SV,strOf]
 ·rw[List.getElem?_take_eq_none (by omega),List.getElem?_eq_none (by simp[ss];omega)]
theorem q7(l:List (List UInt8)):(wV l).length=l.length:=List.length_mergeSort ..
theorem CT{A:Option Addr}{n c base:Nat}{e:TypeId}{l:List (List UInt8)}{w:World}(h:Go.Eng.Own w base e 1 (.slice A n c) n (ss l))(hn6:n≤1000000):
  Calls Tryz.prog 165 #[.slice A n c] w fun r w' =>r= .returned (.tuple #[])∧Go.Eng.Own w' base e 1 (.slice A n c) n (ss (wV l))∧Fr (iH (.slice A n c)) w w' :=by
 obtain⟨h1,h2⟩:=h
 have hl:l.length=n:=by simpa[ss]using h1
 rcases h2 with⟨hv,hn⟩|⟨g,o,cap,cur,hv,hb,⟨fr,hh,hf,hfl⟩,hnc,hcm,hfit,hcs⟩
 ·cases hv
  obtain rfl:l=[]:=List.eq_nil_of_length_eq_zero hl
  refine Calls.mono (qf B3 (by intro s hs;cases hs)) (fun r w' ⟨hr,hf⟩=>⟨hr,⟨by simp[wV,ss],.inl ⟨rfl,rfl⟩⟩,hf.mono (fun _ _ e=>e.elim)⟩)
 ·cases hv
  subst hl
  have hB:fb w g e cur:=⟨fr,hh,hf,hfl⟩
  have hH:Holds encStr w g o l.toArray:=by
   intro j hj
   have hj' :j<l.length:=by simpa using hj
   have h3:((cur.drop o).take (l.length*1))[j]? =(ss l)[j]? :=by rw[hcs]
   rw[List.getElem?_take_of_lt (by omega),List.getElem?_drop,zh hj']at h3
   refine⟨?_,hB.frozen (by omega)⟩
   rw[hB.cell h3]
   simp[List.getD,List.getElem?_eq_getElem hj',hj',SV,strOf]
  refine Calls.mono (Any.slices_Sort_string Tryz.Bc g o c l w hH hB.lt (by omega)) ?_
  rintro r w' ⟨hr,k,os,rfl⟩
  refine⟨hr,⟨by simp[ss,q7],.inr ⟨g,o,c,(putCells encStr o (wV l).toArray cur.toArray).toList,rfl,hb, ?_,hnc,hcm,by simp[putCells];omega, ?_⟩⟩,Ew _⟩
  ·have:=z7 (n:=k) (o:=o) (os:=os) (wV l).toArray hh
   exact⟨fr,by simpa[wV]using this,fun i hi=>hf i (by simpa[putCells]using hi),by simpa[putCells]using hfl⟩
  ·have:=yO cur o (wV l) (by rw[q7];omega)
   rw[q7]at this
   rw[Nat.mul_one];exact this
theorem FT{A:Option Addr}{n c:Nat}{e:TypeId}{l:List (List UInt8)}(hn:n≤1000000):cf Tryz.prog 165 [.slice A n c] [aG e 1 (.slice A n c) n (ss l)] [] (fun v_ X_ S_=>v_=(.tuple #[])∧X_=[aG e 1 (.slice A n c) n (ss (wV l))]∧S_=[]):=by
 refine fun w m=>Calls.mono (CT (m.own 0 rfl) hn) ?_
 rintro r w' ⟨hr,ho,hf⟩
 exact⟨_,_,_,hr,⟨rfl,rfl,rfl⟩,m.change (r' :=aG e 1 (.slice A n c) n (ss (wV l))) hf ho (fun k hk=>.inl hk)⟩
end Go.Proofs.YtmibdabdlgmafaaGreatDoor
end
section
set_option maxRecDepth 20000
namespace Go.Proofs.YtmibdabdlgmafaaGreatDoor
open Go.Eng Go.Hx
theorem lS{α:Type}:∀{l:List α} {j:Nat} {x:α},l[j]? =some x→l.Perm (x::l.eraseIdx j)
 | [],j,x,h=>by simp at h
 |a::r,0,x,h=>by
  simp only[List.getElem?_cons_zero,Option.some.injEq]at h
  subst h;exact List.Perm.refl _
 |a::r,j+1,x,h=>by
  have:=lS (l:=r) (j:=j) (x:=x) (by simpa using h)
  exact(List.Perm.cons a this).trans (List.Perm.swap x a _)
def pre(p s:List UInt8):Bool:=decide (s.take p.length=p)
theorem rf{s p:List UInt8}:cf Tryz.prog 222 [.string (strOf s),.string (strOf p)] [] [] (fun v_ X_ S_=>v_=(.bool (pre p s))∧X_=[]∧S_=[]):=by
 have hs1:=cY s
 have hs2:=cY p
 refine aP (N:=18) Tryz.func222 rfl rfl (by simp) fun b=> ?_
 by_cases h:p.length≤s.length
 ·refine ah<|aj<|hy (fun _=>ab rfl)<|ai<|ag<|ah<|aj<|hy (fun _=>aa rfl)<|hy (fun _=>cW rfl Tryz.underlying9)<|hy (fun _=>aa rfl)<|hy (fun _=>cW rfl Tryz.underlying9)<|hy (fun _=>yT (jZ rfl rfl) ((decide_eq_true (by omega))))<|hy (fun _=>aa rfl)<|dQ (o:=_) rfl rfl rfl (fun _=>aa rfl)<|dQ (o:=_) rfl rfl rfl (fun _=>aa rfl)<|dQ (o:=_) rfl rfl rfl (fun _=>cW rfl Tryz.underlying9)<|dQ (o:=_) rfl rfl rfl (fun _=>yV (r7 rfl rfl Tryz.underlying9 (show((p.length:Nat):Int)=_ by omega) (by rw[pW];exact h)) ((rfl:Value.string _= .string (strOf (s.take p.length)))))<|dQ (o:=_) rfl rfl rfl (fun _=>aa rfl)<|dQ (o:=_) rfl rfl rfl (fun _=>sv rfl rfl)<|hy (fun _=>bU rfl rfl)<|hy (fun _=>ab rfl)<|ai<|al (ρ' :=[(4,_),(0,_),(1,_)]) ⟨rfl,rfl,rfl,trivial⟩<|ag<|aU<| ?_
  exact bc trivial rfl rfl [] rfl [] rfl ⟨(congrArg Value.bool (decide_eq_decide.2 cA)),rfl,rfl⟩
 ·refine ah<|aj<|hy (fun _=>ab rfl)<|ai<|ag<|ah<|aj<|hy (fun _=>aa rfl)<|hy (fun _=>cW rfl Tryz.underlying9)<|hy (fun _=>aa rfl)<|hy (fun _=>cW rfl Tryz.underlying9)<|hy (fun _=>yF (jZ rfl rfl) ((decide_eq_false (by omega))))<|hy (fun _=>aa rfl)<|bx rfl rfl rfl (by decide)<|bx rfl rfl rfl (by decide)<|bx rfl rfl rfl (by decide)<|bx rfl rfl rfl (by decide)<|bx rfl rfl rfl (by decide)<|bx rfl rfl rfl (by decide)<|hy (fun _=>bP rfl rfl)<|hy (fun _=>ab rfl)<|ai<|al (ρ' :=[(4,_),(0,_),(1,_)]) ⟨rfl,rfl,rfl,trivial⟩<|ag<|aU<| ?_
  exact bc trivial rfl rfl [] rfl [] rfl ⟨(congrArg Value.bool (decide_eq_false (fun e=>h (by rw[←e,List.length_take];omega))).symm),rfl,rfl⟩
theorem uh{s p:List UInt8}:cf Tryz.prog 164 [.string (strOf s),.string (strOf p)] [] [] (fun v_ X_ S_=>v_=(.bool (pre p s))∧X_=[]∧S_=[]):=by
 refine aP (N:=8) Tryz.func164 rfl rfl (by simp) fun b=> ?_
 refine ah<|aj<|hy (fun _=>ab rfl)<|ai<|ag<|ah<|aj<|hy (fun _=>aa rfl)<|hy (fun _=>aa rfl)<| ?_
 refine hx (aq rfl Tryz.call222 (rf) [] rfl [] rfl ?_)
 rintro _ _ _ ⟨rfl,rfl,rfl⟩
 refine hy (fun _=>ab rfl)<|ai<|al (ρ' :=[(4,_),(0,_),(1,_)]) ⟨rfl,rfl,rfl,trivial⟩<|ak (X' :=[]) (S' :=[]) (fun _ m=>m)<|ag<|aU<| ?_
 exact bc trivial rfl rfl [] rfl [] rfl ⟨rfl,rfl,rfl⟩
theorem FR{g:Nat}{st:cG}{p:List UInt8}(hk:st.seen.length≤100000):cf Tryz.prog 86 [.pointer (some ⟨g,0,none⟩),.string (strOf p)] [bn g st] [] (fun v_ X_ S_=>∃v n ks,v_=v∧X_=[bn g st,aG 9 1 v n (ss (wV ks))]∧S_=[]∧(n=ks.length∧ks.Perm ((b7 st.seen).filter (pre p)))):=by
 refine aP (N:=26) Tryz.func86 rfl rfl (by simp) fun b=> ?_
 refine bB (fun w m=>(m.perm (ar [0] _ [_] _ rfl)).unpack) ?_
 refine ah<|aj<|hy (fun _=>ab rfl)<|ai<|ag<|ah<|aj<|hy (fun _=>ab rfl)<|ai<|ag<|ah<|ah<|aj<|hy (fun _=>aa rfl)<|hy (fun _=>bh rfl)<|hy (fun _=>aL rfl gH (by decide))<|hy (fun m=>aw rfl mf (aA (m.aY 0 rfl) rfl))<| ?_
 refine hx (oF 1 rfl rfl Tryz.underlying174 (fun r11=> ?_))
 refine ai<|al (ρ' :=[(11,_),(5,_),(4,_),(0,_),(1,_)]) ⟨rfl,rfl,rfl,rfl,rfl,trivial⟩<|ak (X' :=[_,_,_,_,_]) (S' :=[]) (fun _ m=>m)<|ag<|aK<| ?_
 refine bB (fun w m=>m.dx (r' :=aG 9 1 (.slice none 0 0) 0 []) (.refl _ _) (Own.nil _ _ _ _) (fun k hk=>hk.elim)) ?_
 refine pf (fun left cur A1 k c1 ks=>left.length) (fun left cur A1 k c1 ks=>[(5,.slice A1 k c1)]) (fun left cur A1 k c1 ks=>[aG 9 1 (.slice A1 k c1) k (ss ks),iY SV r11 st.gs (dK st.seen) (dK left) cur]) (fun left cur A1 k c1 ks=>[]) (fun left cur A1 k c1 ks=>k=ks.length∧k+left.length≤st.seen.length∧(ks++(b7 left).filter (pre p)).Perm ((b7 st.seen).filter (pre p))) st.seen none none 0 0 [] [(11,_),(4,_),(0,_),(1,_)] ⟨rfl,rfl,rfl,rfl,trivial⟩ [0,0] rfl [] rfl (⟨rfl,by omega,List.Perm.refl _⟩) ⟨rfl,trivial⟩ (fun left cur A1 k c1 ks ⟨hkn,hkl,hpm⟩=> ?_)
 refine ah<|aj<| ?_
 refine hx (rJ 1 rfl rfl (fun h0=> ?_) (fun j x hx1=> ?_))
 ·obtain rfl:left=[]:=List.map_eq_nil_iff.1 h0
  refine hy (fun _=>au rfl rfl)<|ai<|al (ρ' :=[(13,_),(5,_),(11,_),(4,_),(0,_),(1,_)]) ⟨rfl,rfl,rfl,rfl,rfl,rfl,trivial⟩<|ag<|ah<| ?_
  refine dP rfl (rfl) ?_
  refine bK<|ao<|ao<|aC<|ag<|ah<|aj<|hy (fun _=>aa rfl)<| ?_
  refine hx (aq rfl Tryz.call165 (FT (by omega)) [0] rfl [] rfl ?_)
  rintro _ _ _ ⟨rfl,rfl,rfl⟩
  refine ai<|al (ρ' :=[(13,_),(5,_),(11,_),(4,_),(0,_),(1,_)]) ⟨rfl,rfl,rfl,rfl,rfl,rfl,trivial⟩<|ak (X' :=[_,_,_,_,_,_]) (S' :=[]) (fun _ m=>m)<|ag<|ah<|aj<|hy (fun _=>aa rfl)<|hy (fun _=>ab rfl)<|ai<|al (ρ' :=[(4,_),(13,_),(5,_),(11,_),(0,_),(1,_)]) ⟨rfl,rfl,rfl,rfl,rfl,rfl,trivial⟩<|ag<|aU<| ?_
  refine ak (fun w m=>m.uP 1 rfl) ?_
  refine ak (X' :=bn g st::_) (fun w m=>(m.perm (ar [2,0,1,1,1] _ [_,_,_,_,_] _ rfl)).pack) ?_
  exact bc trivial rfl rfl [0,0] rfl [] rfl ⟨_,_,_,rfl,rfl,rfl,⟨hkn,by simpa[b7]using hpm⟩⟩
 ·obtain⟨key,v⟩:=x
  obtain⟨r,hr,e⟩:=vO hx1
  obtain rfl:v=r.val:=e
  have hlt:=(List.getElem?_eq_some_iff.1 hr).1
  simp only at hr
  have hpe:=lS hr
  have hpa:(b7 left).Perm (key::b7 (left.eraseIdx j)):=by simpa[b7]using hpe.map Prod.fst
  have hpf:=hpa.filter (pre p)
  refine hy (fun _=>au rfl rfl)<|ai<|al (ρ' :=[(13,_),(5,_),(11,_),(4,_),(0,_),(1,_)]) ⟨rfl,rfl,rfl,rfl,rfl,rfl,trivial⟩<|ag<|ah<| ?_
  refine ib rfl (rfl) ?_
  refine aD<|ag<|aK<|ah<|aj<|hy (fun m=>pa rfl (m.DH 0 rfl))<|hy (fun _=>au rfl rfl)<|hy (fun _=>ab rfl)<|ai<|al (ρ' :=[(6,_),(13,_),(5,_),(11,_),(4,_),(0,_),(1,_)]) ⟨rfl,rfl,rfl,rfl,rfl,rfl,rfl,trivial⟩<|ag<|ah<|aj<|hy (fun _=>aa rfl)<|hy (fun _=>aa rfl)<| ?_
  refine hx (aq rfl Tryz.call164 (uh) [] rfl [] rfl ?_)
  rintro _ _ _ ⟨rfl,rfl,rfl⟩
  refine ai<|al (ρ' :=[(18,_),(6,_),(13,_),(5,_),(11,_),(4,_),(0,_),(1,_)]) ⟨rfl,rfl,rfl,rfl,rfl,rfl,rfl,rfl,trivial⟩<|ak (X' :=[_,_,_,_,_,_]) (S' :=[]) (fun _ m=>m)<|ag<| ?_
  refine zw rfl (fun hpr=> ?_) (fun hpr=> ?_)
  ·have hp2:(ks++[key]++(b7 (left.eraseIdx j)).filter (pre p)).Perm ((b7 st.seen).filter (pre p)):=by
    rw[List.filter_cons,if_pos hpr]at hpf
    rw[List.append_assoc]
    exact((List.Perm.append_left ks hpf).symm.trans hpm)
   refine aj<|hy (fun _=>aa rfl)<|hy (fun _=>aa rfl)<| ?_
   refine hx (bV Tryz.underlying152 Gr rfl rfl rfl (by simp[Value.cells,SV]) (by decide) (by decide) (fun g21=> ?_))
   have hA_b21:0<1→(some (⟨g21,0,none⟩:Addr))≠none:=fun _ h=>by cases h
   refine aR (fun w m=>m.bO 0 rfl (show _=aG 9 1 (.slice (some ⟨g21,0,none⟩) 1 1) 1 (ss [key])from rfl)) ?_
   refine hx (bH 2 rfl rfl rfl Tryz.underlying152 Tryz.underlying152 (by exact .inl rfl) Gr rfl (fun m=>Src.bY (m.ord 0 rfl)) Ex (by unfold maxLen;omega) (by omega) (fun u=> ?_))
   refine aB (fun m=>(m.own 0 rfl).slice) ?_
   rintro⟨A_o,c_o,rfl,hc_o⟩
   refine aB (fun m=>(m.ord 0 rfl).2.1) fun hA_o=> ?_
   refine aR (fun w m=>m.bO 0 rfl (show _=aG 9 1 (.slice A_o (k+1) c_o) (k+1) (ss (ks++[key]))from by simp[ss])) ?_
   refine hy (fun _=>ab rfl)<|ai<|al (ρ' :=[(5,_),(18,_),(6,_),(13,_),(11,_),(4,_),(0,_),(1,_)]) ⟨rfl,rfl,rfl,rfl,rfl,rfl,rfl,rfl,trivial⟩<|ak (X' :=[_,_,_,_,_,_,_]) (S' :=[]) (fun _ m=>m)<|aT<| ?_
   refine ak (fun w m=>m.bO 2 rfl (show _=iY SV r11 st.gs (dK st.seen) (dK (left.eraseIdx j)) (some (key,r.val))from congrArg (fun q=>iY SV r11 st.gs (dK st.seen) q (some (key,r.val))) (lC left j))) ?_
   refine gy (left.eraseIdx j) (some (key,r.val)) A_o (k+1) c_o (ks++[key]) ⟨rfl,rfl,rfl,rfl,rfl,trivial⟩ [1,0,1,1,1,1] rfl [] rfl (⟨by rw[List.length_append,hkn];rfl,by rw[List.length_eraseIdx,if_pos hlt];omega,hp2⟩) (by rw[List.length_eraseIdx,if_pos hlt];omega)
  ·have hp2:(ks++(b7 (left.eraseIdx j)).filter (pre p)).Perm ((b7 st.seen).filter (pre p)):=by
    rw[List.filter_cons,if_neg (by rw[show pre p key=false from hpr];decide)]at hpf
    exact((List.Perm.append_left ks hpf).symm.trans hpm)
   refine aD<|aT<| ?_
   refine ak (fun w m=>m.bO 0 rfl (show _=iY SV r11 st.gs (dK st.seen) (dK (left.eraseIdx j)) (some (key,r.val))from congrArg (fun q=>iY SV r11 st.gs (dK st.seen) q (some (key,r.val))) (lC left j))) ?_
   refine gy (left.eraseIdx j) (some (key,r.val)) A1 k c1 ks ⟨rfl,rfl,rfl,rfl,rfl,trivial⟩ [1,0,0,0,0,0] rfl [] rfl (⟨hkn,by rw[List.length_eraseIdx,if_pos hlt];omega,hp2⟩) (by rw[List.length_eraseIdx,if_pos hlt];omega)
end Go.Proofs.YtmibdabdlgmafaaGreatDoor
end
section
set_option maxRecDepth 20000
namespace Go.Proofs.YtmibdabdlgmafaaGreatDoor
open Go.Eng Go.Hx
theorem zg{g:Nat}{st:cG}{d:RD}{kk:Nat}{p:List UInt8}(hD:DS st d kk)(hkk:kk≤99000):cf Tryz.prog 79 [.pointer (some ⟨g,0,none⟩),.string (strOf p)] [bn g st] [] (fun v_ X_ S_=>∃st1,v_=(.int .i64 (d.cd p))∧X_=[bn g st1]∧S_=[]∧(DS st1 (d.remove p) (kk+1))):=by
 exact cf.mono (BX hD.ok (by omega)) (fun v X S h=>by
  obtain⟨st1,A,j,h1,h2,h3,hw⟩:=h
  exact⟨st1,by rw[hD.cd];exact h1,h2,h3,hD.remove hw⟩)
def gu(d:RD)(p:List UInt8):List (List UInt8):=(d.seen.map (·.1)).filter (pre p)
theorem fL.gu{fs:dB}{l:List FP}(h:fL fs l){q:List UInt8→Bool}{ks:List (List UInt8)}(hk:ks.Perm ((b7 fs).filter q)):wV ks=(l.map (·.1)).filter q:=by
 have h1:(wV ks).Perm ((l.map (·.1)).filter q):=(List.mergeSort_perm _ _).trans (hk.trans (h.keys.filter q))
 have h2:(wV ks).Pairwise (· ≤·):=by
  have:=List.pairwise_mergeSort (le:=fun x y:List UInt8=>decide (x≤y)) (fun a b c hab hbc=>by simpa using List.le_trans (by simpa using hab) (by simpa using hbc)) (fun a b=>by simpa using List.le_total a b) ks
  exact this.imp (fun hab=>by simpa using hab)
 have h3:((l.map (·.1)).filter q).Pairwise (· ≤·):=(h.ord.imp (fun hlt=>List.le_of_lt hlt)).filter q
 exact h1.eq_of_pairwise (fun a b _ _ hab hba=>List.le_antisymm hab hba) h2 h3
theorem D7{g:Nat}{st:cG}{d:RD}{kk:Nat}{p:List UInt8}(hD:DS st d kk)(hkk:kk≤99000):cf Tryz.prog 86 [.pointer (some ⟨g,0,none⟩),.string (strOf p)] [bn g st] [] (fun v_ X_ S_=>∃v,v_=v∧X_=[bn g st,aG 9 1 v (gu d p).length (ss (gu d p))]∧S_=[]∧((gu d p).length≤kk)):=by
 have h1:st.seen.length≤kk:=hD.ok.seen
 have h2:d.seen.length≤kk:=hD.uZ.seen
 have h3:(gu d p).length≤kk:=Nat.le_trans (List.length_filter_le _ _) (by rw[List.length_map];exact h2)
 exact cf.mono (FR (p:=p) (by omega)) (fun v X S h=>by
  obtain⟨v1,n,ks,h1,h2,h3',h4,h5⟩:=h
  have e:=hD.n7.files.gu h5
  have hl:n=(gu d p).length:=by
   unfold gu
   rw[←e,h4]
   exact(List.mergeSort_perm _ _).length_eq.symm
  subst hl
  refine⟨v1,h1, ?_,h3',h3⟩
  rw[h2,e]
  rfl)
end Go.Proofs.YtmibdabdlgmafaaGreatDoor
end
section
namespace Go.Hx
open Go.Eng
end Go.Hx
end
section
namespace Go.Proofs.YtmibdabdlgmafaaGreatDoor
open Go.Eng Go.Hx
end Go.Proofs.YtmibdabdlgmafaaGreatDoor
end
section
namespace Go.Proofs.YtmibdabdlgmafaaGreatDoor
open Go.Eng Go.Hx
theorem nC(q:FP→Bool)(l:List FP):di (l.filter q)≤di l:=by
 induction l with
 |nil=>exact Nat.le_refl _
 |cons x r ih=>
  rw[List.filter_cons]
  have e:di (x::r)=x.2.length+di r:=by simp[di]
  split
  ·have e2:di (x::r.filter q)=x.2.length+di (r.filter q):=by simp[di]
   omega
  ·omega
theorem n4{q:FP→Bool}{l:List FP}{x:FP}(hx:x∈l)(hq:q x=false):di (l.filter q)+x.2.length≤di l:=by
 induction l with
 |nil=>cases hx
 |cons y r ih=>
  rw[List.filter_cons]
  have e:di (y::r)=y.2.length+di r:=by simp[di]
  rcases List.mem_cons.1 hx with rfl|hm
  ·rw[hq]
   have:=nC q r
   simp only[Bool.false_eq_true,if_false]
   omega
  ·have h1:=ih hm
   split
   ·have e2:di (y::r.filter q)=y.2.length+di (r.filter q):=by simp[di]
    omega
   ·omega
theorem sJ(l:List FP)(f:FP):di (gI l f)≤di l+f.2.length:=by
 induction l with
 |nil=>simp[gI,di]
 |cons x r ih=>
  have e:di (x::r)=x.2.length+di r:=by simp[di]
  rw[gI]
  split
  ·have e2:di (x::gI r f)=x.2.length+di (gI r f):=by simp[di]
   omega
  ·have e2:di (f::(x::r).filter fun y=>decide (y.1≠f.1))=f.2.length+di ((x::r).filter fun y=>decide (y.1≠f.1)):=by simp[di]
   have:=nC (fun y=>decide (y.1≠f.1)) (x::r)
   omega
structure At(d:RD)(F:List UInt8→Option (List UInt8))(T:Nat)(room:Int):Prop where
 pw:d.pw=-1
 room:d.room=room
 look:∀p,lk d.seen p=F p
 lO:di d.seen≤T
def rD(F:List UInt8→Option (List UInt8))(p:List UInt8)(v:Option (List UInt8)):List UInt8→Option (List UInt8):=fun q=>if q=p then v else F q
theorem At.cd{d:RD}{F:List UInt8→Option (List UInt8)}{T:Nat}{room:Int}(h:At d F T room)(p:List UInt8):d.cd p=if F p=none then 4 else 0:=by
 have h1:=h.look p
 rw[←fw]at h1
 rw[RD.cd,if_neg (by rw[h.pw];decide)]
 cases hq:d.seen[cp d.seen p]? with
 |none=>rw[hq]at h1;rw[if_pos rfl,if_pos (by rw[←h1];rfl)]
 |some x=>rw[hq]at h1;rw[if_neg (by simp),if_neg (by rw[←h1];simp)]
theorem At.cm{d:RD}{F:List UInt8→Option (List UInt8)}{T:Nat}{room:Int}(h:At d F T room)(p:List UInt8):d.cm p=(F p).getD []:=by
 have h1:=h.look p
 rw[←fw]at h1
 rw[RD.cm,if_neg (by rw[h.pw];decide),h1]
theorem At.bE{d:RD}{F:List UInt8→Option (List UInt8)}{T:Nat}{room:Int}(h:At d F T room){p l:List UInt8}(hp:fB p)(hr:(T:Int)+(l.length:Nat)≤room):d.bE p l=0:=by
 have h1:=h.lO
 have h2:=h.room
 rw[RD.bE,if_neg (fun h=>h hp),if_neg (by rw[h.pw];decide),if_neg (by omega)]
theorem At.write{d:RD}{F:List UInt8→Option (List UInt8)}{T:Nat}{room:Int}(h:At d F T room){p l:List UInt8}(hp:fB p)(hr:(T:Int)+(l.length:Nat)≤room):At (d.write p l) (rD F p (some l)) (T+l.length) room:=by
 have hs:(d.write p l).seen=gI d.seen (p,l):=by
  rw[RD.write,if_pos (h.bE hp hr)]
  show dw d.seen 0 p [] l=_
  rw[dw,if_pos rfl,ja]
 refine⟨?_, ?_,fun q=> ?_, ?_⟩
 ·rw[RD.write,if_pos (h.bE hp hr)]
  show dH d.pw=-1
  rw[h.pw];rfl
 ·rw[RD.write,if_pos (h.bE hp hr)];exact h.room
 ·rw[hs,ri]
  unfold rD
  split
  ·rfl
  ·exact h.look q
 ·rw[hs]
  have:=sJ d.seen (p,l)
  have:=h.lO
  have e:(p,l).2.length=l.length:=rfl
  omega
theorem At.cT{d:RD}{F:List UInt8→Option (List UInt8)}{T:Nat}{room:Int}(h:At d F T room):d.cT=0:=by rw[RD.cT,if_neg (by rw[h.pw];decide)]
theorem At.sync{d:RD}{F:List UInt8→Option (List UInt8)}{T:Nat}{room:Int}(h:At d F T room):At d.sync F T room:=by
 have e:d.sync={d with ct:=d.seen,waits:=[],pw:=dH d.pw}:=by rw[RD.sync,if_neg (by rw[h.pw];decide)]
 rw[e]
 exact⟨by show dH d.pw=-1;rw[h.pw];rfl,h.room,h.look,h.lO⟩
theorem At.bQ{d:RD}{F:List UInt8→Option (List UInt8)}{T:Nat}{room:Int}(h:At d F T room){a c x:List UInt8}(hc:fB c)(hx:F a=some x):d.bQ a c=0:=by
 rw[RD.bQ,if_neg (fun h=>h hc),h.cd,if_neg (by rw[hx];simp)]
theorem At.rename{d:RD}{F:List UInt8→Option (List UInt8)}{T:Nat}{room:Int}(h:At d F T room){a c x:List UInt8}(hc:fB c)(hx:F a=some x):At (d.rename a c) (rD (rD F a none) c (some x)) T room:=by
 have h1:=h.look a
 rw[←fw,hx]at h1
 obtain⟨y,hy,hyx⟩:∃y,d.seen[cp d.seen a]? =some y∧y.2=x:=by
  cases hq:d.seen[cp d.seen a]? with
  |none=>rw[hq]at h1;cases h1
  |some y=>rw[hq]at h1;exact⟨y,rfl,by simpa using h1⟩
 have hya:y.1=a:=by
  obtain⟨hi,he⟩:=List.getElem?_eq_some_iff.1 hy
  have:=List.findIdx_getElem (p:=fun x:FP=>decide (x.1=a)) (xs:=d.seen) (w:=hi)
  rw[←he]
  exact of_decide_eq_true this
 have hs:(d.rename a c).seen=gI (cV d.seen a) (c,x):=by
  rw[RD.rename,if_pos (h.bQ hc hx)]
  show dw d.seen 1 a c []=_
  rw[dw,if_neg (by decide),hy]
  show(if(1:Int)=2 then _ else _)=_
  rw[if_neg (by decide),ja,hyx]
 refine⟨?_, ?_,fun q=> ?_, ?_⟩
 ·rw[RD.rename,if_pos (h.bQ hc hx)]
  show dH d.pw=-1
  rw[h.pw];rfl
 ·rw[RD.rename,if_pos (h.bQ hc hx)];exact h.room
 ·rw[hs,ri]
  unfold rD cV
  split
  ·rfl
  ·rw[gP]
   split
   ·rfl
   ·exact h.look q
 ·rw[hs]
  have h2:=sJ (cV d.seen a) (c,x)
  have h3:di (cV d.seen a)+y.2.length≤di d.seen:=n4 (List.mem_of_getElem? hy) (by simp[hya])
  have:=h.lO
  have e:(c,x).2.length=x.length:=rfl
  rw[hyx]at h3
  omega
end Go.Proofs.YtmibdabdlgmafaaGreatDoor
end
section
namespace Go.Proofs.YtmibdabdlgmafaaGreatDoor
open Go.Eng Go.Hx
theorem s7:∀i:Nat,i<16→jT.getD i 0≠0:=by decide
theorem o9(l:List UInt8):¬(0:UInt8)∈bW l:=by
 intro h
 unfold bW at h
 obtain⟨x,hx,hc⟩:=List.mem_flatMap.1 h
 have hb:=x.toNat_lt
 simp only[o1,List.mem_cons,List.not_mem_nil,or_false]at hc
 rcases hc with hc|hc
 ·exact s7 _ (by omega) hc.symm
 ·exact s7 _ (by omega) hc.symm
theorem yq{nm:List UInt8}(h:nm.length=32):fB (aF nm):=by
 refine⟨by simp[aF],by rw[dS h];decide,fun hz=> ?_⟩
 unfold aF at hz
 simp only[List.mem_append,List.mem_cons,List.not_mem_nil,or_false]at hz
 rcases hz with((hz|hz)|hz)|hz
 ·rcases hz with hz|hz <;> exact absurd hz (by decide)
 ·exact o9 nm (List.mem_of_mem_take hz)
 ·exact absurd hz (by decide)
 ·exact o9 nm hz
theorem zq{nm:List UInt8}(h:nm.length=32):fB (bJ nm):=by
 refine⟨by simp[bJ],by rw[iV h];decide,fun hz=> ?_⟩
 unfold bJ at hz
 simp only[List.mem_append,List.mem_cons,List.not_mem_nil,or_false]at hz
 rcases hz with hz|hz
 ·rcases hz with hz|hz <;> exact absurd hz (by decide)
 ·exact o9 nm hz
theorem eb(a b:List UInt8):aF a≠bJ b:=by
 intro h
 unfold aF bJ at h
 simp only[List.cons_append,List.nil_append,List.cons.injEq]at h
 exact absurd h.1 (by decide)
theorem ud{d:RD}(h:d.pw=-1):d.sync.ct=d.sync.seen∧d.sync.waits=[]:=by
 have e:d.sync={d with ct:=d.seen,waits:=[],pw:=dH d.pw}:=by rw[RD.sync,if_neg (by rw[h];decide)]
 rw[e]
 exact⟨rfl,rfl⟩
structure SD(d:RD)(F:List UInt8→Option (List UInt8))(T:Nat)(room:Int):Prop where
 at_:At d F T room
 same:d.ct=d.seen
 waits:d.waits=[]
theorem SD.new(room:Int):SD (RD.new room) (fun _=>none) 0 room:=⟨⟨rfl,rfl,fun p=>rfl,Nat.le_refl _⟩,rfl,rfl⟩
theorem wu{d:RD}{F:List UInt8→Option (List UInt8)}{T:Nat}{room:Int}(h:At d F T room){nm:List UInt8}(hF:F (aF nm)=none):d.dY nm=4:=by
 have e:d.cd (aF nm)=4:=by rw[h.cd,if_pos hF]
 rw[jn (by rw[e];decide),e]
theorem get_at{d:RD}{F:List UInt8→Option (List UInt8)}{T:Nat}{room:Int}(h:At d F T room){b:List UInt8}(hb:b.length≤4096)(hF:F (aF (ba b))=some (bA b)):d.dY (ba b)=0∧d.oU (ba b)=b:=by
 have e:d.cd (aF (ba b))=0:=by rw[h.cd,if_neg (by rw[hF];simp)]
 have eB:d.cm (aF (ba b))=bA b:=by rw[h.cm,hF];rfl
 have eo:d.wI (ba b)=(b,0):=by unfold RD.wI;rw[eB];exact xB (by omega) (by omega)
 have e0:d.dY (ba b)=0:=rC e (by rw[eo];simp)
 exact⟨e0,by rw[rZ e0,eo]⟩
def nV(F:List UInt8→Option (List UInt8))(b:List UInt8):List UInt8→Option (List UInt8):=rD (rD (rD F (bJ (ba b)) (some (bA b))) (bJ (ba b)) none) (aF (ba b)) (some (bA b))
theorem pJ(F:List UInt8→Option (List UInt8))(b:List UInt8):nV F b (aF (ba b))=some (bA b):=if_pos rfl
theorem SD.hZ{d:RD}{F:List UInt8→Option (List UInt8)}{T:Nat}{room:Int}(h:SD d F T room){b:List UInt8}(hr:(T:Int)+(bA b).length≤room):
  ∃d',d.hZ b=(d',0)∧SD d' (nV F b) (T+(bA b).length) room:=by
 have hn:=zq (nm:=ba b) (bj b)
 have hp:=yq (nm:=ba b) (bj b)
 have h1:=h.at_.write (p:=bJ (ba b)) (l:=bA b) hn (by omega)
 have h2:=h1.sync
 have hx:rD F (bJ (ba b)) (some (bA b)) (bJ (ba b))=some (bA b):=if_pos rfl
 have h3:=h2.rename hp hx
 obtain⟨c1,c2⟩:=ud h3.pw
 refine⟨_, ?_,⟨h3.sync,c1,c2⟩⟩
 unfold RD.hZ
 rw[cg,if_neg (by show¬d.bE _ _≠0;rw[h.at_.bE hn (by omega)];decide)]
 rw[cg,if_neg (by show¬(d.write _ _).cT≠0;rw[h1.cT];decide)]
 rw[cg,if_neg (by show¬(d.write _ _).sync.bQ _ _≠0;rw[h2.bQ hp hx];decide)]
 rw[cg,if_neg (by show¬((d.write _ _).sync.rename _ _).cT≠0;rw[h3.cT];decide)]
 rfl
theorem SD.put{d:RD}{F:List UInt8→Option (List UInt8)}{T:Nat}{room:Int}(h:SD d F T room){b:List UInt8}(hb:b.length≤4096)(hF:F (aF (ba b))=none)(hr:(T:Int)+(bA b).length≤room):
  ∃d',d.put b=(d',ba b,0)∧SD d' (nV F b) (T+(bA b).length) room:=by
 have e4:=wu h.at_ hF
 obtain⟨d',e,hd⟩:=h.hZ hr
 refine⟨d', ?_,hd⟩
 unfold RD.put
 rw[if_neg (by omega),if_neg (by rw[e4];decide),if_neg (by rw[e4];decide),e]
 rfl
end Go.Proofs.YtmibdabdlgmafaaGreatDoor
end
section
set_option maxRecDepth 20000
set_option maxHeartbeats 4000000
namespace Go.Proofs.YtmibdabdlgmafaaGreatDoor
open Go.Eng Go.Hx
def eQ(c:UInt8):List UInt8→Nat
 | []=>0
 |x::r=>if 0<eQ c r then eQ c r+1 else if x=c then 1 else 0
theorem jg{c:UInt8}:∀{s:List UInt8} {k:Nat},k≤s.length→(0<k→s.getD (k-1) 0=c)→(∀j,k≤j→j<s.length→s.getD j 0≠c)→eQ c s=k
 | [],k,hk,_,_=>by
  have:k=0:=by simpa using hk
  subst this;rfl
 |x::r,0,hk,h1,h2=>by
  have ih:=jg (c:=c) (s:=r) (k:=0) (Nat.zero_le _) (fun h=>absurd h (by decide)) (fun j _ hj=>by
   have:=h2 (j+1) (Nat.zero_le _) (by rw[List.length_cons];omega)
   simpa using this)
  have hx:x≠c:=by
   have:=h2 0 (Nat.le_refl _) (by simp)
   simpa using this
  unfold eQ
  rw[ih,if_neg (by decide),if_neg hx]
 |x::r,1,hk,h1,h2=>by
  have ih:=jg (c:=c) (s:=r) (k:=0) (Nat.zero_le _) (fun h=>absurd h (by decide)) (fun j _ hj=>by
   have:=h2 (j+1) (by omega) (by rw[List.length_cons];omega)
   simpa using this)
  have hx:x=c:=by simpa using h1 (by decide)
  unfold eQ
  rw[ih,if_neg (by decide),if_pos hx]
 |x::r,k+2,hk,h1,h2=>by
  have ih:=jg (c:=c) (s:=r) (k:=k+1) (by rw[List.length_cons]at hk;omega) (fun _=>by
   have:=h1 (by omega)
   simpa using this) (fun j hj hl=>by
   have:=h2 (j+1) (by omega) (by rw[List.length_cons];omega)
   simpa using this)
  unfold eQ
  rw[ih,if_pos (by omega)]
theorem xv{s:List UInt8}{c:UInt8}(hs:s.length≤1000000000):cf Tryz.prog 167 [.string (strOf s),B8 c] [] [] (fun v_ X_ S_=>v_=(.int .i64 ((eQ c s:Nat)-1))∧X_=[]∧S_=[]):=by
 have hsz:=cY s
 refine aP (N:=19) Tryz.func167 rfl rfl (by simp) fun b=> ?_
 refine ah<|aj<|hy (fun _=>ab rfl)<|ai<|ag<|ah<|ah<|aj<|hy (fun _=>aa rfl)<|hy (fun _=>cW rfl Tryz.underlying9)<|hy (fun _=>ck rfl rfl (bD (by omega) (by omega)))<|hy (fun _=>ab rfl)<|ai<|al (ρ' :=[(5,_),(4,_),(0,_),(1,_)]) ⟨rfl,rfl,rfl,rfl,trivial⟩<|ag<|aK<| ?_
 refine dz (fun k=>k) (fun k=>[(5,.int .i64 ((k:Nat)-1))]) (fun k=>[]) (fun k=>[]) (fun k=>k≤s.length∧∀j,k≤j→j<s.length→s.getD j 0≠c) s.length [(0,_),(1,_)] ⟨rfl,rfl,trivial⟩ [] rfl [] rfl (⟨Nat.le_refl _,fun j h1 h2=>absurd h2 (by omega)⟩) ⟨rfl,trivial⟩ (fun k ⟨hk,hno⟩=> ?_)
 refine ah<|ah<|aj<|hy (fun _=>aa rfl)<|hy (fun _=>jZ rfl rfl)<|ai<|al (ρ' :=[(10,_),(5,_),(0,_),(1,_)]) ⟨rfl,rfl,rfl,rfl,trivial⟩<|ag<| ?_
 refine cD rfl (fun h=> ?_) (fun h=> ?_)
 ·have hil:k-1<s.length:=by omega
  refine aD<|ag<|ah<|aK<|ah<|aj<|hy (fun _=>aa rfl)<|hy (fun _=>aa rfl)<|hy (fun _=>fq rfl rfl Tryz.underlying9 (show((k-1:Nat):Int)=_ by omega) (kn hil))<|hy (fun _=>aa rfl)<|hy (fun _=>cH rfl rfl)<|ai<|al (ρ' :=[(17,_),(10,_),(5,_),(0,_),(1,_)]) ⟨rfl,rfl,rfl,rfl,rfl,trivial⟩<|ag<| ?_
  refine cD rfl (fun h0=> ?_) (fun h0=> ?_)
  ·have h00:s.getD (k-1) 0=c:=UInt8.toNat_inj.1 (by omega)
   rw[jg hk (fun _=>h00) hno]
   refine ah<|aj<|hy (fun _=>aa rfl)<|hy (fun _=>ab rfl)<|ai<|al (ρ' :=[(4,_),(17,_),(10,_),(5,_),(0,_),(1,_)]) ⟨rfl,rfl,rfl,rfl,rfl,rfl,trivial⟩<|ag<|aU<|aW<|ax<|ax<|aW<|ax<| ?_
   exact bc trivial rfl rfl [] rfl [] rfl ⟨rfl,rfl,rfl⟩
  ·have h00:s.getD (k-1) 0≠c:=fun e=>h0 (by rw[e])
   have hno2:∀j,k-1≤j→j<s.length→s.getD j 0≠c:=fun j h1 h2=>by
    rcases Nat.lt_or_ge j k with hlt|hge
    ·rw[show j=k-1 by omega];exact h00
    ·exact hno j hge h2
   refine aD<|aT<|ag<|aj<|hy (fun _=>aa rfl)<|hy (fun _=>yV (ck rfl rfl (bD (by omega) (by omega))) ((show Value.int .i64 _= .int .i64 (((k-1:Nat):Int)-1) by congr 1;omega)))<|hy (fun _=>ab rfl)<|ai<|al (ρ' :=[(5,_),(17,_),(10,_),(0,_),(1,_)]) ⟨rfl,rfl,rfl,rfl,rfl,trivial⟩<| ?_
   refine cM (k-1) ⟨rfl,rfl,rfl,trivial⟩ [] rfl [] rfl (⟨by omega,hno2⟩) (by omega)
 ·obtain rfl:k=0:=by omega
  rw[jg (Nat.zero_le _) (fun h=>absurd h (by decide)) hno]
  refine bK<|ao<|ao<|aC<|ag<|ah<|aj<|hy (fun _=>ab rfl)<|ai<|ag<|aU<| ?_
  exact bc trivial rfl rfl [] rfl [] rfl ⟨rfl,rfl,rfl⟩
theorem uq{s:List UInt8}(hs:s.length≤1000000000):cf Tryz.prog 93 [.string (strOf s),.string (strOf [47])] [] [] (fun v_ X_ S_=>v_=(.int .i64 ((eQ 47 s:Nat)-1))∧X_=[]∧S_=[]):=by
 refine aP (N:=36) Tryz.func93 rfl rfl (by simp) fun b=> ?_
 refine ah<|aj<|hy (fun _=>ab rfl)<|ai<|ag<|ah<|aj<|hy (fun _=>aa rfl)<|hy (fun _=>cW rfl Tryz.underlying9)<|hy (fun _=>ab rfl)<|ai<|al (ρ' :=[(5,_),(4,_),(0,_),(1,_)]) ⟨rfl,rfl,rfl,rfl,trivial⟩<|ag<|ah<|aK<|ah<|aj<|hy (fun _=>aa rfl)<|hy (fun _=>cH rfl rfl)<|hy (fun _=>ab rfl)<|ai<|al (ρ' :=[(8,_),(5,_),(4,_),(0,_),(1,_)]) ⟨rfl,rfl,rfl,rfl,rfl,trivial⟩<|ag<| ?_
 refine dP rfl ((decide_eq_false (by decide))) ?_
 refine ah<|aj<|hy (fun _=>aa rfl)<|hy (fun _=>cH rfl rfl)<|hy (fun _=>ab rfl)<|ai<|al (ρ' :=[(13,_),(8,_),(5,_),(4,_),(0,_),(1,_)]) ⟨rfl,rfl,rfl,rfl,rfl,rfl,trivial⟩<|ag<| ?_
 refine ib rfl ((decide_eq_true (by decide))) ?_
 refine ah<|aj<|hy (fun _=>aa rfl)<|hy (fun _=>aa rfl)<|hy (fun _=>fq rfl rfl Tryz.underlying9 rfl (show(strOf [47]).data[0]? =some 47 from rfl))<| ?_
 refine hx (aq rfl Tryz.call167 (xv hs (c:=47)) [] rfl [] rfl ?_)
 rintro _ _ _ ⟨rfl,rfl,rfl⟩
 refine hy (fun _=>ab rfl)<|ai<|al (ρ' :=[(4,_),(13,_),(8,_),(5,_),(0,_),(1,_)]) ⟨rfl,rfl,rfl,rfl,rfl,rfl,trivial⟩<|ak (X' :=[]) (S' :=[]) (fun _ m=>m)<|ag<|aU<|aW<|ax<| ?_
 exact bc trivial rfl rfl [] rfl [] rfl ⟨rfl,rfl,rfl⟩
theorem xj(l:List UInt8):¬(47:UInt8)∈bW l:=by
 have hd:∀i:Nat,i<16→jT.getD i 0≠47:=by decide
 intro h
 unfold bW at h
 obtain⟨x,hx,hc⟩:=List.mem_flatMap.1 h
 have hb:=x.toNat_lt
 simp only[o1,List.mem_cons,List.not_mem_nil,or_false]at hc
 rcases hc with hc|hc
 ·exact hd _ (by omega) hc.symm
 ·exact hd _ (by omega) hc.symm
theorem sW{nm:List UInt8}(h:nm.length=32):eQ 47 (aF nm)=5:=by
 have h64:(bW nm).length=64:=by rw[dA,h]
 obtain⟨a,b,r,hr⟩:∃a b r,bW nm=a::b::r:=by
  match hq:bW nm with
  | []=>rw[hq]at h64;cases h64
  | [_]=>rw[hq]at h64;cases h64
  |a::b::r=>exact⟨a,b,r,rfl⟩
 have hp:aF nm=[99,47,a,b,47]++bW nm:=by unfold aF;rw[hr];rfl
 refine jg (by rw[dS h];decide) (fun _=>by rw[hp];rfl) (fun j h1 h2 e=> ?_)
 rw[hp]at e h2
 rw[List.getD_eq_getElem?_getD,List.getElem?_append_right (by exact h1)]at e
 have hj:j-5<(bW nm).length:=by simp at h2;omega
 have e2:(bW nm)[j-5]?.getD 0=47:=e
 rw[List.getElem?_eq_getElem hj]at e2
 exact xj nm (by rw[←show(bW nm)[j-5]=47 from e2];exact List.getElem_mem hj)
def lG(p q:List UInt8):Option (List UInt8):=if(cO q).2=0∧aF (cO q).1=p then some (cO q).1 else none
theorem eA{p q nm:List UInt8}(h:lG p q=some nm):nm.length=32∧p=aF nm:=by
 unfold lG at h
 split at h
 ·rename_i hq
  cases h
  exact⟨j4 _,hq.2.symm⟩
 ·cases h
theorem oQ{nm:List UInt8}(h:nm.length=32):lG (aF nm) (bW nm)=some nm:=by
 unfold lG
 rw[pS nm h,if_pos ⟨rfl,rfl⟩]
def gG(p:List UInt8):Option (List UInt8):=lG p (p.drop (eQ 47 p))
def mJ(p:List UInt8):Option (List UInt8):=if p.length=69 then lG p (p.drop 5)else none
theorem j7(p:List UInt8):gG p=mJ p:=by
 have h1:∀{nm:List UInt8},nm.length=32→gG (aF nm)=some nm∧mJ (aF nm)=some nm:=fun{nm} h=>by
  unfold gG mJ
  rw[sW h,ik h,dS h,if_pos rfl]
  exact⟨oQ h,oQ h⟩
 cases h:gG p with
 |some nm=>
  obtain⟨h2,rfl⟩:=eA h
  exact(h1 h2).2.symm
 |none=>
  cases h3:mJ p with
  |none=>rfl
  |some nm=>
   have h4:lG p (p.drop 5)=some nm:=by
    unfold mJ at h3
    split at h3
    ·exact h3
    ·cases h3
   obtain⟨h2,rfl⟩:=eA h4
   rw[(h1 h2).1]at h
   cases h
def bL(d:RD):List (List UInt8):=(d.seen.map (·.1)).filterMap mJ
end Go.Proofs.YtmibdabdlgmafaaGreatDoor
end
section
set_option maxRecDepth 20000
set_option maxHeartbeats 4000000
namespace Go.Proofs.YtmibdabdlgmafaaGreatDoor
open Go.Eng Go.Hx
def zK:List UInt8:=[99,47]
theorem sO(c:UInt8):∀s:List UInt8,eQ c s≤s.length
 | []=>Nat.le_refl _
 |x::r=>by
  have:=sO c r
  unfold eQ
  split
  ·rw[List.length_cons];omega
  ·split <;> (rw[List.length_cons];omega)
theorem x3{p nm:List UInt8}(h:gG p=some nm):pre zK p=true:=by
 obtain⟨h1,rfl⟩:=eA h
 unfold pre
 exact decide_eq_true rfl
theorem rH(d:RD):(gu d zK).filterMap gG=bL d:=by
 unfold gu bL
 rw[show mJ=gG from funext fun p=>(j7 p).symm]
 generalize d.seen.map (·.1)=l
 induction l with
 |nil=>rfl
 |cons p r ih=>
  rw[List.filter_cons]
  cases h:gG p with
  |some nm=>rw[if_pos (x3 h),List.filterMap_cons,List.filterMap_cons,h,ih]
  |none=>
   rw[List.filterMap_cons,h]
   split
   ·rw[List.filterMap_cons,h];exact ih
   ·exact ih
theorem xz{ns:List (List UInt8)}{i:Nat}(h:i<ns.length):(ns.take (i+1)).filterMap gG=(ns.take i).filterMap gG++(gG (ns.getD i [])).toList:=by
 have h1:ns.take (i+1)=ns.take i++[ns.getD i []]:=by
  rw[List.take_add_one,List.getElem?_eq_getElem h]
  simp[List.getD,List.getElem?_eq_getElem h]
 rw[h1,List.filterMap_append]
 generalize ns.getD i []=x
 cases hq:gG x <;> simp[hq]
theorem Ez{g:Nat}{st:cG}{d:RD}{kk:Nat}(hD:DS st d kk)(hkk:kk≤99000)(hnl:∀x∈d.seen,x.1.length≤1000000):cf Tryz.prog 20 [.pointer (some ⟨g,0,none⟩)] [bn g st] [] (fun v_ X_ S_=>∃v k,v_=v∧X_=[bn g st,aG 53 32 v k (dc (bL d))]∧S_=[]∧(k=(bL d).length)):=by
 have hcn:=rH d
 have hnl2:∀p∈gu d zK,p.length≤1000000:=fun p hp=>by
  obtain⟨x,hx,rfl⟩:=List.mem_map.1 (List.mem_filter.1 hp).1
  exact hnl x hx
 refine aP (N:=38) Tryz.func20 rfl rfl (by simp) fun b=> ?_
 refine ah<|aj<|hy (fun _=>ab rfl)<|ai<|ag<|ah<|aj<|hy (fun _=>ab rfl)<|ai<|ag<|ah<|ah<|aj<|hy (fun _=>aa rfl)<| ?_
 refine hx (aq rfl Tryz.call86 (D7 hD hkk (p:=zK)) [0] rfl [] rfl ?_)
 rintro _ _ _ ⟨v,rfl,rfl,rfl,hn⟩
 refine aB (fun m=>(m.own 1 rfl).slice) ?_
 rintro⟨A_x,c_x,rfl,hc_x⟩
 refine aB (fun m=>(m.ord 1 rfl).2.1) fun hA_x=> ?_
 generalize gu d zK=ns at hn hcn hnl2 hc_x hA_x ⊢
 refine hy (fun _=>aX rfl Tryz.underlying152)<|hy (fun _=>aa rfl)<|ai<|al (ρ' :=[(11,_),(10,_),(9,_),(3,_),(2,_),(0,_)]) ⟨rfl,rfl,rfl,rfl,rfl,rfl,trivial⟩<|ak (X' :=[_,_]) (S' :=[]) (fun _ m=>m)<|ag<|aK<| ?_
 refine bB (fun w m=>m.dx (r' :=aG 53 32 (.slice none 0 0) 0 []) (.refl _ _) (Own.nil _ _ _ _) (fun k hk=>hk.elim)) ?_
 refine kr (fun i k A1 c1=>ns.length-i) (fun i k A1 c1=>[(3,.slice A1 k c1),(11,.int .i64 (i:Nat))]) (fun i k A1 c1=>[aG 53 32 (.slice A1 k c1) k (dc ((ns.take i).filterMap gG))]) (fun i k A1 c1=>[]) (fun i k A1 c1=>i≤ns.length∧k=((ns.take i).filterMap gG).length∧k≤i) 0 0 none 0 [(10,_),(9,_),(2,_),(0,_)] ⟨rfl,rfl,rfl,rfl,trivial⟩ [0] rfl [] rfl (⟨Nat.zero_le _,rfl,Nat.le_refl _⟩) ⟨rfl,rfl,trivial⟩ (fun i k A1 c1 ⟨hin,hk,hki⟩=> ?_)
 refine ah<|aj<|hy (fun _=>bw rfl rfl)<|ai<|ag<|ah<| ?_
 refine cD rfl (fun hlt=> ?_) (fun hlt=> ?_)
 ·have hi2:i<ns.length:=by omega
  have hsn:=xz hi2
  have hpl:=hnl2 (ns.getD i []) (by rw[List.getD,List.getElem?_eq_getElem hi2];exact List.getElem_mem hi2)
  refine aD<|ag<|ah<|aK<|ah<|aj<|hy (fun _=>aO rfl rfl Tryz.underlying152 GN hA_x rfl (by omega))<|hy (fun m=>aw rfl lL ((m.ord 2 rfl).cell (zh hi2)))<|hy (fun _=>ab rfl)<|ai<|al (ρ' :=[(5,_),(12,_),(3,_),(11,_),(10,_),(9,_),(2,_),(0,_)]) ⟨rfl,rfl,rfl,rfl,rfl,rfl,rfl,rfl,trivial⟩<|ag<|ah<|aj<|hy (fun _=>aa rfl)<|hy (fun _=>aa rfl)<| ?_
  generalize ns.getD i []=p at hsn hpl ⊢
  have hlp:=sO 47 p
  have hdl:=j4 (p.drop (eQ 47 p))
  have h32:(aQ (cO (p.drop (eQ 47 p))).1).length=32:=by rw[az,hdl]
  have hql:(p.drop (eQ 47 p)).length≤1000000:=by rw[List.length_drop];omega
  have ho1:gG p=if(cO (p.drop (eQ 47 p))).2=0∧aF (cO (p.drop (eQ 47 p))).1=p then some (cO (p.drop (eQ 47 p))).1 else none:=rfl
  refine hx (aq rfl Tryz.call93 (uq (by omega) (s:=p)) [] rfl [] rfl ?_)
  rintro _ _ _ ⟨rfl,rfl,rfl⟩
  refine hy (fun _=>aM rfl rfl (bD (by omega) (by omega)))<|hy (fun _=>w7 rfl rfl Tryz.underlying9 (show((eQ 47 p:Nat):Int)=_ by omega) hlp)<| ?_
  refine hx (aq rfl Tryz.call92 (y6 hql (s:=(p.drop (eQ 47 p)))) [] rfl [] rfl ?_)
  rintro _ _ _ ⟨rfl,rfl,rfl⟩
  refine hy (fun _=>aa rfl)<|hy (fun _=>au rfl rfl)<|hy (fun _=>au rfl rfl)<| ?_
  refine hx (aN dL (fun g6=> ?_))
  refine cI (aJ 0 rfl rfl rfl bp h32 aS rfl ?_)
  generalize hdo:cO (p.drop (eQ 47 p))=dq at hdl h32 ho1 ⊢
  by_cases hE:dq.2=0
  ·refine hy (fun _=>ab rfl)<|ai<|al (ρ' :=[(7,_),(6,_),(5,_),(12,_),(3,_),(11,_),(10,_),(9,_),(2,_),(0,_)]) ⟨rfl,rfl,rfl,rfl,rfl,rfl,rfl,rfl,rfl,rfl,trivial⟩<|ak (X' :=[_,_,_,_]) (S' :=[]) (fun _ m=>m)<|ag<|ah<|aj<|hy (fun _=>aa rfl)<|hy (fun _=>yT (cH rfl rfl) ((decide_eq_true hE)))<|hy (fun _=>aa rfl)<|dQ (o:=_) rfl rfl rfl (fun m=>a6 rfl cr bp h32 ((m.aY 0 rfl).ay))<| ?_
   refine GR (o:=_) rfl rfl rfl (aq rfl Tryz.call94 (rp hdl) [] rfl [] rfl ?_)
   rintro _ _ _ ⟨rfl,rfl,rfl⟩
   refine dQ (o:=_) rfl rfl rfl (fun _=>aa rfl)<|dQ (o:=_) rfl rfl rfl (fun _=>sv rfl rfl)<|hy (fun _=>bU rfl rfl)<|ai<|al (ρ' :=[(31,_),(7,_),(6,_),(5,_),(12,_),(3,_),(11,_),(10,_),(9,_),(2,_),(0,_)]) ⟨rfl,rfl,rfl,rfl,rfl,rfl,rfl,rfl,rfl,rfl,rfl,trivial⟩<|ak (X' :=[_,_,_,_]) (S' :=[]) (fun _ m=>m)<|ag<| ?_
   refine zw rfl (fun hp=> ?_) (fun hp=> ?_)
   ·have hp:=cA.1 (of_decide_eq_true hp)
    rw[ho1,if_pos ⟨hE,hp⟩]at hsn
    have hsn:(ns.take (i+1)).filterMap gG=(ns.take i).filterMap gG++[dq.1]:=hsn
    refine aj<|hy (fun _=>aa rfl)<|hy (fun m=>a6 rfl cr bp h32 ((m.aY 0 rfl).ay))<| ?_
    refine hx (bV Tryz.underlying33 dL rfl rfl rfl (by simpa[Value.cells,B8]using h32) (by decide) (by decide) (fun g34=> ?_))
    have hA_b34:0<1→(some (⟨g34,0,none⟩:Addr))≠none:=fun _ h=>by cases h
    refine aR (fun w m=>m.bO 0 rfl (show _=aG 53 32 (.slice (some ⟨g34,0,none⟩) 1 1) 1 (dc [dq.1])from rfl)) ?_
    refine hx (bH 2 rfl rfl rfl Tryz.underlying33 Tryz.underlying33 (by exact .inl rfl) dL rfl (fun m=>Src.bY (m.ord 0 rfl)) jx (by unfold maxLen;omega) (by omega) (fun u=> ?_))
    refine aB (fun m=>(m.own 0 rfl).slice) ?_
    rintro⟨A_o,c_o,rfl,hc_o⟩
    refine aB (fun m=>(m.ord 0 rfl).2.1) fun hA_o=> ?_
    refine aR (fun w m=>m.bO 0 rfl (show _=aG 53 32 (.slice A_o (k+1) c_o) (k+1) (dc ((ns.take (i+1)).filterMap gG))from congrArg (aG _ _ _ _) (by rw[hsn,fj]))) ?_
    refine hy (fun _=>ab rfl)<|ai<|al (ρ' :=[(3,_),(31,_),(7,_),(6,_),(5,_),(12,_),(11,_),(10,_),(9,_),(2,_),(0,_)]) ⟨rfl,rfl,rfl,rfl,rfl,rfl,rfl,rfl,rfl,rfl,rfl,trivial⟩<|ak (X' :=[_,_,_,_,_]) (S' :=[]) (fun _ m=>m)<|aT<|ag<|aj<|hy (fun _=>aM rfl rfl (bD (by omega) (by omega)))<|hy (fun _=>aa rfl)<|ai<|al (ρ' :=[(11,_),(3,_),(31,_),(7,_),(6,_),(5,_),(12,_),(10,_),(9,_),(2,_),(0,_)]) ⟨rfl,rfl,rfl,rfl,rfl,rfl,rfl,rfl,rfl,rfl,rfl,trivial⟩<| ?_
    refine gr (i+1) (k+1) A_o c_o ⟨rfl,rfl,rfl,rfl,rfl,rfl,trivial⟩ [0,2,2] rfl [] rfl (⟨by omega,by rw[hsn,hk,List.length_append];rfl,by omega⟩) (by omega)
   ·have hp:=of_decide_eq_false hp
    rw[ho1,if_neg (fun h=>hp (by rw[h.2]))]at hsn
    have hsn:(ns.take (i+1)).filterMap gG=(ns.take i).filterMap gG:=hsn.trans (List.append_nil _)
    refine bB (fun w m=>m.bO 1 rfl (show _=aG 53 32 (.slice A1 k c1) k (dc ((ns.take (i+1)).filterMap gG))from by rw[hsn])) ?_
    refine aD<|aT<|ag<|aj<|hy (fun _=>aM rfl rfl (bD (by omega) (by omega)))<|hy (fun _=>aa rfl)<|ai<|al (ρ' :=[(11,_),(31,_),(7,_),(6,_),(5,_),(12,_),(3,_),(10,_),(9,_),(2,_),(0,_)]) ⟨rfl,rfl,rfl,rfl,rfl,rfl,rfl,rfl,rfl,rfl,rfl,trivial⟩<| ?_
    refine gr (i+1) k A1 c1 ⟨rfl,rfl,rfl,rfl,rfl,rfl,trivial⟩ [0,1,1] rfl [] rfl (⟨by omega,by rw[hsn,hk],by omega⟩) (by omega)
  ·refine hy (fun _=>ab rfl)<|ai<|al (ρ' :=[(7,_),(6,_),(5,_),(12,_),(3,_),(11,_),(10,_),(9,_),(2,_),(0,_)]) ⟨rfl,rfl,rfl,rfl,rfl,rfl,rfl,rfl,rfl,rfl,trivial⟩<|ag<|ah<|aj<|hy (fun _=>aa rfl)<|hy (fun _=>yF (cH rfl rfl) ((decide_eq_false hE)))<|hy (fun _=>aa rfl)<|bx rfl rfl rfl (by decide)<|bx rfl rfl rfl (by decide)<|bx rfl rfl rfl (by decide)<|bx rfl rfl rfl (by decide)<|hy (fun _=>bP rfl rfl)<|ai<|al (ρ' :=[(31,_),(7,_),(6,_),(5,_),(12,_),(3,_),(11,_),(10,_),(9,_),(2,_),(0,_)]) ⟨rfl,rfl,rfl,rfl,rfl,rfl,rfl,rfl,rfl,rfl,rfl,trivial⟩<|ag<| ?_
   refine dP rfl (rfl) ?_
   rw[ho1,if_neg (fun h=>hE h.1)]at hsn
   have hsn:(ns.take (i+1)).filterMap gG=(ns.take i).filterMap gG:=hsn.trans (List.append_nil _)
   refine bB (fun w m=>m.bO 1 rfl (show _=aG 53 32 (.slice A1 k c1) k (dc ((ns.take (i+1)).filterMap gG))from by rw[hsn])) ?_
   refine aD<|aT<|ag<|aj<|hy (fun _=>aM rfl rfl (bD (by omega) (by omega)))<|hy (fun _=>aa rfl)<|ai<|al (ρ' :=[(11,_),(31,_),(7,_),(6,_),(5,_),(12,_),(3,_),(10,_),(9,_),(2,_),(0,_)]) ⟨rfl,rfl,rfl,rfl,rfl,rfl,rfl,rfl,rfl,rfl,rfl,trivial⟩<| ?_
   refine gr (i+1) k A1 c1 ⟨rfl,rfl,rfl,rfl,rfl,rfl,trivial⟩ [0,1,1] rfl [] rfl (⟨by omega,by rw[hsn,hk],by omega⟩) (by omega)
 ·obtain rfl:i=ns.length:=by omega
  rw[List.take_length,hcn]at hk ⊢
  refine bK<|ao<|ao<|aC<|ag<|ah<|aj<|hy (fun _=>aa rfl)<|hy (fun _=>ab rfl)<|ai<|al (ρ' :=[(2,_),(12,_),(3,_),(11,_),(10,_),(9,_),(0,_)]) ⟨rfl,rfl,rfl,rfl,rfl,rfl,rfl,trivial⟩<|ag<|aU<| ?_
  exact bc trivial rfl rfl [1,0] rfl [] rfl ⟨_,_,rfl,rfl,rfl,hk⟩
end Go.Proofs.YtmibdabdlgmafaaGreatDoor
end
section
namespace Go.Eng
open Go.RowKit
section
variable{P:Program}{fn:Func}{R:Value→List bg→List bg→Prop}{N:Nat}{ρ:Env}{b:cw}{X X' Xz S S' :List bg}{e:Exit}
theorem eV{t t2 t' sz sz2:Nat}{ty ty2:TypeId}{p p2:Addr}{cs cs2:List Value}{v' :Value}(he:Leaves e)(hr:fn.results= #[.cell t ty,.cell t2 ty2,.tmp t'])(hv:get ρ t=some (.pointer (some p)))(hv2:get ρ t2=some (.pointer (some p2)))(hv' :get ρ t' =some v')(ha:dj P ty=some true)(hs:fo P ty=some sz)(hl:cs.length=sz)
  (hc:∀{w},Mem b X S w→∀j u,cs[j]? =some u→w.cell? (p.add j)=some u) (ha2:dj P ty2=some true) (hs2:fo P ty2=some sz2) (hl2:cs2.length=sz2)
  (hc2:∀{w},Mem b X S w→∀j u,cs2[j]? =some u→w.cell? (p2.add j)=some u) (is:List Nat) (hX:bR is X=some (X',Xz)) (js:List Nat) (hS:dM js S=some S') (hR:R (.tuple #[.agg cs.toArray,.agg cs2.toArray,v']) X' S'):HQ (bodyPost P fn (RB b R)) N [] e ρ b X S:=
 fun w m=>gU he (fun a hA=>by have h1:=hA.getD hv;have h2:=hA.getD hv2;have h3:=hA.getD hv';simp at h1 h2 h3;simp[results,hr,h1,h2,h3,asAddr,kI ha hs hl (hc m),kI ha2 hs2 hl2 (hc2 m)]) ⟨_,_,_,rfl,hR,m.out is hX js hS⟩
end
end Go.Eng
end
