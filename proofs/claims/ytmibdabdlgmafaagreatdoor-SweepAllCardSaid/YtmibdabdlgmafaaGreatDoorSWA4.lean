/- Part. -/
import Derived.Test.YtmibdabdlgmafaaGreatDoorSWA3
import Derived.RangeFuncBox
import Derived.RangeFuncLeaves
import Derived.Shelf.Abstract
import Derived.WalkKit
import Derived.OwnWalkIn
import Derived.TacticsInMore
import Derived.LoopNIn
import Derived.LoopIn
import Derived.ScopeJumps
import Derived.Shelf.Sort.Plain
import Derived.Test.YtmibdabdlgmafaaGreatDoorProg
import Derived.Sort.OwnSorted
set_option linter.all false
section
namespace Go.Eng
open Go.RowKit
def wP(D:Nat):bg where
 c5 k:=k=D
 holds w:=w.heap[D]? =some (.deferred (some []))
 hZ:=fun{S w w'} f h e=>by
  have hlt:=(Array.getElem?_eq_some_iff.1 e).1
  exact(f.block D hlt (h D rfl)).trans e
 low:=fun{w k} e hk=>by
  have hk' :k=D:=hk
  rw[hk'];exact(Array.getElem?_eq_some_iff.1 e).1
theorem Mem.grown{b:cw}{X S:List bg}{w w' :World}{R:Nat→Prop}(m:Mem b X S w)(f:Fr R w w')(h1:∀k,R k→b.w.heap.size≤k)(h2:∀k,R k→∀x∈X,¬x.c5 k)(h3:∀k,R k→∀s∈S,¬s.c5 k):Mem b X S w' :=
 ⟨m.fr.trans f (fun _ e=>e) (fun i hi e=>absurd (h1 i e) (by omega)),m.xx,m.xs,fun x hx=>x.hZ f (fun k hk hr=>h2 k hr x hx hk) (m.hx x hx),fun s hs=>s.hZ f (fun k hk hr=>h3 k hr s hs hk) (m.hs s hs),m.nx,m.ns⟩
theorem sB{w w' :World}{row:Option Nat}(h:w.grownBy w' row):Fr (fun k=>row=some k) w w' :=⟨h.os,h.tape,h.output,h.size,fun k hk hn=>h.block k hk (fun e=>hn e.symm)⟩
def Fc(B:Nat)(M:Nat→Prop)(W W' :World):Prop:=∀k,k<B→¬M k→W'.heap[k]? =W.heap[k]?
def An(ps:Array Tmp)(vs:List Value):Env:=(ps.toList.zip vs)
theorem Mem.yl{b:cw}{X S:List bg}{w:World}{D B:Nat}(m:Mem b X S w)(hb:b.w.heap.size≤B)(hD:B≤D)(hx:∀x∈X,∀k,x.c5 k→k<B)(hs:∀s∈S,∀k,s.c5 k→k<B)(h:w.heap[D]? =some (.deferred (some []))):Mem b (wP D::X) S w:=by
 refine⟨m.fr,List.pairwise_cons.2 ⟨fun y hy k hk hy' => ?_,m.xx⟩,fun x hx' s hs' k hk hk' => ?_,fun x hx' => ?_,m.hs,fun x hx' k hk=> ?_,m.ns⟩
 ·have hk' :k=D:=hk
  have:=hx y hy k hy'
  omega
 ·rcases List.mem_cons.1 hx' with rfl|hx'
  ·have h1:k=D:=hk
   have:=hs s hs' k hk'
   omega
  ·exact m.xs x hx' s hs' k hk hk'
 ·rcases List.mem_cons.1 hx' with rfl|hx'
  ·exact h
  ·exact m.hx x hx'
 ·rcases List.mem_cons.1 hx' with rfl|hx'
  ·have h1:k=D:=hk
   exact .inr (by omega)
  ·exact m.nx x hx' k hk
theorem Mem.off{b:cw}{X S X1 Xr:List bg}{w:World}{is:List Nat}(m:Mem b X S w)(hX:bR is X=some (X1,Xr))(j:Nat){r:bg}(hj:Xr[j]? =some r){k:Nat}(hk:r.c5 k):¬dr X1 k:=by
 have m1:=m.perm (ar _ _ _ _ hX)
 rintro⟨x,hx,hxk⟩
 exact(List.pairwise_append.1 m1.xx).2.2 x hx r (List.mem_of_getElem? hj) k hxk hk
def RQ{α σ:Type}(b:cw)(X1:σ→List bg)(Sb:List bg)(id:Nat)(step:σ→α→σ)(brk:σ→α→Prop)(s:σ)(x:α):Exit→Act→World→Prop
 | .normal,_,w=>Mem b (X1 (step s x)) Sb w
 | .exit i,_,w=>i=id∧Mem b (X1 s) Sb w∧brk s x
 |_,_,_=>False
theorem kE{α σ:Type}{b:cw}{X1:σ→List bg}{Sb:List bg}{id:Nat}{step:σ→α→σ}{brk:σ→α→Prop}{s:σ}{x:α}{N:Nat}{D:List Deferred}{ρ:Env}{X S Xz:List bg}(s' :σ)(he:step s x=s')(is:List Nat)(hX:bR is X=some (X1 s',Xz))(js:List Nat)(hS:dJ js S=some Sb):
  HQ (RQ b X1 Sb id step brk s x) N D .normal ρ b X S:=fun w m a ha=>by
 show Mem b (X1 (step s x)) Sb w
 rw[he]
 exact m.out is hX js hS
theorem qF{α σ:Type}{b:cw}{X1:σ→List bg}{Sb:List bg}{id:Nat}{step:σ→α→σ}{brk:σ→α→Prop}{s:σ}{x:α}{N:Nat}{D:List Deferred}{ρ:Env}{X S Xz:List bg}(is:List Nat)(hX:bR is X=some (X1 s,Xz))(js:List Nat)(hS:dJ js S=some Sb)(hb:brk s x):
  HQ (RQ b X1 Sb id step brk s x) N D (.exit id) ρ b X S:=fun w m a ha=>⟨rfl,m.out is hX js hS,hb⟩
section
variable{P:Program}{Q:Exit→Act→World→Prop}{N:Nat}{D:List Deferred}{ρ ρ' :Env}{b:cw}{X X' Xr S S' Sb:List bg}
theorem xZ{α σ:Type}{g gf id:Nat}{ps:Array Tmp}{assign body:Code}{lb:List Value}(X1:σ→List bg)(s0:σ)(step:σ→α→σ)(brk:σ→α→Prop)(encs:α→List Value)(xs:List α)(ρx:α→Env)(ρk:Env)(hk:e7 ρk ρ)
  (hv:get ρ g=some (.func (.func gf) #[] lb.toArray)) (heg:∀args w,(callFunc gf args).run P w= .ok (.enter gf args) w)
  (is:List Nat) (hX:bR is X=some (X1 s0,Xr)) (hft:∀s k,dr (X1 s) k↔dr (X1 s0) k) (js:List Nat) (hS:dJ js S=some Sb)
  (ah:∀w,Mem b X S w→SeqStopsK Fence.wide 2 P gf lb.toArray (fun x=>(encs x).toArray) (Fc w.heap.size (dr (X1 s0))) (fun ys=>ys=xs) (fun pre=>pre<+:xs) xs.length w)
  (hps:∀x,(encs x).length=ps.size) (hpn:∀p∈ps.toList,p<N) (hnd:∀x (a:Act),Ag N D ρ a→Ag N [] (ρ' ++An ps (encs x)++ρ) {tmps:=(ps.zip (encs x).toArray).foldl (fun t (p,v)=>t.setIfInBounds p v) a.tmps,defers:=[]})
  (hasg:∀(l:Nat) (b' :cw) (s:σ) (x:α) (Q' :Exit→Act→World→Prop),HQ Q' N [] .normal (ρx x++ρk) b' (X1 s) Sb→tK l 1 P Q' N [] assign (ρ' ++An ps (encs x)++ρ) b' (X1 s) Sb)
  (hbody:∀(l:Nat) (b' :cw) (s:σ) (x:α),tK l 1 P (RQ b' X1 Sb id step brk s x) N [] body (ρx x++ρk) b' (X1 s) Sb)
  (k:∀(Dk:Nat) (s:σ),(s=xs.foldl step s0∨∃pre x rest,xs=pre++x::rest∧s=pre.foldl step s0∧brk s x)→HQ Q N (⟨.collected Dk, #[]⟩::D) .normal ρ b (wP Dk::(X1 s++Xr)) S):
  HC P Q N D (.block id (.rangeFunc (.tmp g) ps assign body)) ρ b X S:=by
 intro w m a ha
 have m1:=m.perm (ar _ _ _ _ hX)
 have hSb:=b9 _ _ _ hS
 obtain⟨M,hM⟩:∃M,M=dr (X1 s0):=⟨_,rfl⟩
 have hbz:b.w.heap.size≤w.heap.size:=m.fr.size
 have lowM:∀k,M k→k<w.heap.size:=by
  rw[hM]
  rintro k ⟨x,hx,hk⟩
  exact x.low (m1.hx x (List.mem_append_left _ hx)) hk
 have lowX:∀s x,x∈X1 s++Xr→∀k,x.c5 k→k<w.heap.size:=by
  intro s x hx k hk
  rcases List.mem_append.1 hx with hx|hx
  ·exact lowM k (by rw[hM];exact(hft s k).1 ⟨x,hx,hk⟩)
  ·exact x.low (m1.hx x (List.mem_append_right _ hx)) hk
 have lowS:∀s∈S,∀k,s.c5 k→k<w.heap.size:=fun s hs k hk=>s.low (m.hs s hs) hk
 refine wpIn_wide (n:=3).1 (wpIn_block ?_)
 have hown:∀{s:σ} {W W' :World} {row:Option Nat},Mem b (X1 s++Xr) S W→W.grownBy W' row→(∀r,row=some r→w.heap.size≤r∧∃o:Obj,W.heap[r]? =some o∧o.isCells=false)→Mem b (X1 s++Xr) S W' :=by
  intro s W W' row mW hg hr
  refine mW.grown (sB hg) (fun k e=>Nat.le_trans hbz (hr k e).1) (fun k e x hx hk=> ?_) (fun k e x hx hk=> ?_)
  ·have h1:=lowX s x hx k hk
   have h2:=(hr k e).1
   omega
  ·have h1:=lowS x hx k hk
   have h2:=(hr k e).1
   omega
 have hround:∀{s:σ} {W W' :World} {Y:List bg},Mem b (X1 s++Xr) S W→w.heap.size≤W.heap.size→Mem ⟨W,dr (X1 s),dr Sb⟩ Y Sb W' →KeepsFrom w.heap.size W W' ∧Fc w.heap.size M W W' ∧Mem b (Y++Xr) S W' :=by
  intro s W W' Y mW hsz mY
  have e:∀k,dr (X1 s) k↔M k:=fun k=>by rw[hM];exact hft s k
  refine⟨⟨mY.fr.size,fun k o hk ho _=> ?_⟩,fun k hk hn=> ?_,(mW.frame hSb mY).lx (fun x hx=>List.mem_append_right _ hx)⟩
  ·have hlt:=(Array.getElem?_eq_some_iff.1 ho).1
   exact(mY.fr.block k hlt (fun q=>by have:=lowM k ((e k).1 q);omega)).trans ho
  ·exact mY.fr.block k (by show k<W.heap.size;omega) (fun q=>hn ((e k).1 q))
 refine wpIn_rangeFunc_ownH (n:=3) (α:=α) (gf:=gf) (lb:=lb.toArray) rfl (by decide) (ha.eval hv) trivial heg (ah w m)
  (fun{A B C} h1 h2 k hk hn=>(h2 k hk hn).trans (h1 k hk hn)) (fun W l o o' hl ho _ _ k hk hn=>World.putObj_heap_other (by omega)) (Below.refl _ w) (fun x=>by simpa using hps x)
  (fun pre W=>w.heap.size≤W.heap.size∧Mem b (X1 (pre.foldl step s0)++Xr) S W) (fun c pre W=>c= .exit id∧∃pre' x,pre=pre' ++[x]∧Mem b (X1 (pre'.foldl step s0)++Xr) S W∧brk (pre'.foldl step s0) x)
  (fun pre W W' row h hg hr=>⟨Nat.le_trans h.1 hg.size,hown h.2 hg hr⟩)
  (fun c pre W W' row h hg hr=>by
   obtain⟨hc,pre',x,e,h1,h2⟩:=h
   exact⟨hc,pre',x,e,hown h1 hg hr,h2⟩)
  ⟨Nat.le_refl _,m1⟩ (fun x a' _=>Ag N [] (ρx x++ρk) a') (fun x a' =>ownFrom_pure _ (fun _=>Ag N [] (ρx x++ρk) a')) ?_ ?_ ?_ ?_
 ·rintro l pre x W K ⟨hsz,mW⟩ hK
  refine hasg l ⟨W,dr (X1 (pre.foldl step s0)),dr Sb⟩ (pre.foldl step s0) x _ (fun W' m' a' ha' => ?_) (fun⟨_,_,h⟩=>h) W (mW.part hSb) _ (hnd x a ha)
  obtain⟨h1,h2,h3⟩:=hround mW hsz m'
  exact hK a' W' h1 (by rw[←hM];exact h2) ⟨Nat.le_trans hsz h1.size,h3⟩ ha'
 ·rintro l pre x a' W _ _ ⟨hsz,mW⟩ hax _
  refine wpIn_mono (hbody l ⟨W,dr (X1 (pre.foldl step s0)),dr Sb⟩ (pre.foldl step s0) x (fun⟨_,_,h⟩=>h) W (mW.part hSb) a' hax) ?_
  intro e a2 W2 q
  cases e with
  |normal=>
   have q' :Mem _ (X1 (step (pre.foldl step s0) x)) Sb W2:=q
   obtain⟨h1,h2,h3⟩:=hround mW hsz q'
   refine⟨h1,by rw[←hM];exact h2,Nat.le_trans hsz h1.size, ?_⟩
   rw[List.foldl_append]
   exact h3
  |exit i=>
   obtain⟨rfl,q1,q2⟩:=q
   obtain⟨h1,h2,h3⟩:=hround mW hsz q1
   exact⟨h1,rfl,pre,x,rfl,h3,q2⟩
  |ret=>exact q.elim
  |goto t=>exact q.elim
  |panic c=>exact q.elim
  |outgrown=>exact q.elim
 ·rintro Dk ys W hD rfl ⟨hsz,mW⟩ hdef
  exact k Dk _ (.inl rfl) W (mW.yl hbz hD (lowX _) lowS hdef) _ ⟨ha.sz,by rw[ha.df],ha.gt⟩
 ·rintro Dk c pre W hD hpre ⟨rfl,pre',x,rfl,mW,hb⟩ hdef
  obtain⟨rest,hr⟩:=hpre
  refine wpIn_exit ?_
  have hq:=k Dk _ (.inr ⟨pre',x,rest,by rw[←hr];simp,rfl,hb⟩) W (mW.yl hbz hD (lowX _) lowS hdef) {a with defers:=⟨.collected Dk, #[]⟩::a.defers} ⟨ha.sz,by show _::a.defers=_;rw[ha.df],ha.gt⟩
  show(Exit.inBlock id Q) (.exit id) _ W
  simp only[Exit.inBlock,if_pos]
  exact hq
end
theorem yX{N p q:Nat}{D:List Deferred}{ρ:Env}{a:Act}{u v:Value}(hpq:(p == q)=false)(hp:p<N)(hq:q<N)(ha:Ag N D ρ a):
  Ag N [] ([]++An #[p,q] [u,v]++ρ) {tmps:=((#[p,q]:Array Tmp).zip [u,v].toArray).foldl (fun t (p,v)=>t.setIfInBounds p v) a.tmps,defers:=[]}:=by
 have hne:p≠q:=by simpa using hpq
 have e:(((#[p,q]:Array Tmp).zip [u,v].toArray).foldl (fun t (p,v)=>t.setIfInBounds p v) a.tmps)=(a.tmps.setIfInBounds p u).setIfInBounds q v:=by simp
 rw[e]
 have hsz:=ha.sz
 refine⟨by simpa using hsz,rfl,fun t z ht=> ?_⟩
 simp only[An,List.nil_append,List.zip_cons_cons,List.zip_nil_right,List.cons_append,get]at ht
 show((a.tmps.setIfInBounds p u).setIfInBounds q v)[t]? =some z
 cases h1:Nat.beq p t with
 |true=>
  rw[h1]at ht
  have h1' :p=t:=Nat.eq_of_beq_eq_true h1
  simp only[cond_true,Option.some.injEq]at ht
  subst h1';subst ht
  rw[Array.getElem?_setIfInBounds_ne (Ne.symm hne),Array.getElem?_setIfInBounds_self_of_lt (by omega)]
 |false=>
  rw[h1]at ht
  simp only[cond_false]at ht
  have h1' :p≠t:=Nat.ne_of_beq_eq_false h1
  cases h2:Nat.beq q t with
  |true=>
   rw[h2]at ht
   have h2' :q=t:=Nat.eq_of_beq_eq_true h2
   simp only[cond_true,Option.some.injEq]at ht
   subst h2';subst ht
   rw[Array.getElem?_setIfInBounds_self_of_lt (by simp;omega)]
  |false=>
   rw[h2]at ht
   have h2' :q≠t:=Nat.ne_of_beq_eq_false h2
   rw[Array.getElem?_setIfInBounds_ne h2',Array.getElem?_setIfInBounds_ne h1']
   exact ha.gt t z (by simpa using ht)
theorem BA{P:Program}{f:Nat}{fn:Func}{c:Code}{vs:List Value}{R:Value→List bg→List bg→Prop}{N:Nat}{X0 S0:List bg}(hf:P.funcs[f]? =some fn)(hb:fn.body=some c)(hN:fn.ntmps=N)(hl:vs.length≤N)
  (h:∀b,HC P (bodyPostM Fence.wide 3 P fn (RB b R)) N [] c (fW vs 0) b X0 S0):cf P f vs X0 S0 R:=fun w m=>by
 refine callsIn_wide (n:=3).1 (callsIn_of_wp_marks hf hb trivial (wpIn_wide.2 (h _ w m _ ⟨?_,rfl,fun t v ht=> ?_⟩)))
 ·simp[hN];omega
 ·obtain⟨_,h2⟩:=fY vs 0 t v ht
  have hlt:=(List.getElem?_eq_some_iff.1 h2).1
  rw[Array.getElem?_append_left (by simpa using hlt)]
  simpa using h2
section
variable{P:Program}{fn:Func}{R:Value→List bg→List bg→Prop}{N n:Nat}{D:List Deferred}{ρ:Env}{b:cw}{X X' Xz S S' :List bg}{e:Exit}
theorem Fp{Dk:Nat}(he:Leaves e)(is:List Nat)(hX:bR is X=some ([wP Dk],X'))(k:HQ (bodyPostM Fence.wide n P fn (RB b R)) N D e ρ b X' S):HQ (bodyPostM Fence.wide n P fn (RB b R)) N (⟨.collected Dk, #[]⟩::D) e ρ b X S:=by
 intro w m a ha
 have m1:=m.perm (ar _ _ _ _ hX)
 have hc:w.heap[Dk]? =some (.deferred (some [])):=m1.hx (wP Dk) (by simp)
 have hx1:=(List.pairwise_cons.1 m1.xx).1
 have hr:=run_takeDeferred (P:=P) hc
 have hf:Fr (fun k=>k=Dk) w (w.putObj Dk (.deferred none)):=⟨rfl,rfl,rfl,by simp,fun k _ hk=>World.putObj_heap_other hk⟩
 have hbz:b.w.heap.size≤Dk∨b.M Dk:=(m1.nx (wP Dk) (by simp) Dk rfl).symm
 have m2:Mem b X' S (w.putObj Dk (.deferred none)):=by
  refine⟨m1.fr.trans hf (fun _ e=>e) (fun i hi e=> ?_),(List.pairwise_cons.1 m1.xx).2,fun x hx=>m1.xs x (List.mem_cons_of_mem _ hx),fun x hx=>x.hZ hf (fun k hk e=> ?_) (m1.hx x (List.mem_cons_of_mem _ hx)),fun s hs=>s.hZ hf (fun k hk e=> ?_) (m1.hs s hs),fun x hx=>m1.nx x (List.mem_cons_of_mem _ hx),m1.ns⟩
  ·subst e
   rcases hbz with h|h
   ·omega
   ·exact h
  ·exact hx1 x hx k e hk
  ·exact m1.xs (wP Dk) (by simp) s hs k e hk
 have hk:=k _ m2 {a with defers:=D} ⟨ha.sz,rfl,ha.gt⟩
 cases e with
 |normal=>
  show LeavesInM Fence.wide n P fn a.tmps _ a.defers .returning w
  rw[ha.df]
  exact⟨by simp,.inl ⟨Dk,_,rfl,hr,hk⟩⟩
 |ret=>
  show LeavesInM Fence.wide n P fn a.tmps _ a.defers .returning w
  rw[ha.df]
  exact⟨by simp,.inl ⟨Dk,_,rfl,hr,hk⟩⟩
 |_=>exact he.elim
theorem EA{v:Value}(he:Leaves e)(h:∀a,Ag N [] ρ a→∀w,(results fn a.tmps).run P w= .ok v w)(is:List Nat)(hX:bR is X=some (X',Xz))(js:List Nat)(hS:dJ js S=some S')(hR:R v X' S'):HQ (bodyPostM Fence.wide n P fn (RB b R)) N [] e ρ b X S:=by
 intro w m a ha
 have hm:=m.out is hX js hS
 cases e with
 |normal=>
  show LeavesInM Fence.wide n P fn a.tmps _ a.defers .returning w
  rw[ha.df]
  exact⟨v,h a ha w,_,_,_,rfl,hR,hm⟩
 |ret=>
  show LeavesInM Fence.wide n P fn a.tmps _ a.defers .returning w
  rw[ha.df]
  exact⟨v,h a ha w,_,_,_,rfl,hR,hm⟩
 |_=>exact he.elim
theorem tI{t t' :Nat}{v v' :Value}(he:Leaves e)(hr:fn.results= #[.tmp t,.tmp t'])(hv:get ρ t=some v)(hv' :get ρ t' =some v')(is:List Nat)(hX:bR is X=some (X',Xz))(js:List Nat)(hS:dJ js S=some S')(hR:R (.tuple #[v,v']) X' S'):HQ (bodyPostM Fence.wide n P fn (RB b R)) N [] e ρ b X S:=
 EA he (fun a ha w=>by have h1:=ha.getD hv;have h2:=ha.getD hv';simp at h1 h2;simp[results,hr,h1,h2]) is hX js hS hR
end
end Go.Eng
end
section
namespace Go.Proofs.YtmibdabdlgmafaaGreatDoor
open Go.Eng Go.RowKit Go.Shelf
attribute [local go_sem] Oper.semAt_some
set_option maxRecDepth 100000 in
set_option maxHeartbeats 4000000 in
theorem x8(F:Fence)(n:Nat)(h7:F.fn 297)(hro:F.round=none)(hn:1≤n)(l Bs B b off cap:Nat)(M:Nat→Prop)(zs:List Int){α:Type}(L:List α)(encs:α→List Value)(hL:L.length=zs.length)(henc:∀(k:Nat) (x:α),L[k]? =some x→encs x=[.int .i64 ((zs.length-1-k:Nat):Int),.int .i64 (zs[zs.length-1-k]?.getD 0)])(hreach:zs.length*8≤140737488351232)(hbs:Bs<B∧¬M Bs)(hb:b<B∧¬M b)(J Jx:List α→World→Prop)
  (hY:∀pre x W,J pre W→pre.length<L.length→YieldAt F (n-1) Tryz.prog l (encs x).toArray W fun e W' =>
   (e= .returned (.bool true)∧J (pre++[x]) W' ∧Fc B M W W')∨(e= .returned (.bool false)∧Jx (pre++[x]) W'))
  (W:World) (hBs:W.cell? ⟨Bs,0,none⟩=some (.slice (some ⟨b,off,none⟩) zs.length cap)) (hc:∀j,j<zs.length→W.cell? ⟨b,off+j,none⟩=some (.int .i64 (zs[j]?.getD 0))) (h0:J [] W):
  CallsIn F n Tryz.prog 297 #[.func (.yield l) #[] #[],.pointer (some ⟨Bs,0,none⟩)] W fun e W' =>(∃v,e= .returned v)∧
   ((∃ys,ys=L∧J ys W')∨(∃pre,pre<+:L∧Jx pre W')):=by
 refine callsIn_of_wp Tryz.func297 rfl h7 ?_ hro
 simp only[Tryz.ntmps297,List.size_toArray,List.length_cons,List.length_nil,Nat.reduceAdd,Nat.reduceSub,Array.replicate_succ,Array.replicate_zero,List.push_toArray,List.append_toArray,List.nil_append,List.cons_append]
 gi_wp2
 gi_loopw [3] (fun i wr=>∃k:Nat,k≤zs.length∧i= .int .i64 ((zs.length:Int)-1-(k:Int))∧J (L.take k) wr∧Fc B M W wr)
  (fun i _=>(intOf i+1).toNat)
 case atStart=>exact⟨0,Nat.zero_le _,by simp,h0,fun _ _ _=>rfl⟩
 case round=>
  obtain⟨k,hk,rfl,hJs,hnx⟩:=hrel
  have hBs' :wr.cell? ⟨Bs,0,none⟩=some (.slice (some ⟨b,off,none⟩) zs.length cap):=by rw[←hBs];simp only[World.cell?,hnx Bs hbs.1 hbs.2]
  have hcx:∀j,j<zs.length→wr.cell? ⟨b,off+j,none⟩=some (.int .i64 (zs[j]?.getD 0)):=fun j h=>by rw[←hc j h];simp only[World.cell?,hnx b hb.1 hb.2]
  by_cases hlt:k<zs.length
  ·obtain⟨j,hj⟩:∃j:Nat,j+1+k=zs.length:=⟨zs.length-1-k,by omega⟩
   have hjk:zs.length-1-k=j:=by omega
   have hji:(zs.length:Int)-1-(k:Int)=(j:Int):=by omega
   obtain⟨x,hx⟩:∃x,L[k]? =some x:=⟨_,List.getElem?_eq_getElem (by omega)⟩
   have htk:L.take (k+1)=L.take k++[x]:=by rw[List.take_add_one,hx];rfl
   obtain⟨fn,tmps,assign,body,hy,hR⟩:=hY _ x wr hJs (by rw[List.length_take];omega)
   rw[henc k x hx,hjk]at hy
   have hcx' :=hcx j (by omega)
   obtain⟨z,hz⟩:∃z,zs[j]?.getD 0=z:=⟨_,rfl⟩
   rw[hz]at hcx' hy
   clear hcx hz hc
   rw[hji]
   have hge:¬((j:Int)<0):=by omega
   have hjl:j<zs.length:=by omega
   gi_wp2
   refine hR.mono ?_
   rintro e W3 (⟨rfl,hJ3,hk3⟩|⟨rfl,hJx3⟩)
   ·gi_wp2
    go_roundw
    case rel=>exact⟨k+1,by omega,by congr 1 <;> omega,by rw[htk];exact hJ3,fun q h1 h2=>(hk3 q h1 h2).trans (hnx q h1 h2)⟩
    case measure=>simp[intOf] <;> omega
   ·gi_wp2
    refine bodyPost_ret (results_none rfl _ _ _) rfl ?_
    exact⟨⟨_,rfl⟩,.inr ⟨_,by rw[←htk];exact List.take_prefix _ _,hJx3⟩⟩
  ·obtain rfl:k=zs.length:=by omega
   have hge:¬((zs.length:Int)-1-(zs.length:Int)≥0):=by omega
   gi_wp2
   go_end0
   exact⟨⟨_,rfl⟩,.inl (by rw[←hL,List.take_length]at hJs;exact hJs)⟩
set_option maxRecDepth 100000 in
set_option maxHeartbeats 4000000 in
theorem sF(F:Fence)(n:Nat)(h7:F.fn 297)(hro:F.round=none)(l Bs cap:Nat)(A:Option Addr)(J:World→Prop)
  (W:World) (hBs:W.cell? ⟨Bs,0,none⟩=some (.slice A 0 cap)) (h0:J W):
  CallsIn F n Tryz.prog 297 #[.func (.yield l) #[] #[],.pointer (some ⟨Bs,0,none⟩)] W fun e W' =>(∃v,e= .returned v)∧J W' :=by
 refine callsIn_of_wp Tryz.func297 rfl h7 ?_ hro
 simp only[Tryz.ntmps297,List.size_toArray,List.length_cons,List.length_nil,Nat.reduceAdd,Nat.reduceSub,Array.replicate_succ,Array.replicate_zero,List.push_toArray,List.append_toArray,List.nil_append,List.cons_append]
 gi_wp2
 gi_loopw [3] (fun i wr=>i= .int .i64 (-1)∧J wr) (fun _ _=>0)
 case atStart=>exact⟨by simp,h0⟩
 case round=>
  obtain⟨rfl,hJs⟩:=hrel
  gi_wp2
  go_end0
  exact⟨⟨_,rfl⟩,hJs⟩
theorem oL(F:Fence)(n:Nat)(h7:F.fn 297)(hro:F.round=none)(hn:1≤n){w:World}{Bs e:Nat}{v:Value}{zs:List Int}{M:Nat→Prop}{α:Type}(L:List α)(encs:α→List Value)(hL:L.length=zs.length)(henc:∀(k:Nat) (x:α),L[k]? =some x→encs x=[.int .i64 ((zs.length-1-k:Nat):Int),.int .i64 (zs[zs.length-1-k]?.getD 0)])(hreach:zs.length*8≤140737488351232)
  (hBs:w.cell? ⟨Bs,0,none⟩=some v) (hMB:¬M Bs) (h:Go.Eng.Own w 0 e 1 v zs.length (zs.map (Value.int .i64))) (hMA:∀k,iU v k→¬M k):
  SeqStopsK F n Tryz.prog 297 #[.pointer (some ⟨Bs,0,none⟩)] (fun x=>(encs x).toArray) (Fc w.heap.size M) (fun ys=>ys=L) (fun pre=>pre<+:L) L.length w:=by
 intro l J Jx W hW _ _ hY h0
 have hlt:=lB hBs
 have hc' :W.cell? ⟨Bs,0,none⟩=some v:=(hW.cell (p:=⟨Bs,0,none⟩) hlt).trans hBs
 obtain⟨hl,⟨rfl,hz⟩|⟨g,o,cap,cur,rfl,_,hb,hcap,hml,hcl,hx⟩⟩:=h
 ·have hL0:L=[]:=List.eq_nil_of_length_eq_zero (by omega)
  subst hL0
  exact(sF F n h7 hro l Bs 0 none (J []) W hc' h0).mono fun e W' ⟨he,hj⟩=>⟨he,.inl ⟨_,rfl,hj⟩⟩
 ·by_cases hz:zs.length=0
  ·have hL0:L=[]:=List.eq_nil_of_length_eq_zero (by omega)
   subst hL0
   rw[hz]at hc'
   exact(sF F n h7 hro l Bs cap _ (J []) W hc' h0).mono fun e W' ⟨he,hj⟩=>⟨he,.inl ⟨_,rfl,hj⟩⟩
  ·have hcs:∀j,j<zs.length→W.cell? ⟨g,o+j,none⟩=some (.int .i64 (zs[j]?.getD 0)):=fun j hj=>by
    refine(hW.cell (p:=⟨g,o+j,none⟩) hb.lt).trans (hb.cell ?_)
    have h1:((cur.drop o).take (zs.length*1))[j]? =(zs.map (Value.int .i64))[j]? :=by rw[hx]
    rw[List.getElem?_take,if_pos (by omega),List.getElem?_drop,List.getElem?_map,List.getElem?_eq_getElem hj]at h1
    rw[h1,List.getElem?_eq_getElem hj]
    rfl
   have hsz:=hW.size
   have:=x8 F n h7 hro hn l Bs w.heap.size g o cap M zs L encs hL henc hreach ⟨hlt,hMB⟩ ⟨hb.lt,hMA g rfl⟩ J Jx hY W hc' hcs h0
   refine this.mono ?_
   rintro e W' ⟨he,⟨ys,rfl,hj⟩|⟨pre,hp,hj⟩⟩
   ·exact⟨he,.inl ⟨_,rfl,hj⟩⟩
   ·exact⟨he,.inr ⟨_,hp,hj⟩⟩
end Go.Proofs.YtmibdabdlgmafaaGreatDoor
end
section
set_option maxRecDepth 20000
set_option maxHeartbeats 2000000
namespace Go.Proofs.YtmibdabdlgmafaaGreatDoor
open Go.Eng Go.Hx
def eE(zs:List Nat)(i:Nat)(h:∀z∈zs,z<i):List {x:Nat×Nat//x.2<i}:=(zs.attach.zipIdx.map fun x=>(⟨(x.2,x.1.1),h _ x.1.2⟩:{x:Nat×Nat//x.2<i})).reverse
theorem gS(zs:List Nat)(i:Nat)(h:∀z∈zs,z<i):(eE zs i h).length=zs.length:=by simp[eE]
theorem nA(zs:List Nat)(i:Nat)(h:∀z∈zs,z<i):(eE zs i h).map (fun x=>x.1.2)=zs.reverse:=by
 unfold eE
 rw[List.map_reverse,List.map_map]
 congr 1
 apply List.ext_getElem
 ·simp
 ·intro j h1 h2
  simp
theorem ti(zs:List Nat)(i:Nat)(h:∀z∈zs,z<i)(k:Nat)(x:{x:Nat×Nat//x.2<i})(hx:(eE zs i h)[k]? =some x):k<zs.length∧x.1.1=zs.length-1-k∧zs[zs.length-1-k]? =some x.1.2:=by
 have hk:k<zs.length:=by rw[←gS zs i h];exact(List.getElem?_eq_some_iff.1 hx).1
 unfold eE at hx
 rw[List.getElem?_reverse (by simpa using hk)]at hx
 simp only[List.length_map,List.length_zipIdx,List.length_attach,List.getElem?_map,List.getElem?_zipIdx,Nat.zero_add]at hx
 have hlt:zs.length-1-k<zs.attach.length:=by simp;omega
 rw[List.getElem?_eq_getElem hlt]at hx
 simp only[Option.map_some,Option.some.injEq]at hx
 subst hx
 refine⟨hk,rfl, ?_⟩
 rw[List.getElem?_eq_getElem (by simpa using hlt)]
 simp
theorem k4(f:Nat×Nat→Nat→Nat×Nat)(s:Nat×Nat)(i:Nat)(L:List {x:Nat×Nat//x.2<i}):L.foldl (fun s x=>f s x.1.2) s=(L.map (fun x=>x.1.2)).foldl f s:=by rw[List.foldl_map]
theorem oG{l:List UInt8}{i:Nat}{zs:List Nat}(hz:zs=j4 l i (ee l i))(hi:i+4≤l.length)(h:∀z∈zs,z<i){s:Nat×Nat}
  (hs:s=(eE zs i h).foldl (fun s x=>fB l i s x.1.2) (0,0)∨∃pre x rest,eE zs i h=pre++x::rest∧s=pre.foldl (fun s x=>fB l i s x.1.2) (0,0)∧1024<i-x.1.2):s=aT l i:=by
 subst hz
 rcases hs with rfl|⟨pre,x,rest,e,rfl,hb⟩
 ·rw[k4,nA,sP hi]
 ·have e2:=congrArg (List.map fun x=>x.1.2) e
  rw[nA,List.map_append,List.map_cons]at e2
  rw[k4,←sP hi]
  exact(we e2 hb).symm
def lh(l:List Nat):List Int:=l.map fun n:Nat=>(n:Int)
theorem eC(l:List Nat):(lh l).length=l.length:=List.length_map ..
theorem xY{w:World}{e:TypeId}{v:Value}{l:List Nat}(h:Go.Eng.Own w 0 e 1 v l.length (Ar l)):Go.Eng.Own w 0 e 1 v (lh l).length ((lh l).map (Value.int .i64)):=by
 rw[eC]
 unfold lh
 rw[List.map_map]
 exact h
theorem Ek{es:tN}{j:Nat}{x:j6}(h:(fD es)[j]? =some x.res):(x.res::(fD es).eraseIdx j).Perm (fD es):=by
 obtain⟨h1,h2⟩:=List.getElem?_eq_some_iff.1 h
 have:=fT (fD es) j h1
 rwa [h2]at this
theorem Cr{A:Option Addr}{n c:Nat}:cf Tryz.prog 271 [.slice A n c] [] [] (fun v_ X_ S_=>∃gB,v_=(.func (.func 297) #[] #[.pointer (some ⟨gB,0,none⟩)])∧X_=[aJ gB 44 [.slice A n c]]∧S_=[]):=by
 refine aO (N:=4) Tryz.func271 rfl rfl (by simp) fun b=> ?_
 refine ah<|aj<| ?_
 refine hx (cE rfl (fun g1=> ?_))
 refine hy (fun _=>ab rfl)<|ai<|ak (X' :=[_]) (S' :=[]) (fun _ m=>m)<|ag<|ah<|aj<|hy (fun _=>jV rfl rfl)<|hy (fun _=>ab rfl)<|ai<|al (ρ' :=[(2,_),(1,_),(0,_)]) ⟨rfl,rfl,rfl,trivial⟩<|ag<|aV<| ?_
 refine ak (fun w m=>m.bU 0 rfl (show _=aJ g1 44 [.slice A n c]from rfl)) ?_
 exact bh trivial rfl rfl [0] rfl [] rfl ⟨_,rfl,rfl,rfl⟩
theorem EJ{A:Option Addr}{n c:Nat}:cf Tryz.prog 229 [.slice A n c] [] [] (fun v_ X_ S_=>∃g gm,v_=(.pointer (some ⟨g,0,none⟩))∧X_=[na g gm A n c 0 []]∧S_=[]):=by
 refine aO (N:=7) Tryz.func229 rfl rfl (by simp) fun b=> ?_
 refine ah<|aj<|hy (fun _=>ab rfl)<|ai<|ag<|ah<|aj<|hy (fun _=>aa rfl)<| ?_
 refine hx (mD (KN (n:=4)) (fun g4=> ?_))
 refine hy (fun _=>cn Fw rfl rfl (by kernel_rfl) (.cons (o:=0) (sz:=1) (by kernel_rfl) rfl rfl (Nat.le_of_ble_eq_true rfl) (.cons (o:=1) (sz:=1) (by kernel_rfl) rfl rfl (Nat.le_of_ble_eq_true rfl) .nil)))<| ?_
 refine hx (cE rfl (fun g6=> ?_))
 refine hy (fun _=>ab rfl)<|ai<|al (ρ' :=[(2,_),(0,_)]) ⟨rfl,rfl,trivial⟩<|ak (X' :=[_,_]) (S' :=[]) (fun _ m=>m)<|ag<|aV<| ?_
 refine ak (fun w m=>m.AQ) ?_
 refine ak (fun w m=>m.bU 1 rfl (show _=aJ g6 359 [.slice A n c,.map (some g4),.int .i64 ((0:Nat):Int)]from rfl)) ?_
 refine ak (X' :=na g6 g4 A n c 0 []::_) (fun w m=>(m.perm (ar [0,1,0] _ [_,_,_] _ rfl)).pack) ?_
 exact bh trivial rfl rfl [0] rfl [] rfl ⟨_,_,rfl,rfl,rfl⟩
theorem yO(zs:List Nat)(i:Nat)(h:∀z∈zs,z<i)(k:Nat)(x:{x:Nat×Nat//x.2<i})(hx:(eE zs i h)[k]? =some x):[Value.int .i64 (x.1.1:Nat),.int .i64 (x.1.2:Nat)]=[.int .i64 (((lh zs).length-1-k:Nat):Int),.int .i64 ((lh zs)[(lh zs).length-1-k]?.getD 0)]:=by
 obtain⟨h1,h2,h3⟩:=ti zs i h k x hx
 rw[eC]
 unfold lh
 rw[List.getElem?_map,h3,h2]
 rfl
theorem Ef{g gm:Nat}{A:Option Addr}{n c p i:Nat}{l:List UInt8}{es:tN}(hc:n≤c)(hn:n≤1000000000)(hl:l.length=n)(hpi:p≤i)(hi:i≤n)(hF:xq l p es):cf Tryz.prog 231 [.pointer (some ⟨g,0,none⟩),.int .i64 (i:Nat)] [na g gm A n c p es] [c6 1 A n (aQ l)] (fun v_ X_ S_=>∃p1 es1,v_=(.tuple #[.int .i64 ((aT l i).1:Nat),.int .i64 ((aT l i).2:Nat)])∧X_=[na g gm A n c p1 es1]∧S_=[]∧(p1≤i∧xq l p1 es1)):=by
 refine BA (N:=60) Tryz.func231 rfl rfl (by simp) fun b=> ?_
 refine a6 (fun m=>gz (m.rd 0 rfl)) ?_
 rintro⟨hl_r,hA_r⟩
 refine bw (fun w m=>(m.perm (ar [0] _ [_] _ rfl)).unpack) ?_
 refine ah<|aj<| ?_
 refine hx (cE rfl (fun g2=> ?_))
 refine hx (cE rfl (fun g3=> ?_))
 refine hy (fun _=>ab rfl)<|hy (fun _=>ab rfl)<|ai<|ak (X' :=[_,_,_,_,_]) (S' :=[_]) (fun _ m=>m)<|ag<|ah<|ah<|cT [] [(0,some 0),(1,some 0),(2,some 0),(3,some 0),(4,some 0),(5,some 0),(6,some 0),(7,some 0)] (by kernel_rfl) (by kernel_rfl) rfl 99<|cm (fun m=>aw rfl fG (aA (m.aX 0 rfl) rfl))<|an (aN rfl rfl (bE (by omega) (by omega)))<|cm (fun m=>aw rfl nC (aA (m.aX 1 rfl) rfl))<|an (bd rfl)<|an (aL rfl jx (by decide))<|cm (fun m=>aw rfl dU (aA (m.aX 2 rfl) rfl))<|an (aW rfl Tryz.underlying27)<|an (cQ rfl rfl)<|bF<|al (ρ' :=[(18,_),(5,_),(4,_),(3,_),(2,_),(0,_),(1,_)]) ⟨rfl,rfl,rfl,rfl,rfl,rfl,rfl,trivial⟩<|ag<| ?_
 refine cC rfl (fun h1=> ?_) (fun h1=> ?_)
 ·have e:=sQ (b:=l) (i:=i) (by omega) (by omega)
  rw[e]
  refine ah<|aj<|hy (fun _=>ab rfl)<|hy (fun _=>ab rfl)<|ai<|ag<|aV<|ax<| ?_
  refine ak (X' :=na g gm A n c p es::_) (fun w m=>(m.perm (ar [2,2,2] _ [_,_,_] _ rfl)).pack) ?_
  exact tI trivial rfl rfl rfl [0] rfl [] rfl ⟨p,es,rfl,rfl,rfl,⟨hpi,hF⟩⟩
 ·have hi4:i+4≤n:=by omega
  refine aD<|ag<|ah<| ?_
  refine bw (X' :=na g gm A n c p es::_) (fun w m=>(m.perm (ar [2,2,2] _ [_,_,_] _ rfl)).pack) ?_
  refine aj<|hy (fun m=>aw rfl nC (aA (m.aX 2 rfl) rfl))<|hy (fun m=>aw rfl fG (aA (m.aX 1 rfl) rfl))<| ?_
  refine hx (aq rfl Tryz.call270 (Ez (by omega) (by omega) hl (by omega) (by omega) hF) [0] rfl [0] rfl ?_)
  rintro _ _ _ ⟨es1,rfl,rfl,rfl,hp⟩
  have hF1:=hp
  refine ai<|al (ρ' :=[(18,_),(5,_),(4,_),(3,_),(2,_),(0,_),(1,_)]) ⟨rfl,rfl,rfl,rfl,rfl,rfl,rfl,trivial⟩<|ak (X' :=[_,_,_]) (S' :=[_]) (fun _ m=>m)<|ag<|ah<|aj<| ?_
  refine hx (aP DU (fun g6=> ?_))
  refine hx (aP DU (fun g7=> ?_))
  refine cH (dF 1 rfl rfl rfl tG rfl (by first|exact Nat.le_of_ble_eq_true rfl|simp) ?_)
  refine cH (dF 1 rfl rfl rfl tG rfl (by first|exact Nat.le_of_ble_eq_true rfl|simp) ?_)
  refine ai<|ak (X' :=[_,_,_,_,_]) (S' :=[_]) (fun _ m=>m)<|ag<|ah<|ah<| ?_
  refine bw (fun w m=>(m.perm (ar [2] _ [_] _ rfl)).unpack) ?_
  refine a6 (fun m=>(m.rd 0 rfl).some (by omega)) fun h_=> ?_
  obtain⟨a,rfl⟩:∃a_,A=some a_:=⟨_,h_⟩
  clear h_
  rcases hq:bY es1 ⟨ee l i,bC (by omega)⟩with _|x
  ·have e0:=qE hF1 hq
   refine cT [15] [(0,some 1),(1,some 0),(2,some 0),(3,some 0),(4,some 1),(5,some 1),(6,some 1),(7,some 1),(8,some 1),(9,some 1),(10,some 1),(11,some 0),(12,some 0),(13,some 0),(14,some 0),(15,none)] (by kernel_rfl) (by kernel_rfl) rfl 99<|cm (fun m=>aw rfl nC (aA (m.aX 6 rfl) rfl))<|an (bd rfl)<|an (aL rfl rb (by decide))<|cm (fun m=>aw rfl yY (aA (m.aX 0 rfl) rfl))<|cm (fun m=>aw rfl nC (aA (m.aX 6 rfl) rfl))<|an (bd rfl)<|an (aL rfl jx (by decide))<|cm (fun m=>aw rfl dU (aA (m.aX 0 rfl) rfl))<|cm (fun m=>aw rfl fG (aA (m.aX 5 rfl) rfl))<|cm (fun m=>aw rfl fG (aA (m.aX 5 rfl) rfl))<|an (aN rfl rfl (bE (by omega) (by omega)))<|an (yV (eA rfl rfl rfl Tryz.underlying27 dW rfl (show((i+4:Nat):Int)=_ by omega) (by omega) (by omega)) ((show Value.slice (if c=i then some a else(some a).map (·.add (i*1))) (i+4-i) (c-i)= .slice (some (a.add i)) 4 (c-i) by rw[if_neg (by omega),Nat.mul_one,Nat.add_sub_cancel_left];rfl)))<|an (n7 rfl Tryz.underlying364 (by omega))<|cm (fun m=>yV (a7 rfl uX sT (by rw[ay];exact bC (by omega)) (Rd.part (m.rd 0 rfl))) ((show Value.agg (aQ ((l.drop i).take 4)).toArray=KN ⟨ee l i,bC (by omega)⟩from rfl)))<|cm (fun m=>yV (jC (enc:=(KN (n:=4))) (k:=⟨ee l i,bC (by omega)⟩) rfl rfl Tryz.underlying357 DA (x6 Tryz.underlying364 Tryz.underlying5 (by kernel_rfl) (by kernel_rfl) (by kernel_rfl)) (m.pk 1 rfl)) ((show gE false (.slice none 0 0) (bY (ja es1) ⟨ee l i,bC (by omega)⟩)= .slice none 0 0 by rw[kF,hq];rfl)))<| ?_
   refine eb (aq rfl Tryz.call271 (Cr) [] rfl [] rfl ?_)
   rintro _ _ _ ⟨gB,rfl,rfl,rfl⟩
   refine⟨(fun _=>wk [1,1,1,1,1,1,1] [0] rfl rfl), ?_⟩
   refine bF<|al (ρ' :=[(37,_),(7,_),(6,_),(18,_),(5,_),(4,_),(3,_),(2,_),(0,_),(1,_)]) ⟨rfl,rfl,rfl,rfl,rfl,rfl,rfl,rfl,rfl,rfl,trivial⟩<|ak (X' :=[_,_,_,_,_,_,_,_]) (S' :=[_]) (fun _ m=>m)<|ag<| ?_
   have hlt:∀z∈([]:List Nat),z<i:=fun z hz=>by cases hz
   refine xZ (σ:=Nat×Nat) (α:={x:Nat×Nat//x.2<i}) (ρ' :=[]) (fun s_:Nat×Nat=>[aJ g6 3 [.int .i64 (s_.1:Nat)],aJ g7 3 [.int .i64 (s_.2:Nat)],aJ g3 3 [.int .i64 (i:Nat)],aJ g2 322 [.pointer (some ⟨g,0,none⟩)],aJ g 359 [.slice (some a) n c,.map (some gm),.int .i64 (i:Nat)]]) (0,0) (fun s_ x_=>fB l i s_ x_.1.2) (fun s_ x_=>1024<i-x_.1.2) (fun x_=>[.int .i64 (x_.1.1:Nat),.int .i64 (x_.1.2:Nat)]) (eE (([]:List Nat)) i hlt) (fun x_=>[(9,.int .i64 (x_.1.2:Nat))]) [(37,_),(7,_),(6,_),(18,_),(5,_),(4,_),(3,_),(2,_),(0,_),(1,_)] ⟨rfl,rfl,rfl,rfl,rfl,rfl,rfl,rfl,rfl,rfl,trivial⟩ rfl Tryz.call297 [5,4,4,4,1] rfl (fun s_ k_=>by simp[dr,aJ]) [0] rfl (fun w m=>oL Fence.wide 2 trivial rfl (by decide) (zs:=lh (([]:List Nat))) (e:=3) (eE (([]:List Nat)) i hlt) (fun x_=>[.int .i64 (x_.1.1:Nat),.int .i64 (x_.1.2:Nat)]) (by rw[gS,eC]) (yO _ _ _) (by rw[eC];first|omega|simp) (aA (m.aX 0 rfl) rfl) (m.off (is:=[5,4,4,4,1]) rfl 0 rfl rfl) (Go.Eng.Own.nil _ _ _ _) (fun k hk=>hk.elim)) (fun _=>rfl) (by decide) (fun _ _ ha_=>yX rfl (by decide) (by decide) ha_) (fun l_ b_ s_ x_ Q_ h_=> ?_) (fun l_ b s_ x_=> ?_) (fun Dk_ s_ hs_=> ?_)
   ·exact qQ (hy (fun _=>ab rfl) ((ai (by refine al ?_ h_;exact⟨rfl,rfl,rfl,rfl,rfl,rfl,rfl,rfl,rfl,rfl,rfl,trivial⟩))))
   ·obtain⟨u1,u2⟩:=s_
    obtain⟨⟨j,q⟩,hq2⟩:=x_
    try dsimp only
    have hq2:q<i:=hq2
    refine vy<|ny<|ny<|qQ<|hy (fun m=>aw rfl fG (aA (m.aX 2 rfl) rfl))<|hy (fun _=>aa rfl)<|hy (fun _=>cg rfl rfl (bE (by omega) (by omega)))<|hy (fun _=>cQ rfl rfl)<|ai<|al (ρ' :=[(43,_),(9,_),(37,_),(7,_),(6,_),(18,_),(5,_),(4,_),(3,_),(2,_),(0,_),(1,_)]) ⟨rfl,rfl,rfl,rfl,rfl,rfl,rfl,rfl,rfl,rfl,rfl,rfl,trivial⟩<|kl<| ?_
    refine BQ rfl (fun hb=> ?_) (fun hb=> ?_)
    ·refine zc<|ao<|k9 (by decide)<| ?_
     exact qF [0,0,0,0,0] rfl [0] rfl ((show 1024<i-q by omega))
    ·refine oo<|kl<|ny<|Ce [6] [(0,some 0),(1,some 0),(2,some 0),(3,some 0),(4,some 0),(5,some 0),(6,none),(7,some 1)] (by kernel_rfl) (by kernel_rfl) rfl 99<|cm (fun m=>aw rfl nC (aA (m.aX 3 rfl) rfl))<|an (bd rfl)<|an (aL rfl jx (by decide))<|cm (fun m=>aw rfl dU (aA (m.aX 4 rfl) rfl))<|cm (fun m=>aw rfl fG (aA (m.aX 2 rfl) rfl))<|an (aa rfl)<| ?_
     refine eb (aq rfl Tryz.call272 (Co (by omega) hl (by omega) (by omega)) [] rfl [0] rfl ?_)
     rintro _ _ _ ⟨rfl,rfl,rfl⟩
     refine⟨(fun _=>wk [0,0,0,0,0] [0] rfl rfl), ?_⟩
     refine an (ab rfl)<|bF<|al (ρ' :=[(10,_),(43,_),(9,_),(37,_),(7,_),(6,_),(18,_),(5,_),(4,_),(3,_),(2,_),(0,_),(1,_)]) ⟨rfl,rfl,rfl,rfl,rfl,rfl,rfl,rfl,rfl,rfl,rfl,rfl,rfl,trivial⟩<|ak (X' :=[_,_,_,_,_]) (S' :=[_]) (fun _ m=>m)<|kl<|ny<|qQ<|hy (fun _=>aa rfl)<|hy (fun m=>aw rfl fG (aA (m.aX 0 rfl) rfl))<|hy (fun _=>cQ rfl rfl)<|ai<|al (ρ' :=[(53,_),(10,_),(43,_),(9,_),(37,_),(7,_),(6,_),(18,_),(5,_),(4,_),(3,_),(2,_),(0,_),(1,_)]) ⟨rfl,rfl,rfl,rfl,rfl,rfl,rfl,rfl,rfl,rfl,rfl,rfl,rfl,rfl,trivial⟩<|kl<| ?_
     refine BQ rfl (fun hx1=> ?_) (fun hx1=> ?_)
     ·refine xH [2,2,2] [0] rfl rfl [4,5] [(0,some 0),(1,some 1),(2,some 1),(3,some 1),(4,none),(5,none)] (by kernel_rfl) (by kernel_rfl) rfl 99<|an (aa rfl)<|cm (fun m=>aw rfl fG (aA (m.aX 0 rfl) rfl))<|an (aa rfl)<|an (yV (cg rfl rfl (bE (by omega) (by omega))) ((show Value.int .i64 ((i:Int)-(q:Int))= .int .i64 ((i-q:Nat):Int) by congr 1;omega)))<| ?_
      refine jY (dF 0 rfl rfl rfl tG rfl (by first|exact Nat.le_of_ble_eq_true rfl|simp) ⟨(fun _=>wk [2,2,2] [0] rfl rfl), ?_⟩)
      refine jY (dF 1 rfl rfl rfl tG rfl (by first|exact Nat.le_of_ble_eq_true rfl|simp) ⟨(fun _=>wk [2,2,2] [0] rfl rfl), ?_⟩)
      refine bF<|al (ρ' :=[(53,_),(10,_),(43,_),(9,_),(37,_),(7,_),(6,_),(18,_),(5,_),(4,_),(3,_),(2,_),(0,_),(1,_)]) ⟨rfl,rfl,rfl,rfl,rfl,rfl,rfl,rfl,rfl,rfl,rfl,rfl,rfl,rfl,trivial⟩<|ak (X' :=[_,_,_,_,_]) (S' :=[_]) (fun _ m=>m)<|aS<| ?_
      exact kE (lv l i q,i-q) (by show fB l i (u1,u2) q=_;unfold fB;rw[if_neg (by omega),if_pos (by show u1<_;omega)]) [1,0,0,0,0] rfl [0] rfl
     ·refine oo<|aS<| ?_
      exact kE (u1,u2) (by show fB l i (u1,u2) q=_;unfold fB;rw[if_neg (by omega),if_neg (by show¬u1<_;omega)]) [0,0,0,0,0] rfl [0] rfl
   ·obtain⟨u1,u2⟩:=s_
    have ai:=oG e0.symm (by omega) hlt hs_
    have hu1:u1=(aT l i).1:=congrArg Prod.fst ai
    have hu2:u2=(aT l i).2:=congrArg Prod.snd ai
    refine ag<|ah<|cT [] [(0,some 0),(1,some 0),(2,some 0),(3,some 0)] (by kernel_rfl) (by kernel_rfl) rfl 99<|cm (fun m=>aw rfl fG (aA (m.aX 1 rfl) rfl))<|cm (fun m=>aw rfl fG (aA (m.aX 2 rfl) rfl))<|an (ab rfl)<|an (ab rfl)<|bF<|al (ρ' :=[(5,_),(4,_),(37,_),(7,_),(6,_),(18,_),(3,_),(2,_),(0,_),(1,_)]) ⟨rfl,rfl,rfl,rfl,rfl,rfl,rfl,rfl,rfl,rfl,trivial⟩<|ag<|aV<| ?_
    refine Fp trivial [0] rfl ?_
    skip
    refine ak (X' :=na g gm (some a) n c i es1::_) (fun w m=>(m.perm (ar [4,5,5] _ [_,_,_] _ rfl)).pack) ?_
    exact tI trivial rfl rfl rfl [0] rfl [] rfl ⟨i,es1,(by rw[←hu1,←hu2]),rfl,rfl,⟨Nat.le_refl _,hF1⟩⟩
  ·have e0:=tw hF1 hq
   refine cT [15] [(0,some 1),(1,some 0),(2,some 0),(3,some 0),(4,some 1),(5,some 1),(6,some 1),(7,some 1),(8,some 1),(9,some 1),(10,some 1),(11,some 0),(12,some 0),(13,some 0),(14,some 0),(15,none)] (by kernel_rfl) (by kernel_rfl) rfl 99<|cm (fun m=>aw rfl nC (aA (m.aX 6 rfl) rfl))<|an (bd rfl)<|an (aL rfl rb (by decide))<|cm (fun m=>aw rfl yY (aA (m.aX 0 rfl) rfl))<|cm (fun m=>aw rfl nC (aA (m.aX 6 rfl) rfl))<|an (bd rfl)<|an (aL rfl jx (by decide))<|cm (fun m=>aw rfl dU (aA (m.aX 0 rfl) rfl))<|cm (fun m=>aw rfl fG (aA (m.aX 5 rfl) rfl))<|cm (fun m=>aw rfl fG (aA (m.aX 5 rfl) rfl))<|an (aN rfl rfl (bE (by omega) (by omega)))<|an (yV (eA rfl rfl rfl Tryz.underlying27 dW rfl (show((i+4:Nat):Int)=_ by omega) (by omega) (by omega)) ((show Value.slice (if c=i then some a else(some a).map (·.add (i*1))) (i+4-i) (c-i)= .slice (some (a.add i)) 4 (c-i) by rw[if_neg (by omega),Nat.mul_one,Nat.add_sub_cancel_left];rfl)))<|an (n7 rfl Tryz.underlying364 (by omega))<|cm (fun m=>yV (a7 rfl uX sT (by rw[ay];exact bC (by omega)) (Rd.part (m.rd 0 rfl))) ((show Value.agg (aQ ((l.drop i).take 4)).toArray=KN ⟨ee l i,bC (by omega)⟩from rfl)))<|cm (fun m=>yV (jC (enc:=(KN (n:=4))) (k:=⟨ee l i,bC (by omega)⟩) rfl rfl Tryz.underlying357 DA (x6 Tryz.underlying364 Tryz.underlying5 (by kernel_rfl) (by kernel_rfl) (by kernel_rfl)) (m.pk 1 rfl)) ((show gE false (.slice none 0 0) (bY (ja es1) ⟨ee l i,bC (by omega)⟩)= .slice x.A x.l.length x.c by rw[kF,hq];rfl)))<| ?_
   refine eb (aq rfl Tryz.call271 (Cr) [] rfl [] rfl ?_)
   rintro _ _ _ ⟨gB,rfl,rfl,rfl⟩
   refine⟨(fun _=>wk [1,1,1,1,1,1,1] [0] rfl rfl), ?_⟩
   refine bF<|al (ρ' :=[(37,_),(7,_),(6,_),(18,_),(5,_),(4,_),(3,_),(2,_),(0,_),(1,_)]) ⟨rfl,rfl,rfl,rfl,rfl,rfl,rfl,rfl,rfl,rfl,trivial⟩<|ak (X' :=[_,_,_,_,_,_,_,_]) (S' :=[_]) (fun _ m=>m)<|ag<| ?_
   have hlt:∀z∈x.l,z<i:=fun z hz=>(By (e0▸hz)).1
   have hxl:x.l.length≤n:=by rw[e0];exact Nat.le_trans (np _ _ _) (by omega)
   obtain⟨j,hj1,_⟩:=kr hq
   refine bw (X' :=aG 3 1 (.slice x.A x.l.length x.c) x.l.length (Ar x.l)::_) (fun w m=>(m.perm (ar [3] _ [_] _ rfl)).tc j hj1) ?_
   refine xZ (σ:=Nat×Nat) (α:={x:Nat×Nat//x.2<i}) (ρ' :=[]) (fun s_:Nat×Nat=>[aJ g6 3 [.int .i64 (s_.1:Nat)],aJ g7 3 [.int .i64 (s_.2:Nat)],aJ g3 3 [.int .i64 (i:Nat)],aJ g2 322 [.pointer (some ⟨g,0,none⟩)],aJ g 359 [.slice (some a) n c,.map (some gm),.int .i64 (i:Nat)]]) (0,0) (fun s_ x_=>fB l i s_ x_.1.2) (fun s_ x_=>1024<i-x_.1.2) (fun x_=>[.int .i64 (x_.1.1:Nat),.int .i64 (x_.1.2:Nat)]) (eE (x.l) i hlt) (fun x_=>[(9,.int .i64 (x_.1.2:Nat))]) [(37,_),(7,_),(6,_),(18,_),(5,_),(4,_),(3,_),(2,_),(0,_),(1,_)] ⟨rfl,rfl,rfl,rfl,rfl,rfl,rfl,rfl,rfl,rfl,trivial⟩ rfl Tryz.call297 [6,5,5,5,3] rfl (fun s_ k_=>by simp[dr,aJ]) [0] rfl (fun w m=>oL Fence.wide 2 trivial rfl (by decide) (zs:=lh (x.l)) (e:=3) (eE (x.l) i hlt) (fun x_=>[.int .i64 (x_.1.1:Nat),.int .i64 (x_.1.2:Nat)]) (by rw[gS,eC]) (yO _ _ _) (by rw[eC];first|omega|simp) (aA (m.aX 2 rfl) rfl) (m.off (is:=[6,5,5,5,3]) rfl 2 rfl rfl) (xY (m.own 0 rfl)) (fun k hk=>m.off (is:=[6,5,5,5,3]) rfl 0 rfl hk)) (fun _=>rfl) (by decide) (fun _ _ ha_=>yX rfl (by decide) (by decide) ha_) (fun l_ b_ s_ x_ Q_ h_=> ?_) (fun l_ b s_ x_=> ?_) (fun Dk_ s_ hs_=> ?_)
   ·exact qQ (hy (fun _=>ab rfl) ((ai (by refine al ?_ h_;exact⟨rfl,rfl,rfl,rfl,rfl,rfl,rfl,rfl,rfl,rfl,rfl,trivial⟩))))
   ·obtain⟨u1,u2⟩:=s_
    obtain⟨⟨j,q⟩,hq2⟩:=x_
    try dsimp only
    have hq2:q<i:=hq2
    refine vy<|ny<|ny<|qQ<|hy (fun m=>aw rfl fG (aA (m.aX 2 rfl) rfl))<|hy (fun _=>aa rfl)<|hy (fun _=>cg rfl rfl (bE (by omega) (by omega)))<|hy (fun _=>cQ rfl rfl)<|ai<|al (ρ' :=[(43,_),(9,_),(37,_),(7,_),(6,_),(18,_),(5,_),(4,_),(3,_),(2,_),(0,_),(1,_)]) ⟨rfl,rfl,rfl,rfl,rfl,rfl,rfl,rfl,rfl,rfl,rfl,rfl,trivial⟩<|kl<| ?_
    refine BQ rfl (fun hb=> ?_) (fun hb=> ?_)
    ·refine zc<|ao<|k9 (by decide)<| ?_
     exact qF [0,0,0,0,0] rfl [0] rfl ((show 1024<i-q by omega))
    ·refine oo<|kl<|ny<|Ce [6] [(0,some 0),(1,some 0),(2,some 0),(3,some 0),(4,some 0),(5,some 0),(6,none),(7,some 1)] (by kernel_rfl) (by kernel_rfl) rfl 99<|cm (fun m=>aw rfl nC (aA (m.aX 3 rfl) rfl))<|an (bd rfl)<|an (aL rfl jx (by decide))<|cm (fun m=>aw rfl dU (aA (m.aX 4 rfl) rfl))<|cm (fun m=>aw rfl fG (aA (m.aX 2 rfl) rfl))<|an (aa rfl)<| ?_
     refine eb (aq rfl Tryz.call272 (Co (by omega) hl (by omega) (by omega)) [] rfl [0] rfl ?_)
     rintro _ _ _ ⟨rfl,rfl,rfl⟩
     refine⟨(fun _=>wk [0,0,0,0,0] [0] rfl rfl), ?_⟩
     refine an (ab rfl)<|bF<|al (ρ' :=[(10,_),(43,_),(9,_),(37,_),(7,_),(6,_),(18,_),(5,_),(4,_),(3,_),(2,_),(0,_),(1,_)]) ⟨rfl,rfl,rfl,rfl,rfl,rfl,rfl,rfl,rfl,rfl,rfl,rfl,rfl,trivial⟩<|ak (X' :=[_,_,_,_,_]) (S' :=[_]) (fun _ m=>m)<|kl<|ny<|qQ<|hy (fun _=>aa rfl)<|hy (fun m=>aw rfl fG (aA (m.aX 0 rfl) rfl))<|hy (fun _=>cQ rfl rfl)<|ai<|al (ρ' :=[(53,_),(10,_),(43,_),(9,_),(37,_),(7,_),(6,_),(18,_),(5,_),(4,_),(3,_),(2,_),(0,_),(1,_)]) ⟨rfl,rfl,rfl,rfl,rfl,rfl,rfl,rfl,rfl,rfl,rfl,rfl,rfl,rfl,trivial⟩<|kl<| ?_
     refine BQ rfl (fun hx1=> ?_) (fun hx1=> ?_)
     ·refine xH [2,2,2] [0] rfl rfl [4,5] [(0,some 0),(1,some 1),(2,some 1),(3,some 1),(4,none),(5,none)] (by kernel_rfl) (by kernel_rfl) rfl 99<|an (aa rfl)<|cm (fun m=>aw rfl fG (aA (m.aX 0 rfl) rfl))<|an (aa rfl)<|an (yV (cg rfl rfl (bE (by omega) (by omega))) ((show Value.int .i64 ((i:Int)-(q:Int))= .int .i64 ((i-q:Nat):Int) by congr 1;omega)))<| ?_
      refine jY (dF 0 rfl rfl rfl tG rfl (by first|exact Nat.le_of_ble_eq_true rfl|simp) ⟨(fun _=>wk [2,2,2] [0] rfl rfl), ?_⟩)
      refine jY (dF 1 rfl rfl rfl tG rfl (by first|exact Nat.le_of_ble_eq_true rfl|simp) ⟨(fun _=>wk [2,2,2] [0] rfl rfl), ?_⟩)
      refine bF<|al (ρ' :=[(53,_),(10,_),(43,_),(9,_),(37,_),(7,_),(6,_),(18,_),(5,_),(4,_),(3,_),(2,_),(0,_),(1,_)]) ⟨rfl,rfl,rfl,rfl,rfl,rfl,rfl,rfl,rfl,rfl,rfl,rfl,rfl,rfl,trivial⟩<|ak (X' :=[_,_,_,_,_]) (S' :=[_]) (fun _ m=>m)<|aS<| ?_
      exact kE (lv l i q,i-q) (by show fB l i (u1,u2) q=_;unfold fB;rw[if_neg (by omega),if_pos (by show u1<_;omega)]) [1,0,0,0,0] rfl [0] rfl
     ·refine oo<|aS<| ?_
      exact kE (u1,u2) (by show fB l i (u1,u2) q=_;unfold fB;rw[if_neg (by omega),if_neg (by show¬u1<_;omega)]) [0,0,0,0,0] rfl [0] rfl
   ·obtain⟨u1,u2⟩:=s_
    have ai:=oG e0 (by omega) hlt hs_
    have hu1:u1=(aT l i).1:=congrArg Prod.fst ai
    have hu2:u2=(aT l i).2:=congrArg Prod.snd ai
    refine ag<|ah<|cT [] [(0,some 0),(1,some 0),(2,some 0),(3,some 0)] (by kernel_rfl) (by kernel_rfl) rfl 99<|cm (fun m=>aw rfl fG (aA (m.aX 1 rfl) rfl))<|cm (fun m=>aw rfl fG (aA (m.aX 2 rfl) rfl))<|an (ab rfl)<|an (ab rfl)<|bF<|al (ρ' :=[(5,_),(4,_),(37,_),(7,_),(6,_),(18,_),(3,_),(2,_),(0,_),(1,_)]) ⟨rfl,rfl,rfl,rfl,rfl,rfl,rfl,rfl,rfl,rfl,trivial⟩<|ag<|aV<| ?_
    refine Fp trivial [0] rfl ?_
    refine ak (X' :=fv (fD es1)::_) (fun w m=>(Mem.rI (m.perm (ar [5,5] _ [_,_] _ rfl))).mu (Ek hj1)) ?_
    refine ak (X' :=na g gm (some a) n c i es1::_) (fun w m=>(m.perm (ar [5,6,0] _ [_,_,_] _ rfl)).pack) ?_
    exact tI trivial rfl rfl rfl [0] rfl [] rfl ⟨i,es1,(by rw[←hu1,←hu2]),rfl,rfl,⟨Nat.le_refl _,hF1⟩⟩
end Go.Proofs.YtmibdabdlgmafaaGreatDoor
end
section
namespace Go.Eng
open Go.RowKit
theorem rP{P:Program}{Q:Exit→Act→World→Prop}{ι:Type}{c rest:Code}(l:Nat)(J:ι→Act→World→Prop)(μ:ι→Nat)(hf:findLabel c l=some rest){a:Act}{w:World}
  (first:c.wp P (Exit.jump l (fun a w=>∃j,J j a w) Q) a w)
  (pass:∀i a w,J i a w→rest.wp P (Exit.jump l (fun a' w' =>∃j,J j a' w' ∧μ j<μ i) Q) a w):(Code.scope c).wp P Q a w:=by
 intro b k cs
 have hg:gotoIn l (.inScope c::k)=some (.code rest:: .inScope c::k):=by simp[gotoIn,hf]
 have key:∀n i a w,μ i=n→J i a w→∃e a' w',Q e a' w' ∧Arrives P (lone (b.at a (.code rest:: .inScope c::k)) cs w) b k cs e a' w' :=by
  intro n
  induction n using Nat.strongRecOn with
  |_ n ih=>
   intro i a w hn hJ
   obtain⟨e,a₁,w₁,hq,harr⟩:=pass i a w hJ b (.inScope c::k) cs
   cases e with
   |normal=>exact⟨.normal,a₁,w₁,hq,Steps.trans harr (.one step_inScope)⟩
   |exit id=>exact⟨.exit id,a₁,w₁,hq,fun k' hk=>harr k' (by simp[exitTo,hk])⟩
   |goto l' =>
    obtain⟨rfl,j,hJ',hlt⟩:=hq
    obtain⟨e₂,a₂,w₂,hq₂,harr₂⟩:=ih _ (by omega) j a₁ w₁ rfl hJ'
    exact⟨e₂,a₂,w₂,hq₂,.of_steps (harr _ hg) harr₂⟩
   |ret=>exact⟨_,a₁,w₁,hq,harr⟩
   |panic ch=>exact⟨_,a₁,w₁,hq,harr⟩
   |outgrown=>exact⟨_,a₁,w₁,hq,harr⟩
 obtain⟨e,a₁,w₁,hq,harr⟩:=first b (.inScope c::k) cs
 cases e with
 |normal=>exact⟨.normal,a₁,w₁,hq,.head step_scope (Steps.trans harr (.one step_inScope))⟩
 |exit id=>exact⟨.exit id,a₁,w₁,hq,fun k' hk=>.head step_scope (harr k' (by simp[exitTo,hk]))⟩
 |goto l' =>
  obtain⟨rfl,j,hJ'⟩:=hq
  obtain⟨e₂,a₂,w₂,hq₂,harr₂⟩:=key _ j a₁ w₁ rfl hJ'
  exact⟨e₂,a₂,w₂,hq₂,.of_steps (.head step_scope (harr _ hg)) harr₂⟩
 |ret=>exact⟨_,a₁,w₁,hq,.of_steps (.one step_scope) harr⟩
 |panic ch=>exact⟨_,a₁,w₁,hq,.of_steps (.one step_scope) harr⟩
 |outgrown=>exact⟨_,a₁,w₁,hq,.of_steps (.one step_scope) harr⟩
section
variable{P:Program}{Q:Exit→Act→World→Prop}{N:Nat}{D:List Deferred}{ρ:Env}{b:cw}{X S:List bg}{c:Code}
theorem D3{ι:Type}{l:Nat}{rest:Code}(μ:ι→Nat)(R:ι→Env)(X1 S1:ι→List bg)(I:ι→Prop)(ρk:Env)(Xr Sr:List bg)(hf:findLabel c l=some rest)
  (first:HC P (Exit.jump l (fun a' w' =>∃j,Ag N D (R j++ρk) a' ∧Mem b (X1 j++Xr) (S1 j++Sr) w' ∧I j) Q) N D c ρ b X S)
  (pass:∀i,I i→HC P (Exit.jump l (fun a' w' =>∃j,Ag N D (R j++ρk) a' ∧Mem b (X1 j++Xr) (S1 j++Sr) w' ∧I j∧μ j<μ i) Q) N D rest (R i++ρk) b (X1 i++Xr) (S1 i++Sr)):HC P Q N D (.scope c) ρ b X S:=fun w m a ha=>
 rP l (fun j a' w' =>Ag N D (R j++ρk) a' ∧Mem b (X1 j++Xr) (S1 j++Sr) w' ∧I j) μ hf (first w m a ha)
  (fun i a' w' h=>Code.wp_mono (fun e a' w' q=>by
   cases e <;> first|exact q|(obtain⟨h0,j,h1,h2,h3,h4⟩:=q;exact⟨h0,j,⟨h1,h2,h3⟩,h4⟩)) (pass i h.2.2 w' h.2.1 a' h.1))
theorem ym{l:Nat}(h:HQ Q N D (.goto l) ρ b X S):HC P Q N D (.goto l) ρ b X S:=fun w m a ha=>wp_goto (h w m a ha)
theorem ud{K:Act→World→Prop}{l:Nat}(h:HQ Q N D (.goto l) ρ b X S):HQ (Exit.then K Q) N D (.goto l) ρ b X S:=h
theorem wG{l:Nat}{J:Act→World→Prop}(h:HQ Q N D .ret ρ b X S):HQ (Exit.jump l J Q) N D .ret ρ b X S:=h
theorem DJ{l:Nat}{J:Act→World→Prop}{r:Code}(h:HQ (Exit.jump l J Q) N D (.goto l) ρ b X S)(k:∀a w,J a w→r.wp P (Exit.jump l J Q) a w):HC P (Exit.jump l J Q) N D (.seq (.label l) r) ρ b X S:=fun w m a ha=>wp_seq (wp_label (k a w (h w m a ha).2))
theorem B3{α:Type}{l:Nat}{rest:Code}(μ:α→Nat)(R:α→Env)(X1 S1:α→List bg)(I:α→Prop)(ρk:Env)(Xr Sr:List bg)(hf:findLabel c l=some rest)
  (first:HC P (Exit.jump l (fun a' w' =>∃x,Ag N D (R x++ρk) a' ∧Mem b (X1 x++Xr) (S1 x++Sr) w' ∧I x) Q) N D c ρ b X S)
  (pass:∀a,I a→HC P (Exit.jump l (fun a' w' =>∃x,Ag N D (R x++ρk) a' ∧Mem b (X1 x++Xr) (S1 x++Sr) w' ∧I x∧μ x<μ a) Q) N D rest (R a++ρk) b (X1 a++Xr) (S1 a++Sr)):HC P Q N D (.scope c) ρ b X S:=
 D3 (ι:=α) (fun i=>μ i) (fun i=>R i) (fun i=>X1 i) (fun i=>S1 i) (fun i=>I i) ρk Xr Sr hf
  (fun w m a ha=>Code.wp_mono (fun e a' w' q=>by
   cases e <;> first|exact q|(obtain⟨h0,x,h⟩:=q;exact⟨h0,x,h⟩)) (first w m a ha))
  (fun i hi w m a ha=>Code.wp_mono (fun e a' w' q=>by
   cases e <;> first|exact q|(obtain⟨h0,x,h⟩:=q;exact⟨h0,x,h⟩)) (pass i hi w m a ha))
theorem xM{α:Type}{l:Nat}{r:Code}(μ:α→Nat)(R:α→Env)(X1 S1:α→List bg)(I:α→Prop)(ρk:Env)(hk:e7 ρk ρ)(is:List Nat){Xt Xr:List bg}(hX:bR is X=some (Xt,Xr))(hf:findLabel c l=some (.seq .skip r))
  (pass:∀a,I a→HC P (Exit.jump l (fun a' w' =>∃x,Ag N D (R x++ρk) a' ∧Mem b (X1 x++Xr) (S1 x++S) w' ∧I x∧μ x<μ a) Q) N D r (R a++ρk) b (X1 a++Xr) (S1 a++S))
  (first:(∀a w,(∃x,Ag N D (R x++ρk) a∧Mem b (X1 x++Xr) (S1 x++S) w∧I x)→r.wp P (Exit.jump l (fun a' w' =>∃x,Ag N D (R x++ρk) a' ∧Mem b (X1 x++Xr) (S1 x++S) w' ∧I x) Q) a w)→
   HC P (Exit.jump l (fun a' w' =>∃x,Ag N D (R x++ρk) a' ∧Mem b (X1 x++Xr) (S1 x++S) w' ∧I x) Q) N D c ρ b X S):HC P Q N D (.scope c) ρ b X S:=
 B3 (l:=l) (rest:=.seq .skip r) μ R X1 S1 I ρk Xr S hf
  (first fun a w h=>by
   obtain⟨x,h1,h2,h3⟩:=h
   exact Code.wp_mono (fun e a' w' q=>by
    cases e <;> first|exact q|(obtain⟨h0,x_,g1,g2,g3,g4⟩:=q;exact⟨h0,x_,g1,g2,g3⟩)) (pass x h3 w h2 a h1))
  (fun a h=>fun w m a9 ha=>wp_seq (wp_skip (pass a h w m a9 ha)))
theorem zh{α:Type}{l M:Nat}{μ:α→Nat}{R:α→Env}{X1 S1:α→List bg}{Xr Sr:List bg}{ρ0:Env}{I:α→Prop}(x:α)(hs:e7 (R x++ρ0) ρ)(is:List Nat){Xz:List bg}(hX:bR is X=some (X1 x++Xr,Xz))(js:List Nat)(hS:dJ js S=some (S1 x++Sr))(hI:I x)(hlt:μ x<M):
  HQ (Exit.jump l (fun a' w' =>∃x,Ag N D (R x++ρ0) a' ∧Mem b (X1 x++Xr) (S1 x++Sr) w' ∧I x∧μ x<M) Q) N D (.goto l) ρ b X S:=
 fun w m a ha=>⟨rfl,x,ha.sub hs.sub,((m.perm (ar _ _ _ _ hX)).kn).lx (b9 _ _ _ hS),hI,hlt⟩
theorem CO{α:Type}{l:Nat}{R:α→Env}{X1 S1:α→List bg}{Xr Sr:List bg}{ρ0:Env}{I:α→Prop}(x:α)(hs:e7 (R x++ρ0) ρ)(is:List Nat){Xz:List bg}(hX:bR is X=some (X1 x++Xr,Xz))(js:List Nat)(hS:dJ js S=some (S1 x++Sr))(hI:I x):
  HQ (Exit.jump l (fun a' w' =>∃x,Ag N D (R x++ρ0) a' ∧Mem b (X1 x++Xr) (S1 x++Sr) w' ∧I x) Q) N D (.goto l) ρ b X S:=
 fun w m a ha=>⟨rfl,x,ha.sub hs.sub,((m.perm (ar _ _ _ _ hX)).kn).lx (b9 _ _ _ hS),hI⟩
end
end Go.Eng
end
section
set_option maxRecDepth 20000
set_option maxHeartbeats 2000000
namespace Go.Proofs.YtmibdabdlgmafaaGreatDoor
open Go.Eng Go.Hx
theorem Ew{g0 g1:Nat}{A1 A2:Option Addr}{c1 c2:Nat}{own out:List UInt8}(hlen:out.length+2*own.length≤4000000000):cf Tryz.prog 230 [.pointer (some ⟨g0,0,none⟩),.pointer (some ⟨g1,0,none⟩)] [aJ g0 27 [.slice A1 own.length c1],aG 5 1 (.slice A1 own.length c1) own.length (aQ own),aJ g1 27 [.slice A2 out.length c2],aG 5 1 (.slice A2 out.length c2) out.length (aQ out)] [] (fun v_ X_ S_=>∃A3 A4 c3 c4,v_=(.tuple #[])∧X_=[aJ g0 27 [.slice A3 0 c3],aG 5 1 (.slice A3 0 c3) 0 [],aJ g1 27 [.slice A4 (out++ef own).length c4],aG 5 1 (.slice A4 (out++ef own).length c4) (out++ef own).length (aQ (out++ef own))]∧S_=[]):=by
 obtain⟨o0,ho0⟩:∃o0,o0=out++ef own:=⟨_,rfl⟩
 rw[←ho0]
 refine aO (N:=22) Tryz.func230 rfl rfl (by simp) fun b=> ?_
 refine aK<| ?_
 refine oU (fun own out A1 c1 A2 c2=>own.length) (fun own out A1 c1 A2 c2=>[]) (fun own out A1 c1 A2 c2=>[aJ g0 27 [.slice A1 own.length c1],aG 5 1 (.slice A1 own.length c1) own.length (aQ own),aJ g1 27 [.slice A2 out.length c2],aG 5 1 (.slice A2 out.length c2) out.length (aQ out)]) (fun own out A1 c1 A2 c2=>[]) (fun own out A1 c1 A2 c2=>out.length+2*own.length≤4000000000∧out++ef own=o0) own out A1 c1 A2 c2 [(0,_),(1,_)] ⟨rfl,rfl,trivial⟩ [0,0,0,0] rfl [] rfl (⟨hlen,ho0.symm⟩) trivial (fun own out A1 c1 A2 c2 ⟨hlen,hE⟩=> ?_)
 refine ah<|ah<|aj<|hy (fun m=>aw rfl dU (aA (m.aX 0 rfl) rfl))<|hy (fun _=>aW rfl Tryz.underlying27)<|hy (fun _=>cQ rfl rfl)<|ai<|al (ρ' :=[(5,_),(0,_),(1,_)]) ⟨rfl,rfl,rfl,trivial⟩<|ag<| ?_
 refine cC rfl (fun h0=> ?_) (fun h0=> ?_)
 ·have hne:own≠ []:=fun e=>by rw[e]at h0;exact absurd h0 (by decide)
  rw[kC hne]at hE
  obtain⟨k,hk⟩:∃k,k=min own.length 128:=⟨_,rfl⟩
  have hk1:1≤k∧k≤128∧k≤own.length:=by omega
  rw[←hk]at hE
  have htk:own.take 128=own.take k:=by
   rcases Nat.lt_or_ge own.length 128 with h|h
   ·rw[List.take_of_length_le (by omega),List.take_of_length_le (by omega)]
   ·rw[show k=128 by omega]
  have hdk:own.drop 128=own.drop k:=by
   rcases Nat.lt_or_ge own.length 128 with h|h
   ·rw[List.drop_of_length_le (by omega),List.drop_of_length_le (by omega)]
   ·rw[show k=128 by omega]
  rw[htk,hdk]at hE
  refine a6 (fun m=>(Own.rd (m.own 1 rfl)).2.1) fun hc1=> ?_
  refine aD<|ag<|aK<|ah<|aj<|hy (fun m=>aw rfl dU (aA (m.aX 0 rfl) rfl))<|hy (fun _=>aW rfl Tryz.underlying27)<|hy (fun _=>yV (yD rfl rfl) ((show Value.int .i64 _= .int .i64 (k:Nat) by congr 1;omega)))<|hy (fun _=>ab rfl)<|ai<|al (ρ' :=[(2,_),(5,_),(0,_),(1,_)]) ⟨rfl,rfl,rfl,rfl,trivial⟩<|ag<|ah<|qe [0,0,0] [] rfl rfl [4,5,9,10] [(0,some 1),(1,some 3),(2,some 0),(3,some 0),(6,some 2),(7,some 2),(8,some 2),(4,none),(5,none),(9,none),(10,none)] (by kernel_rfl) (by kernel_rfl) rfl 3<|cm (fun m=>aw rfl dU (aA (m.aX 2 rfl) rfl))<|an (aa rfl)<|an (yV (cg rfl rfl (bE (by omega) (by omega))) ((show Value.int .i64 ((k:Int)-1)= .int .i64 ((k-1:Nat):Int) by congr 1;omega)))<|an (yV (bT rfl Tryz.underlying3 Tryz.underlying5 (gA (k-1))) ((show Value.int .u8 _=B8 (UInt8.ofNat (k-1))from rfl)))<|cm (fun m=>aw rfl dU (aA (m.aX 0 rfl) rfl))<|an (aa rfl)<|an (rN rfl rfl Tryz.underlying27 dW rfl (by omega))<| ?_
  refine eb (b4 Tryz.underlying27 eO rfl rfl rfl (by simp[Value.cells,B8]) (by decide) (by decide) (fun g13=>⟨(fun _=>wk [1,1,1] [] rfl rfl), ?_⟩))
  have hA_b13:0<1→(some (⟨g13,0,none⟩:Addr))≠none:=fun _ h=>by cases h
  refine eb (bI 4 rfl rfl rfl Tryz.underlying27 Tryz.underlying27 (by exact .inl rfl) eO rfl (fun m=>Src.bZ (m.ord 0 rfl)) (aR (l:=[UInt8.ofNat (k-1)])) (by unfold maxLen;omega) (by omega) (fun u=>⟨(fun _=>wk [2,2,2] [] rfl rfl), ?_⟩))
  refine cd (fun m=>(m.own 0 rfl).slice) ?_
  rintro⟨A_y,c_y,rfl,hc_y⟩
  refine cd (fun m=>(m.ord 0 rfl).2.1) fun hA_y=> ?_
  refine eb (bI 0 rfl rfl rfl Tryz.underlying27 Tryz.underlying27 (by exact .inl rfl) eO rfl (fun m=>Src.bZ (Rd.Cl (m.ord 3 rfl) hk1.2.2)) aR (by unfold maxLen;omega) (by omega) (fun u2=>⟨(fun _=>wk [2,2,2] [] rfl rfl), ?_⟩))
  refine cd (fun m=>(m.own 0 rfl).slice) ?_
  rintro⟨A_y2,c_y2,rfl,hc_y⟩
  refine cd (fun m=>(m.ord 0 rfl).2.1) fun hA_y=> ?_
  refine jY (dF 4 rfl rfl rfl o7 rfl (by first|exact Nat.le_of_ble_eq_true rfl|simp) ⟨(fun h=>absurd h (by decide)), ?_⟩)
  refine bF<|al (ρ' :=[(2,_),(5,_),(0,_),(1,_)]) ⟨rfl,rfl,rfl,rfl,trivial⟩<|ak (X' :=[_,_,_,_,_]) (S' :=[]) (fun _ m=>m)<|ag<|aj<|hy (fun m=>aw rfl dU (aA (m.aX 3 rfl) rfl))<|hy (fun _=>aa rfl)<|hy (fun _=>ec rfl rfl Tryz.underlying27 dW rfl (by omega))<| ?_
  refine cH (dF 3 rfl rfl rfl o7 rfl (by first|exact Nat.le_of_ble_eq_true rfl|simp) ?_)
  refine ai<|al (ρ' :=[(2,_),(5,_),(0,_),(1,_)]) ⟨rfl,rfl,rfl,rfl,trivial⟩<|ak (X' :=[_,_,_,_,_]) (S' :=[]) (fun _ m=>m)<|aS<| ?_
  refine ak (X' :=aG 5 1 (.slice (if c1=k then A1 else A1.map (·.add (k*1))) (own.length-k) (c1-k)) (own.length-k) ((aQ own).drop (k*1))::_) (fun w m=>(m.perm (ar [4] _ [_] _ rfl)).vd (View.q9 hk1.2.2 hc1)) ?_
  have hdl:own.length-k=(own.drop k).length:=by rw[List.length_drop]
  have hol:out.length+1+k=(out++(UInt8.ofNat (k-1)::own.take k)).length:=by simp;omega
  rw[hdl,hol]
  refine ak (fun w m=>m.bU 0 rfl (show _=aG 5 1 (.slice (if c1=k then A1 else A1.map (·.add (k*1))) (own.drop k).length (c1-k)) (own.drop k).length (aQ (own.drop k))from congrArg (aG _ _ _ _) (by rw[Nat.mul_one,o3]))) ?_
  refine ak (fun w m=>m.bU 3 rfl (show _=aG 5 1 (.slice A_y2 (out++(UInt8.ofNat (k-1)::own.take k)).length c_y2) (out++(UInt8.ofNat (k-1)::own.take k)).length (aQ (out++(UInt8.ofNat (k-1)::own.take k)))from congrArg (aG _ _ _ _) (show aQ out++aQ [UInt8.ofNat (k-1)]++aQ (own.take k)=_ by rw[←br,←br,List.append_assoc];rfl))) ?_
  refine gy (own.drop k) (out++(UInt8.ofNat (k-1)::own.take k)) _ _ _ _ ⟨rfl,rfl,trivial⟩ [2,1,1,0] rfl [] rfl (⟨by rw[←hdl,←hol];omega,by rw[←hE];simp⟩) (by rw[←hdl];omega)
 ·have hne:own=[]:=List.eq_nil_of_length_eq_zero (by omega)
  rw[hne,l5,List.append_nil]at hE
  subst hne
  subst hE
  refine bL<|ao<|ao<|aC<| ?_
  exact fE trivial rfl [0,0,0,0] rfl [] rfl ⟨_,_,_,_,rfl,rfl,rfl⟩
structure Bt where
 g:Nat
 gm:Nat
 g4:Nat
 g5:Nat
 i:Nat
 p:Nat
 c1:Nat
 c2:Nat
 A1:Option Addr
 A2:Option Addr
 own:List UInt8
 out:List UInt8
 es:tN
theorem ER{A:Option Addr}{n c:Nat}{l:List UInt8}(hc:n≤c)(hn:n≤500000000)(hl:l.length=n):cf Tryz.prog 178 [.slice A n c] [] [c6 1 A n (aQ l)] (fun v_ X_ S_=>∃v,v_=v∧X_=[aG 5 1 v (ei l).length (aQ (ei l))]∧S_=[]):=by
 refine aO (N:=56) Tryz.func178 rfl rfl (by simp) fun b=> ?_
 refine a6 (fun m=>gz (m.rd 0 rfl)) ?_
 rintro⟨hl_r,hA_r⟩
 refine ah<|aj<|hy (fun _=>ab rfl)<|ai<|ag<| ?_
 refine xM (l:=0) (fun(t:Bt)=>n-t.i) (fun(t:Bt)=>[(7,.int .i64 (t.i:Nat)),(3,.pointer (some ⟨t.g,0,none⟩)),(4,.pointer (some ⟨t.g4,0,none⟩)),(5,.pointer (some ⟨t.g5,0,none⟩)),(6,.func (.func 230) #[] #[.pointer (some ⟨t.g5,0,none⟩),.pointer (some ⟨t.g4,0,none⟩)])]) (fun(t:Bt)=>[na t.g t.gm A n c t.p t.es,aJ t.g5 27 [.slice t.A1 t.own.length t.c1],aG 5 1 (.slice t.A1 t.own.length t.c1) t.own.length (aQ t.own),aJ t.g4 27 [.slice t.A2 t.out.length t.c2],aG 5 1 (.slice t.A2 t.out.length t.c2) t.out.length (aQ t.out)]) (fun(t:Bt)=>[]) (fun(t:Bt)=>t.i≤n∧t.p≤t.i∧xq l t.p t.es∧t.out.length+2*t.own.length≤2*t.i∧gp l t.i t.own t.out=ei l) [(0,_)] ⟨rfl,trivial⟩ [] rfl rfl (fun t ⟨hin,hpi,hF,hlen,hE⟩=> ?_) (fun hfall_=> ?_)
 ·obtain⟨g,gm,g4,g5,i,p,c1,c2,A1,A2,own,out,es⟩:=t
  dsimp only at hin hpi hF hlen hE ⊢
  refine ah<|ah<|aj<|hy (fun _=>aa rfl)<|hy (fun _=>aa rfl)<|hy (fun _=>aW rfl Tryz.underlying27)<|hy (fun _=>cx rfl rfl)<|ai<|al (ρ' :=[(16,_),(7,_),(3,_),(4,_),(5,_),(6,_),(0,_)]) ⟨rfl,rfl,rfl,rfl,rfl,rfl,rfl,trivial⟩<|ag<| ?_
  refine Bj rfl (fun hfin=> ?_) (fun hfin=> ?_)
  ·have hi:i=n:=by have:=of_decide_eq_true hfin;omega
   rw[kH (by omega)]at hE
   refine ah<|aj<|hy (fun _=>aa rfl)<| ?_
   refine hx (o4 rfl rfl Tryz.call230 (Ew (by omega)) [1,1,1,1] rfl [] rfl ?_)
   rintro _ _ _ ⟨A3,A4,c3,c4,rfl,rfl,rfl⟩
   rw[hE]
   refine ai<|al (ρ' :=[(16,_),(7,_),(3,_),(4,_),(5,_),(6,_),(0,_)]) ⟨rfl,rfl,rfl,rfl,rfl,rfl,rfl,trivial⟩<|ak (X' :=[_,_,_,_,_]) (S' :=[_]) (fun _ m=>m)<|ag<|ah<|aj<|hy (fun m=>aw rfl dU (aA (m.aX 2 rfl) rfl))<|hy (fun _=>ab rfl)<|ai<|al (ρ' :=[(2,_),(16,_),(7,_),(3,_),(4,_),(5,_),(6,_),(0,_)]) ⟨rfl,rfl,rfl,rfl,rfl,rfl,rfl,rfl,trivial⟩<|ag<|aV<|ax<|wG<| ?_
   exact bh trivial rfl rfl [3] rfl [] rfl ⟨_,rfl,rfl,rfl⟩
  ·have hi:i<n:=by have:=of_decide_eq_false hfin;omega
   refine aD<|ag<|ah<|aj<|hy (fun _=>aa rfl)<|hy (fun _=>aa rfl)<| ?_
   refine hx (aq rfl Tryz.call231 (Ef (by omega) (by omega) hl (by omega) (by omega) hF) [0] rfl [0] rfl ?_)
   rintro _ _ _ ⟨p1,es1,rfl,rfl,rfl,hp⟩
   obtain⟨hp1,hF1⟩:=hp
   refine hy (fun _=>aa rfl)<|hy (fun _=>au rfl rfl)<|hy (fun _=>au rfl rfl)<|hy (fun _=>ab rfl)<|hy (fun _=>ab rfl)<|ai<|al (ρ' :=[(9,_),(8,_),(16,_),(7,_),(3,_),(4,_),(5,_),(6,_),(0,_)]) ⟨rfl,rfl,rfl,rfl,rfl,rfl,rfl,rfl,rfl,trivial⟩<|ak (X' :=[_,_,_,_,_]) (S' :=[_]) (fun _ m=>m)<|ag<|ah<|ah<|aj<|hy (fun _=>aa rfl)<|hy (fun _=>cx rfl rfl)<|ai<|al (ρ' :=[(27,_),(9,_),(8,_),(16,_),(7,_),(3,_),(4,_),(5,_),(6,_),(0,_)]) ⟨rfl,rfl,rfl,rfl,rfl,rfl,rfl,rfl,rfl,rfl,trivial⟩<|ag<| ?_
   refine cC rfl (fun h0=> ?_) (fun h0=> ?_)
   ·rw[kK (by omega) (by omega)]at hE
    refine ah<|qe [0,0,1,1] [0] rfl rfl [5,6,7] [(0,some 1),(1,some 0),(2,some 0),(3,some 0),(4,some 0),(5,none),(6,none),(7,none)] (by kernel_rfl) (by kernel_rfl) rfl 2<|cm (fun m=>aw rfl dU (aA (m.aX 1 rfl) rfl))<|an (aa rfl)<|an (aa rfl)<|an (aM rfl rfl Tryz.underlying27 dW hA_r rfl (by omega))<|cm (fun m=>aw rfl jn ((m.rd 0 rfl).cell (bH (by omega))))<| ?_
    refine eb (b4 Tryz.underlying27 eO rfl rfl rfl (by simp[Value.cells,B8]) (by decide) (by decide) (fun g33=>⟨(fun _=>wk [1,1,2,2] [0] rfl rfl), ?_⟩))
    have hA_b33:0<1→(some (⟨g33,0,none⟩:Addr))≠none:=fun _ h=>by cases h
    refine gb (fun w m=>m.bU 0 rfl (show _=aG 5 1 (.slice (some ⟨g33,0,none⟩) 1 1) 1 (aQ [l.getD i 0])from rfl)) ?_
    refine eb (bI 3 rfl rfl rfl Tryz.underlying27 Tryz.underlying27 (by exact .inl rfl) eO rfl (fun m=>Src.bZ (m.ord 0 rfl)) aR (by unfold maxLen;omega) (by omega) (fun u=>⟨(fun _=>wk [2,2,2,2] [0] rfl rfl), ?_⟩))
    refine cd (fun m=>(m.own 0 rfl).slice) ?_
    rintro⟨A_x,c_x,rfl,hc_x⟩
    refine cd (fun m=>(m.ord 0 rfl).2.1) fun hA_x=> ?_
    refine jY (dF 3 rfl rfl rfl o7 rfl (by first|exact Nat.le_of_ble_eq_true rfl|simp) ⟨(fun h=>absurd h (by decide)), ?_⟩)
    refine bF<|al (ρ' :=[(27,_),(9,_),(8,_),(16,_),(7,_),(3,_),(4,_),(5,_),(6,_),(0,_)]) ⟨rfl,rfl,rfl,rfl,rfl,rfl,rfl,rfl,rfl,rfl,trivial⟩<|ak (X' :=[_,_,_,_,_,_]) (S' :=[_]) (fun _ m=>m)<|ag<|ah<|aj<|hy (fun _=>aa rfl)<|hy (fun _=>aN rfl rfl (bE (by omega) (by omega)))<|hy (fun _=>ab rfl)<|ai<|al (ρ' :=[(7,_),(27,_),(9,_),(8,_),(16,_),(3,_),(4,_),(5,_),(6,_),(0,_)]) ⟨rfl,rfl,rfl,rfl,rfl,rfl,rfl,rfl,rfl,rfl,trivial⟩<|ag<|ym<|ud<| ?_
    have hol:own.length+1=(own++[l.getD i 0]).length:=by simp
    rw[hol]
    refine ak (fun w m=>m.bU 1 rfl (show _=aG 5 1 (.slice A_x (own++[l.getD i 0]).length c_x) (own++[l.getD i 0]).length (aQ (own++[l.getD i 0]))from congrArg (aG _ _ _ _) (br _ _).symm)) ?_
    exact zh (⟨g,gm,g4,g5,i+1,p1,c_x,c2,A_x,A2,own++[l.getD i 0],out,es1⟩) ⟨rfl,rfl,rfl,rfl,rfl,rfl,trivial⟩ [3,1,0,1,1] rfl [0] rfl (⟨hi,Nat.le_succ_of_le hp1,hF1,by show out.length+2*(own++[l.getD i 0]).length≤2*(i+1);rw[←hol];omega,hE⟩) (by show n-(i+1)<n-i;omega)
   ·have hm:=kB (b:=l) (i:=i) (by omega)
    rw[iw (by omega) (by omega)]at hE
    obtain⟨m1,m2,m3,m4,m5,m6⟩:=hm.resolve_left (fun e=>h0 (by rw[e];rfl))
    refine aD<|ag<|ah<|aj<|hy (fun _=>aa rfl)<| ?_
    refine hx (o4 rfl rfl Tryz.call230 (Ew (by omega)) [1,1,1,1] rfl [] rfl ?_)
    rintro _ _ _ ⟨A3,A4,c3,c4,rfl,rfl,rfl⟩
    refine ai<|al (ρ' :=[(27,_),(9,_),(8,_),(16,_),(7,_),(3,_),(4,_),(5,_),(6,_),(0,_)]) ⟨rfl,rfl,rfl,rfl,rfl,rfl,rfl,rfl,rfl,rfl,trivial⟩<|ak (X' :=[_,_,_,_,_]) (S' :=[_]) (fun _ m=>m)<|ag<|ah<|aj<|hy (fun m=>aw rfl dU (aA (m.aX 2 rfl) rfl))<|hy (fun _=>aa rfl)<|hy (fun _=>aN rfl rfl (bE (by omega) (by omega)))<|hy (fun _=>yV (cg rfl rfl (bE (by omega) (by omega))) ((show Value.int .i64 (128+((aT l i).1:Int)-4)= .int .i64 ((124+(aT l i).1:Nat):Int) by congr 1;omega)))<|hy (fun _=>yV (bT rfl Tryz.underlying3 Tryz.underlying5 (gA _)) ((show Value.int .u8 _=B8 (UInt8.ofNat (124+(aT l i).1))from rfl)))<|hy (fun _=>aa rfl)<|hy (fun _=>yV (cg rfl rfl (bE (by omega) (by omega))) ((show Value.int .i64 (((aT l i).2:Int)-1)= .int .i64 (((aT l i).2-1:Nat):Int) by congr 1;omega)))<|hy (fun _=>yV (bT rfl Tryz.underlying3 Tryz.underlying5 (gA _)) ((show Value.int .u8 _=B8 (UInt8.ofNat ((aT l i).2-1))from rfl)))<|hy (fun _=>aa rfl)<|hy (fun _=>yV (cg rfl rfl (bE (by omega) (by omega))) ((show Value.int .i64 (((aT l i).2:Int)-1)= .int .i64 (((aT l i).2-1:Nat):Int) by congr 1;omega)))<|hy (fun _=>yV (nG (p:=256) rfl rfl (by decide) (by decide) (by decide)) ((show Value.int .i64 ((((aT l i).2-1:Nat):Int)/256)= .int .i64 ((((aT l i).2-1)/256:Nat):Int) by congr 1)))<|hy (fun _=>yV (bT rfl Tryz.underlying3 Tryz.underlying5 (gA _)) ((show Value.int .u8 _=B8 (UInt8.ofNat (((aT l i).2-1)/256))from rfl)))<| ?_
    refine hx (b4 Tryz.underlying27 eO rfl rfl rfl (by simp[Value.cells,B8]) (by decide) (by decide) (fun g51=> ?_))
    have hA_b51:0<3→(some (⟨g51,0,none⟩:Addr))≠none:=fun _ h=>by cases h
    refine aU (fun w m=>m.bU 0 rfl (show _=aG 5 1 (.slice (some ⟨g51,0,none⟩) 3 3) 3 (aQ (fJ (aT l i)))from rfl)) ?_
    have hll:=fa own
    have hlo:(out++ef own).length=out.length+(ef own).length:=by simp
    refine hx (bI 4 rfl rfl rfl Tryz.underlying27 Tryz.underlying27 (by exact .inl rfl) eO rfl (fun m=>Src.bZ (m.ord 0 rfl)) aR (by unfold maxLen;omega) (by omega) (fun u=> ?_))
    refine aB (fun m=>(m.own 0 rfl).slice) ?_
    rintro⟨A_y,c_y,rfl,hc_y⟩
    refine aB (fun m=>(m.ord 0 rfl).2.1) fun hA_y=> ?_
    refine cH (dF 4 rfl rfl rfl o7 rfl (by first|exact Nat.le_of_ble_eq_true rfl|simp) ?_)
    refine ai<|al (ρ' :=[(27,_),(9,_),(8,_),(16,_),(7,_),(3,_),(4,_),(5,_),(6,_),(0,_)]) ⟨rfl,rfl,rfl,rfl,rfl,rfl,rfl,rfl,rfl,rfl,trivial⟩<|ak (X' :=[_,_,_,_,_,_]) (S' :=[_]) (fun _ m=>m)<|ag<|ah<|aj<|hy (fun _=>aa rfl)<|hy (fun _=>aa rfl)<|hy (fun _=>yV (aN rfl rfl (bE (by omega) (by omega))) ((show Value.int .i64 ((i:Int)+((aT l i).1:Int))= .int .i64 ((i+(aT l i).1:Nat):Int) by congr 1)))<|hy (fun _=>ab rfl)<|ai<|al (ρ' :=[(7,_),(27,_),(9,_),(8,_),(16,_),(3,_),(4,_),(5,_),(6,_),(0,_)]) ⟨rfl,rfl,rfl,rfl,rfl,rfl,rfl,rfl,rfl,rfl,trivial⟩<|ag<|ym<| ?_
    have hol:(out++ef own).length+3=(out++ef own++fJ (aT l i)).length:=by simp[fJ];omega
    rw[hol]
    refine ak (fun w m=>m.bU 1 rfl (show _=aG 5 1 (.slice A_y (out++ef own++fJ (aT l i)).length c_y) (out++ef own++fJ (aT l i)).length (aQ (out++ef own++fJ (aT l i)))from congrArg (aG _ _ _ _) (br _ _).symm)) ?_
    exact zh (⟨g,gm,g4,g5,i+(aT l i).1,p1,c3,c_y,A3,A_y,[],out++ef own++fJ (aT l i),es1⟩) ⟨rfl,rfl,rfl,rfl,rfl,rfl,trivial⟩ [5,3,3,1,0] rfl [0] rfl (⟨by show i+(aT l i).1≤n;omega,by show p1≤i+(aT l i).1;omega,hF1,by show(out++ef own++fJ (aT l i)).length+2*0≤2*(i+(aT l i).1);rw[←hol];omega,hE⟩) (by show n-(i+(aT l i).1)<n-i;omega)
 ·refine ah<|aj<|hy (fun _=>aa rfl)<| ?_
  refine hx (aq rfl Tryz.call229 (EJ) [] rfl [] rfl ?_)
  rintro _ _ _ ⟨g,gm,rfl,rfl,rfl⟩
  refine hy (fun _=>ab rfl)<|ai<|al (ρ' :=[(3,_),(2,_),(0,_)]) ⟨rfl,rfl,rfl,trivial⟩<|ak (X' :=[_]) (S' :=[_]) (fun _ m=>m)<|ag<|ah<|aj<| ?_
  refine hx (aP sA (fun g4=> ?_))
  refine hx (aP sA (fun g5=> ?_))
  refine ai<|ak (X' :=[_,_,_]) (S' :=[_]) (fun _ m=>m)<|ag<|ah<|aj<|hy (fun _=>jV rfl rfl)<|hy (fun _=>ab rfl)<|ai<|al (ρ' :=[(6,_),(5,_),(4,_),(3,_),(2,_),(0,_)]) ⟨rfl,rfl,rfl,rfl,rfl,rfl,trivial⟩<|ag<|ah<|aj<|hy (fun _=>ab rfl)<|ai<|ag<| ?_
  refine bw (fun w m=>m.bU 1 rfl (show _=aJ g4 27 [.slice none 0 0]from rfl)) ?_
  refine bw (fun w m=>m.bU 1 rfl (show _=aJ g5 27 [.slice none 0 0]from rfl)) ?_
  refine bw (fun w m=>m.dy (r' :=aG 5 1 (.slice none 0 0) 0 []) (.refl _ _) (Own.nil _ _ _ _) (fun k hk=>hk.elim)) ?_
  refine bw (fun w m=>m.dy (r' :=aG 5 1 (.slice none 0 0) 0 []) (.refl _ _) (Own.nil _ _ _ _) (fun k hk=>hk.elim)) ?_
  exact DJ (CO (R:=fun(t:Bt)=>[(7,.int .i64 (t.i:Nat)),(3,.pointer (some ⟨t.g,0,none⟩)),(4,.pointer (some ⟨t.g4,0,none⟩)),(5,.pointer (some ⟨t.g5,0,none⟩)),(6,.func (.func 230) #[] #[.pointer (some ⟨t.g5,0,none⟩),.pointer (some ⟨t.g4,0,none⟩)])]) (X1:=fun(t:Bt)=>[na t.g t.gm A n c t.p t.es,aJ t.g5 27 [.slice t.A1 t.own.length t.c1],aG 5 1 (.slice t.A1 t.own.length t.c1) t.own.length (aQ t.own),aJ t.g4 27 [.slice t.A2 t.out.length t.c2],aG 5 1 (.slice t.A2 t.out.length t.c2) t.out.length (aQ t.out)]) (S1:=fun(t:Bt)=>[]) (I:=fun(t:Bt)=>t.i≤n∧t.p≤t.i∧xq l t.p t.es∧t.out.length+2*t.own.length≤2*t.i∧gp l t.i t.own t.out=ei l) (⟨g,gm,g4,g5,0,0,0,0,none,none,[],[],[]⟩) ⟨rfl,rfl,rfl,rfl,rfl,rfl,trivial⟩ [4,2,1,1,0] rfl [0] rfl (⟨Nat.zero_le _,Nat.le_refl _,BC _,Nat.le_refl _,rfl⟩)) hfall_
end Go.Proofs.YtmibdabdlgmafaaGreatDoor
end
section
set_option maxRecDepth 20000
set_option maxHeartbeats 2000000
namespace Go.Proofs.YtmibdabdlgmafaaGreatDoor
open Go.Eng Go.Hx
theorem ob{A:Option Addr}{n c:Nat}{l:List UInt8}(hn:n≤70368744177664):cf Tryz.prog 180 [.slice A n c] [] [c6 1 A n (aQ l)] (fun v_ X_ S_=>v_=(.int .u32 (cG l:Nat))∧X_=[]∧S_=[]):=by
 exact hC fun m=>Calls.mono (yo A n c l _ (m.rd 0 rfl) (by omega)) (fun e w' ⟨h,hf⟩=>⟨_,h,⟨rfl,rfl,rfl⟩,hf⟩)
theorem jh{k:Nat}(hk:k<4294967296):cf Tryz.prog 179 [.int .u32 (k:Nat)] [] [] (fun v_ X_ S_=>∃v,v_=v∧X_=[aG 5 1 v 4 (aQ (gk k))]∧S_=[]):=by
 refine aO (N:=15) Tryz.func179 rfl rfl (by simp) fun b=> ?_
 refine ah<|aj<|hy (fun _=>ab rfl)<|ai<|ag<|ah<|aj<|hy (fun _=>aa rfl)<|hy (fun _=>yV (bT rfl Tryz.underlying166 Tryz.underlying5 (gA _)) ((show Value.int .u8 _=B8 (UInt8.ofNat k)from rfl)))<|hy (fun _=>aa rfl)<|hy (fun _=>yV (nG (p:=256) rfl rfl (by decide) (by decide) (by decide)) ((show Value.int .u32 ((k:Int)/256)= .int .u32 ((k/256:Nat):Int) by congr 1)))<|hy (fun _=>yV (bT rfl Tryz.underlying166 Tryz.underlying5 (gA _)) ((show Value.int .u8 _=B8 (UInt8.ofNat (k/256))from rfl)))<|hy (fun _=>aa rfl)<|hy (fun _=>yV (nG (p:=65536) rfl rfl (by decide) (by decide) (by decide)) ((show Value.int .u32 ((k:Int)/65536)= .int .u32 ((k/65536:Nat):Int) by congr 1)))<|hy (fun _=>yV (bT rfl Tryz.underlying166 Tryz.underlying5 (gA _)) ((show Value.int .u8 _=B8 (UInt8.ofNat (k/65536))from rfl)))<|hy (fun _=>aa rfl)<|hy (fun _=>yV (nG (p:=16777216) rfl rfl (by decide) (by decide) (by decide)) ((show Value.int .u32 ((k:Int)/16777216)= .int .u32 ((k/16777216:Nat):Int) by congr 1)))<|hy (fun _=>yV (bT rfl Tryz.underlying166 Tryz.underlying5 (gA _)) ((show Value.int .u8 _=B8 (UInt8.ofNat (k/16777216))from rfl)))<| ?_
 refine hx (b4 Tryz.underlying27 eO rfl rfl rfl (by simp[Value.cells,B8]) (by decide) (by decide) (fun g14=> ?_))
 have hA_b14:0<4→(some (⟨g14,0,none⟩:Addr))≠none:=fun _ h=>by cases h
 refine hy (fun _=>ab rfl)<|ai<|al (ρ' :=[(2,_),(0,_)]) ⟨rfl,rfl,trivial⟩<|ak (X' :=[_]) (S' :=[]) (fun _ m=>m)<|ag<|aV<| ?_
 refine ak (fun w m=>m.bU 0 rfl (show _=aG 5 1 (.slice (some ⟨g14,0,none⟩) 4 4) 4 (aQ (gk k))from rfl)) ?_
 exact bh trivial rfl rfl [0] rfl [] rfl ⟨_,rfl,rfl,rfl⟩
theorem EX{A:Option Addr}{n c:Nat}{l:List UInt8}(hc:n≤c)(hn:n≤100000000)(hl:l.length=n):cf Tryz.prog 106 [.slice A n c] [] [c6 1 A n (aQ l)] (fun v_ X_ S_=>∃v,v_=v∧X_=[aG 5 1 v (bx l).length (aQ (bx l))]∧S_=[]):=by
 have hpl:=lU l
 have hlt:n<4294967296:=by omega
 have hcl:=iW l
 refine aO (N:=31) Tryz.func106 rfl rfl (by simp) fun b=> ?_
 refine a6 (fun m=>gz (m.rd 0 rfl)) ?_
 rintro⟨hl_r,hA_r⟩
 refine ah<|aj<|hy (fun _=>ab rfl)<|ai<|ag<|ah<|aj<|hy (fun _=>aa rfl)<|hy (fun _=>ab rfl)<|hy (fun _=>ab rfl)<|ai<|al (ρ' :=[(4,_),(3,_),(2,_),(0,_)]) ⟨rfl,rfl,rfl,rfl,trivial⟩<|ag<|ah<|ah<|aj<|hy (fun _=>aa rfl)<| ?_
 refine hx (aq rfl Tryz.call178 (ER (by omega) (by omega) (by omega)) [] rfl [0] rfl ?_)
 rintro _ _ _ ⟨v,rfl,rfl,rfl⟩
 refine aB (fun m=>(m.own 0 rfl).slice) ?_
 rintro⟨A_y,c_y,rfl,hc_y⟩
 refine aB (fun m=>(m.ord 0 rfl).2.1) fun hA_y=> ?_
 refine hy (fun _=>ab rfl)<|ai<|al (ρ' :=[(5,_),(4,_),(3,_),(2,_),(0,_)]) ⟨rfl,rfl,rfl,rfl,rfl,trivial⟩<|ak (X' :=[_]) (S' :=[_]) (fun _ m=>m)<|ag<|ah<|aj<|hy (fun _=>aa rfl)<|hy (fun _=>aW rfl Tryz.underlying27)<|hy (fun _=>aa rfl)<|hy (fun _=>aW rfl Tryz.underlying27)<|hy (fun _=>bA rfl rfl)<|ai<|al (ρ' :=[(14,_),(5,_),(4,_),(3,_),(2,_),(0,_)]) ⟨rfl,rfl,rfl,rfl,rfl,rfl,trivial⟩<|ag<| ?_
 refine cC rfl (fun hp=> ?_) (fun hp=> ?_)
 ·have hq:bx l=[76,1]++gk l.length++ei l++gk (cG l):=by
   have:ue l=true:=by unfold ue;exact decide_eq_true (by omega)
   unfold bx gT
   rw[this];rfl
  refine aj<|hy (fun _=>aa rfl)<|hy (fun _=>ab rfl)<|hy (fun _=>ab rfl)<|ai<|al (ρ' :=[(4,_),(3,_),(14,_),(5,_),(2,_),(0,_)]) ⟨rfl,rfl,rfl,rfl,rfl,rfl,trivial⟩<|ag<|ah<|aj<|hy (fun _=>aa rfl)<| ?_
  refine hx (b4 Tryz.underlying27 eO rfl rfl rfl (by simp[Value.cells,B8]) (by decide) (by decide) (fun g17=> ?_))
  have hA_b17:0<2→(some (⟨g17,0,none⟩:Addr))≠none:=fun _ h=>by cases h
  refine hy (fun _=>aa rfl)<|hy (fun _=>aW rfl Tryz.underlying27)<|hy (fun _=>bT rfl Tryz.underlying3 Tryz.underlying166 (vf (by omega) (by omega)))<| ?_
  refine hx (aq rfl Tryz.call179 (jh (by omega)) [] rfl [] rfl ?_)
  rintro _ _ _ ⟨v2,rfl,rfl,rfl⟩
  refine aB (fun m=>(m.own 0 rfl).slice) ?_
  rintro⟨A_x,c_x,rfl,hc_x⟩
  refine aB (fun m=>(m.ord 0 rfl).2.1) fun hA_x=> ?_
  refine aU (fun w m=>m.bU 1 rfl (show _=aG 5 1 (.slice (some ⟨g17,0,none⟩) 2 2) 2 (aQ [76,1])from rfl)) ?_
  refine hx (bI 0 rfl rfl rfl Tryz.underlying27 Tryz.underlying27 (by exact .inl rfl) eO rfl (fun m=>Src.bZ (m.ord 1 rfl)) aR (by unfold maxLen;omega) (by omega) (fun u=> ?_))
  refine aB (fun m=>(m.own 0 rfl).slice) ?_
  rintro⟨A_b17,c_b17,rfl,hc_b17⟩
  refine aB (fun m=>(m.ord 0 rfl).2.1) fun hA_b17=> ?_
  refine hy (fun _=>ab rfl)<|ai<|al (ρ' :=[(6,_),(4,_),(3,_),(14,_),(5,_),(2,_),(0,_)]) ⟨rfl,rfl,rfl,rfl,rfl,rfl,rfl,trivial⟩<|ak (X' :=[_,_,_]) (S' :=[_]) (fun _ m=>m)<|ag<|ah<|aj<|hy (fun _=>aa rfl)<|hy (fun _=>aa rfl)<| ?_
  refine hx (bI 0 rfl rfl rfl Tryz.underlying27 Tryz.underlying27 (by exact .inl rfl) eO rfl (fun m=>Src.bZ (m.ord 2 rfl)) aR (by unfold maxLen;omega) (by omega) (fun u2=> ?_))
  refine aB (fun m=>(m.own 0 rfl).slice) ?_
  rintro⟨A_b172,c_b172,rfl,hc_b17⟩
  refine aB (fun m=>(m.ord 0 rfl).2.1) fun hA_b17=> ?_
  refine hy (fun _=>ab rfl)<|ai<|al (ρ' :=[(6,_),(4,_),(3,_),(14,_),(5,_),(2,_),(0,_)]) ⟨rfl,rfl,rfl,rfl,rfl,rfl,rfl,trivial⟩<|ak (X' :=[_,_,_]) (S' :=[_]) (fun _ m=>m)<|ag<|ah<|aj<|hy (fun _=>aa rfl)<|hy (fun _=>aa rfl)<| ?_
  refine hx (aq rfl Tryz.call180 (ob (by omega)) [] rfl [0] rfl ?_)
  rintro _ _ _ ⟨rfl,rfl,rfl⟩
  refine hx (aq rfl Tryz.call179 (jh (by omega)) [] rfl [] rfl ?_)
  rintro _ _ _ ⟨v3,rfl,rfl,rfl⟩
  refine aB (fun m=>(m.own 0 rfl).slice) ?_
  rintro⟨A_x2,c_x2,rfl,hc_x2⟩
  refine aB (fun m=>(m.ord 0 rfl).2.1) fun hA_x2=> ?_
  refine hx (bI 1 rfl rfl rfl Tryz.underlying27 Tryz.underlying27 (by exact .inl rfl) eO rfl (fun m=>Src.bZ (m.ord 0 rfl)) aR (by unfold maxLen;omega) (by omega) (fun u3=> ?_))
  refine aB (fun m=>(m.own 0 rfl).slice) ?_
  rintro⟨A_b173,c_b173,rfl,hc_b17⟩
  refine aB (fun m=>(m.ord 0 rfl).2.1) fun hA_b17=> ?_
  refine hy (fun _=>ab rfl)<|ai<|al (ρ' :=[(2,_),(6,_),(4,_),(3,_),(14,_),(5,_),(0,_)]) ⟨rfl,rfl,rfl,rfl,rfl,rfl,rfl,trivial⟩<|ak (X' :=[_,_,_,_]) (S' :=[_]) (fun _ m=>m)<|ag<|aV<| ?_
  have hol:2+4+(ei l).length+4=(bx l).length:=by rw[hq];simp[eX,hl];try omega
  rw[hol]
  have hsl:aQ [76,1]++aQ (gk n)++aQ (ei l)++aQ (gk (cG l))=aQ (bx l):=by rw[hq,hl,br,br,br]
  rw[hsl]
  exact bh trivial rfl rfl [0] rfl [] rfl ⟨_,rfl,rfl,rfl⟩
 ·have hq:bx l=[76,0]++gk l.length++l++gk (cG l):=by
   have:ue l=false:=by unfold ue;exact decide_eq_false (by omega)
   unfold bx gT
   rw[this];rfl
  refine aD<|ag<|ah<|aj<|hy (fun _=>aa rfl)<| ?_
  refine hx (b4 Tryz.underlying27 eO rfl rfl rfl (by simp[Value.cells,B8]) (by decide) (by decide) (fun g17=> ?_))
  have hA_b17:0<2→(some (⟨g17,0,none⟩:Addr))≠none:=fun _ h=>by cases h
  refine hy (fun _=>aa rfl)<|hy (fun _=>aW rfl Tryz.underlying27)<|hy (fun _=>bT rfl Tryz.underlying3 Tryz.underlying166 (vf (by omega) (by omega)))<| ?_
  refine hx (aq rfl Tryz.call179 (jh (by omega)) [] rfl [] rfl ?_)
  rintro _ _ _ ⟨v2,rfl,rfl,rfl⟩
  refine aB (fun m=>(m.own 0 rfl).slice) ?_
  rintro⟨A_x,c_x,rfl,hc_x⟩
  refine aB (fun m=>(m.ord 0 rfl).2.1) fun hA_x=> ?_
  refine aU (fun w m=>m.bU 1 rfl (show _=aG 5 1 (.slice (some ⟨g17,0,none⟩) 2 2) 2 (aQ [76,0])from rfl)) ?_
  refine hx (bI 0 rfl rfl rfl Tryz.underlying27 Tryz.underlying27 (by exact .inl rfl) eO rfl (fun m=>Src.bZ (m.ord 1 rfl)) aR (by unfold maxLen;omega) (by omega) (fun u=> ?_))
  refine aB (fun m=>(m.own 0 rfl).slice) ?_
  rintro⟨A_b17,c_b17,rfl,hc_b17⟩
  refine aB (fun m=>(m.ord 0 rfl).2.1) fun hA_b17=> ?_
  refine hy (fun _=>ab rfl)<|ai<|al (ρ' :=[(6,_),(14,_),(5,_),(4,_),(3,_),(2,_),(0,_)]) ⟨rfl,rfl,rfl,rfl,rfl,rfl,rfl,trivial⟩<|ak (X' :=[_,_,_]) (S' :=[_]) (fun _ m=>m)<|ag<|ah<|aj<|hy (fun _=>aa rfl)<|hy (fun _=>aa rfl)<| ?_
  refine hx (bI 0 rfl rfl rfl Tryz.underlying27 Tryz.underlying27 (by exact .inl rfl) eO rfl (fun m=>Src.bZ (m.rd 0 rfl)) aR (by unfold maxLen;omega) (by omega) (fun u2=> ?_))
  refine aB (fun m=>(m.own 0 rfl).slice) ?_
  rintro⟨A_b172,c_b172,rfl,hc_b17⟩
  refine aB (fun m=>(m.ord 0 rfl).2.1) fun hA_b17=> ?_
  refine hy (fun _=>ab rfl)<|ai<|al (ρ' :=[(6,_),(14,_),(5,_),(4,_),(3,_),(2,_),(0,_)]) ⟨rfl,rfl,rfl,rfl,rfl,rfl,rfl,trivial⟩<|ak (X' :=[_,_,_]) (S' :=[_]) (fun _ m=>m)<|ag<|ah<|aj<|hy (fun _=>aa rfl)<|hy (fun _=>aa rfl)<| ?_
  refine hx (aq rfl Tryz.call180 (ob (by omega)) [] rfl [0] rfl ?_)
  rintro _ _ _ ⟨rfl,rfl,rfl⟩
  refine hx (aq rfl Tryz.call179 (jh (by omega)) [] rfl [] rfl ?_)
  rintro _ _ _ ⟨v3,rfl,rfl,rfl⟩
  refine aB (fun m=>(m.own 0 rfl).slice) ?_
  rintro⟨A_x2,c_x2,rfl,hc_x2⟩
  refine aB (fun m=>(m.ord 0 rfl).2.1) fun hA_x2=> ?_
  refine hx (bI 1 rfl rfl rfl Tryz.underlying27 Tryz.underlying27 (by exact .inl rfl) eO rfl (fun m=>Src.bZ (m.ord 0 rfl)) aR (by unfold maxLen;omega) (by omega) (fun u3=> ?_))
  refine aB (fun m=>(m.own 0 rfl).slice) ?_
  rintro⟨A_b173,c_b173,rfl,hc_b17⟩
  refine aB (fun m=>(m.ord 0 rfl).2.1) fun hA_b17=> ?_
  refine hy (fun _=>ab rfl)<|ai<|al (ρ' :=[(2,_),(6,_),(14,_),(5,_),(4,_),(3,_),(0,_)]) ⟨rfl,rfl,rfl,rfl,rfl,rfl,rfl,trivial⟩<|ak (X' :=[_,_,_,_]) (S' :=[_]) (fun _ m=>m)<|ag<|aV<| ?_
  have hol:2+4+n+4=(bx l).length:=by rw[hq];simp[eX,hl];try omega
  rw[hol]
  have hsl:aQ [76,0]++aQ (gk n)++aQ l++aQ (gk (cG l))=aQ (bx l):=by rw[hq,hl,br,br,br]
  rw[hsl]
  exact bh trivial rfl rfl [0] rfl [] rfl ⟨_,rfl,rfl,rfl⟩
theorem kD{f:List UInt8}(h:f.length<10∨f.getD 0 0≠76∨1<(f.getD 1 0).toNat):gr f=none:=by unfold gr;rw[if_pos h]
theorem w0{f:List UInt8}(h:¬(f.length<10∨f.getD 0 0≠76∨1<(f.getD 1 0).toNat)):gr f=some (j5 (f.drop 2)):=by unfold gr;rw[if_neg h]
theorem rh{A:Option Addr}{n c:Nat}{f:List UInt8}(hc:n≤c)(hn:n≤1000000000)(hl:f.length=n):cf Tryz.prog 211 [.slice A n c] [] [c6 1 A n (aQ f)] (fun v_ X_ S_=>v_=(.tuple #[.int .i64 (((gr f).getD 0:Nat):Int),.int .i64 (if(gr f).isSome then 0 else 2)])∧X_=[]∧S_=[]):=by
 have b0:=(f.getD 0 0).toNat_lt
 have b1:=(f.getD 1 0).toNat_lt
 refine aO (N:=34) Tryz.func211 rfl rfl (by simp) fun b=> ?_
 refine a6 (fun m=>gz (m.rd 0 rfl)) ?_
 rintro⟨hl_r,hA_r⟩
 refine ah<|aj<|hy (fun _=>ab rfl)<|hy (fun _=>ab rfl)<|ai<|ag<|ah<|ah<|aj<|hy (fun _=>aa rfl)<|hy (fun _=>aW rfl Tryz.underlying27)<|hy (fun _=>bA rfl rfl)<|hy (fun _=>aa rfl)<| ?_
 refine er 9 rfl (fun h1=> ?_) (fun h1=> ?_)
 ·refine bu rfl rfl rfl (by decide)<|bu rfl rfl rfl (by decide)<|bu rfl rfl rfl (by decide)<|bu rfl rfl rfl (by decide)<|hy (fun _=>bK rfl rfl)<|hy (fun _=>aa rfl)<| ?_
  rw[kD (.inl (by omega))]
  refine bu rfl rfl rfl (by decide)<|bu rfl rfl rfl (by decide)<|bu rfl rfl rfl (by decide)<|bu rfl rfl rfl (by decide)<|hy (fun _=>bK rfl rfl)<|ai<|al (ρ' :=[(20,_),(3,_),(2,_),(0,_)]) ⟨rfl,rfl,rfl,rfl,trivial⟩<|ag<| ?_
  refine gY rfl (rfl) ?_
  refine ah<|aj<|hy (fun _=>ab rfl)<|hy (fun _=>ab rfl)<|ai<|ag<|aV<|ax<| ?_
  exact dh trivial rfl rfl rfl [] rfl [] rfl ⟨rfl,rfl,rfl⟩
 ·refine de (o:=_) rfl rfl rfl (fun _=>aa rfl)<|de (o:=_) rfl rfl rfl (fun _=>aM rfl rfl Tryz.underlying27 dW hA_r (show((0:Nat):Int)=0 from rfl) (by omega))<|de (o:=_) rfl rfl rfl (fun m=>aw rfl jn ((m.rd 0 rfl).cell (bH (by omega))))<|de (o:=_) rfl rfl rfl (fun _=>dL rfl rfl)<|hy (fun _=>bN rfl rfl)<|hy (fun _=>aa rfl)<| ?_
  refine er 15 rfl (fun h2=> ?_) (fun h2=> ?_)
  ·rw[kD (.inr (.inl (fun e=>h2 (by rw[e];rfl))))]
   refine bu rfl rfl rfl (by decide)<|bu rfl rfl rfl (by decide)<|bu rfl rfl rfl (by decide)<|bu rfl rfl rfl (by decide)<|hy (fun _=>bK rfl rfl)<|ai<|al (ρ' :=[(20,_),(3,_),(2,_),(0,_)]) ⟨rfl,rfl,rfl,rfl,trivial⟩<|ag<| ?_
   refine gY rfl (rfl) ?_
   refine ah<|aj<|hy (fun _=>ab rfl)<|hy (fun _=>ab rfl)<|ai<|ag<|aV<|ax<| ?_
   exact dh trivial rfl rfl rfl [] rfl [] rfl ⟨rfl,rfl,rfl⟩
  ·refine de (o:=_) rfl rfl rfl (fun _=>aa rfl)<|de (o:=_) rfl rfl rfl (fun _=>aM rfl rfl Tryz.underlying27 dW hA_r (show((1:Nat):Int)=1 from rfl) (by omega))<|de (o:=_) rfl rfl rfl (fun m=>aw rfl jn ((m.rd 0 rfl).cell (bH (by omega))))<|de (o:=_) rfl rfl rfl (fun _=>cQ rfl rfl)<|hy (fun _=>bN rfl rfl)<|ai<|al (ρ' :=[(20,_),(3,_),(2,_),(0,_)]) ⟨rfl,rfl,rfl,rfl,trivial⟩<|ag<| ?_
   refine cC rfl (fun h3=> ?_) (fun h3=> ?_)
   ·rw[kD (.inr (.inr (by omega)))]
    refine ah<|aj<|hy (fun _=>ab rfl)<|hy (fun _=>ab rfl)<|ai<|ag<|aV<|ax<| ?_
    exact dh trivial rfl rfl rfl [] rfl [] rfl ⟨rfl,rfl,rfl⟩
   ·have h2' :f.getD 0 0=76:=UInt8.toNat_inj.1 (by have:=Decidable.not_not.1 h2;show _=76;omega)
    rw[w0 (by rintro(q|q|q);omega;exact q h2';omega)]
    refine aD<|ag<|ah<|aj<|hy (fun _=>ab rfl)<|ai<|ag<|ah<|ah<|aj<|hy (fun _=>ab rfl)<|ai<|ag<|aK<| ?_
    refine dD (fun j=>4-j) (fun j=>[(4,.int .i64 ((acc ((f.drop 2).take 4) j:Nat):Int)),(5,.int .i64 (5-(j:Int)))]) (fun j=>[]) (fun j=>[]) (fun j=>j≤4) 0 [(20,_),(3,_),(2,_),(0,_)] ⟨rfl,rfl,rfl,rfl,trivial⟩ [] rfl [] rfl (Nat.zero_le _) ⟨rfl,rfl,trivial⟩ (fun j hI=> ?_)
    refine ah<|ah<|aj<|hy (fun _=>aa rfl)<|hy (fun _=>cQ rfl rfl)<|ai<|al (ρ' :=[(22,_),(4,_),(5,_),(20,_),(3,_),(2,_),(0,_)]) ⟨rfl,rfl,rfl,rfl,rfl,rfl,rfl,trivial⟩<|ag<| ?_
    refine cC rfl (fun hj=> ?_) (fun hj=> ?_)
    ·have hl4:((f.drop 2).take 4).length=4:=by rw[List.length_take,List.length_drop];omega
     have hac:=C3 ((f.drop 2).take 4) (show j≤4 by omega)
     have hby:(((f.drop 2).take 4).getD (3-j) 0).toNat<256:=UInt8.toNat_lt _
     have hget:f.getD (5-j) 0=((f.drop 2).take 4).getD (3-j) 0:=by
      simp only[List.getD,List.getElem?_take,List.getElem?_drop]
      rw[if_pos (by omega),show 2+(3-j)=5-j by omega]
     refine aD<|ag<|ah<|aK<|aj<|hy (fun _=>aa rfl)<|hy (fun _=>tn (p:=256) rfl rfl (by decide) (by decide) (by decide) (bE (by omega) (by omega)))<|hy (fun _=>aa rfl)<|hy (fun _=>aa rfl)<|hy (fun _=>aM rfl rfl Tryz.underlying27 dW hA_r (show((5-j:Nat):Int)=_ by omega) (by omega))<|hy (fun m=>yV (aw rfl jn ((m.rd 0 rfl).cell (bH (by omega)))) ((show B8 (f.getD (5-j) 0)=B8 (((f.drop 2).take 4).getD (3-j) 0) by rw[hget])))<|hy (fun _=>bT rfl Tryz.underlying5 Tryz.underlying3 (z1 _))<|hy (fun _=>gv (by simp) rfl rfl (AL _ _ hac hby))<|hy (fun _=>ab rfl)<|ai<|al (ρ' :=[(4,_),(22,_),(5,_),(20,_),(3,_),(2,_),(0,_)]) ⟨rfl,rfl,rfl,rfl,rfl,rfl,rfl,trivial⟩<|aS<|ag<|aj<|hy (fun _=>aa rfl)<|hy (fun _=>yV (cg rfl rfl (bE (by omega) (by omega))) ((show Value.int .i64 ((5-(j:Int))-1)= .int .i64 (5-((j+1:Nat):Int)) by congr 1;omega)))<|hy (fun _=>ab rfl)<|ai<|al (ρ' :=[(5,_),(4,_),(22,_),(20,_),(3,_),(2,_),(0,_)]) ⟨rfl,rfl,rfl,rfl,rfl,rfl,rfl,trivial⟩<| ?_
     refine cM (j+1) ⟨rfl,rfl,rfl,rfl,rfl,rfl,trivial⟩ [] rfl [0] rfl (by omega) (by omega)
    ·obtain rfl:j=4:=by omega
     have e4:acc ((f.drop 2).take 4) 4=j5 (f.drop 2):=by
      rw[Gi]
      have hx:∀q:Nat,q<4→((f.drop 2).take 4).getD q 0=(f.drop 2).getD q 0:=fun q hq=>by simp only[List.getD,List.getElem?_take,if_pos hq]
      unfold j5
      rw[hx 0 (by decide),hx 1 (by decide),hx 2 (by decide),hx 3 (by decide)]
     rw[e4]
     refine bL<|ao<|ao<|aC<|ag<|ah<|aj<|hy (fun _=>aa rfl)<|hy (fun _=>ab rfl)<|hy (fun _=>ab rfl)<|ai<|al (ρ' :=[(3,_),(2,_),(22,_),(4,_),(5,_),(20,_),(0,_)]) ⟨rfl,rfl,rfl,rfl,rfl,rfl,rfl,trivial⟩<|ag<|aV<| ?_
     exact dh trivial rfl rfl rfl [] rfl [] rfl ⟨rfl,rfl,rfl⟩
theorem BX{A:Option Addr}{n c:Nat}{f:List UInt8}(hc:n≤c)(hn:n≤1000000000)(hl:f.length=n):cf Tryz.prog 213 [.slice A n c] [] [c6 1 A n (aQ f)] (fun v_ X_ S_=>v_=(.bool (decide ((gr f).isSome∧f.getD 1 0=1)))∧X_=[]∧S_=[]):=by
 refine aO (N:=18) Tryz.func213 rfl rfl (by simp) fun b=> ?_
 refine a6 (fun m=>gz (m.rd 0 rfl)) ?_
 rintro⟨hl_r,hA_r⟩
 refine ah<|aj<|hy (fun _=>ab rfl)<|ai<|ag<|ah<|aj<|hy (fun _=>aa rfl)<| ?_
 refine hx (aq rfl Tryz.call211 (rh (by omega) (by omega) (by omega)) [] rfl [0] rfl ?_)
 rintro _ _ _ ⟨rfl,rfl,rfl⟩
 refine hy (fun _=>aa rfl)<|hy (fun _=>au rfl rfl)<|hy (fun _=>au rfl rfl)<|hy (fun _=>ab rfl)<|hy (fun _=>ab rfl)<|ai<|al (ρ' :=[(4,_),(2,_),(0,_)]) ⟨rfl,rfl,rfl,trivial⟩<|ak (X' :=[]) (S' :=[_]) (fun _ m=>m)<|ag<|ah<|aj<|hy (fun _=>aa rfl)<|hy (fun _=>cx rfl rfl)<|hy (fun _=>aa rfl)<| ?_
 refine er 12 rfl (fun hs=> ?_) (fun hs=> ?_)
 ·have hs1:(gr f).isSome=true:=by
   cases h:(gr f).isSome with
   |true=>rfl
   |false=>rw[h]at hs;exact absurd hs (by decide)
  have hn10:¬n<10:=fun h=>by rw[kD (.inl (by omega))]at hs1;cases hs1
  have hd:decide ((gr f).isSome∧f.getD 1 0=1)=decide (((f.getD 1 0).toNat:Int)=1):=decide_eq_decide.2 ⟨fun h=>by rw[h.2];rfl,fun h=>⟨hs1,UInt8.toNat_inj.1 (by show _=1;omega)⟩⟩
  rw[hd]
  refine de (o:=_) rfl rfl rfl (fun _=>aa rfl)<|de (o:=_) rfl rfl rfl (fun _=>aM rfl rfl Tryz.underlying27 dW hA_r (show((1:Nat):Int)=1 from rfl) (by omega))<|de (o:=_) rfl rfl rfl (fun m=>aw rfl jn ((m.rd 0 rfl).cell (bH (by omega))))<|de (o:=_) rfl rfl rfl (fun _=>cx rfl rfl)<|hy (fun _=>bK rfl rfl)<|hy (fun _=>ab rfl)<|ai<|al (ρ' :=[(2,_),(4,_),(0,_)]) ⟨rfl,rfl,rfl,trivial⟩<|ag<|aV<| ?_
  exact bh trivial rfl rfl [] rfl [] rfl ⟨rfl,rfl,rfl⟩
 ·have hd:decide ((gr f).isSome∧f.getD 1 0=1)=false:=decide_eq_false fun h=>hs (by rw[h.1];rfl)
  rw[hd]
  refine bu rfl rfl rfl (by decide)<|bu rfl rfl rfl (by decide)<|bu rfl rfl rfl (by decide)<|bu rfl rfl rfl (by decide)<|hy (fun _=>bN rfl rfl)<|hy (fun _=>ab rfl)<|ai<|al (ρ' :=[(2,_),(4,_),(0,_)]) ⟨rfl,rfl,rfl,trivial⟩<|ag<|aV<| ?_
  exact bh trivial rfl rfl [] rfl [] rfl ⟨rfl,rfl,rfl⟩
end Go.Proofs.YtmibdabdlgmafaaGreatDoor
end
section
set_option maxRecDepth 20000
set_option maxHeartbeats 2000000
namespace Go.Proofs.YtmibdabdlgmafaaGreatDoor
open Go.Eng Go.Hx
theorem Ff{v:Value}(h:v.oneCell' =true:=by rfl):∀u∈ [v],u.oneCell' =true:=fun u hu=>by rw[List.mem_singleton.1 hu];exact h
theorem nJ{q:Bool}{e:Int}:Cy Tryz.prog 212 [.bool q,.int .i64 e] [] [] (fun v_ X_ S_=>v_=(.tuple #[])∧X_=[]∧S_=[]∧(q=true)) (fun v_ X_ S_=>v_=(.iface 288 (.agg #[.int .i64 e]))∧X_=[]∧S_=[]∧(q=false)):=by
 refine Aa (N:=9) Tryz.func212 rfl rfl (by simp) fun b=> ?_
 refine ah<|aj<|hy (fun _=>aa rfl)<|hy (fun _=>(lX rfl))<|ai<|al (ρ' :=[(5,_),(0,_),(1,_)]) ⟨rfl,rfl,rfl,trivial⟩<|ag<| ?_
 refine Bj rfl (fun hq=> ?_) (fun hq=> ?_)
 ·refine aj<|hy (fun _=>aa rfl)<|hy (fun _=>cn vR rfl rfl (by kernel_rfl) (.cons (o:=0) (sz:=1) (by kernel_rfl) rfl rfl (Nat.le_of_ble_eq_true rfl) .nil))<|hy (fun _=>ku rfl Tryz.underlying288 (fun _ h=>by cases h))<| ?_
  refine cH (xV rfl ?_)
  exact Fk [] rfl [] rfl ⟨rfl,rfl,rfl,(by simpa using hq)⟩
 ·refine aD<| ?_
  refine Em ?_
  exact fE trivial rfl [] rfl [] rfl ⟨rfl,rfl,rfl,(by simpa using hq)⟩
theorem fQ{g4 g5:Nat}{v:Value}{e0 e:Int}:Bz Tryz.prog 210 [.pointer (some ⟨g4,0,none⟩),.pointer (some ⟨g5,0,none⟩)] (.panicking (E4 (.iface 288 (.agg #[.int .i64 e])))) [aJ g4 27 [v],aJ g5 47 [.int .i64 e0]] [] (fun u_ X_ S_=>u_= .returning∧X_=[aJ g4 27 [.slice none 0 0],aJ g5 47 [.int .i64 e]]∧S_=[]):=by
 refine vp (N:=12) Tryz.func210 rfl rfl (by simp) fun b c_0 cs_ hu_=> ?_
 show tE _ _ _ _ _ [0,1,2,3,4,5,6,7] _ _ _ _ _
 refine BJ rfl hu_ ?_
 refine lg rfl (fun _=>qm rfl (xW Tryz.underlying288))<|lg rfl (fun _=>aa rfl)<|lg rfl (fun _=>au rfl rfl)<|lg rfl (fun _=>au rfl rfl)<| ?_
 refine Ch rfl (aP vR (fun g2=> ?_))
 refine xX rfl (aI 0 rfl rfl rfl Cv rfl Ff rfl ?_)
 refine Ec (fun w m=>m.bU 0 rfl (show _=aJ g2 288 [.int .i64 e]from rfl)) ?_
 refine lg rfl (fun _=>ab rfl)<|s8<|bw (X' :=[_,_,_]) (S' :=[]) (fun _ m=>m)<|ah<|aj<|hy (fun _=>aa rfl)<|ai<|al (ρ' :=[(9,_),(3,_),(2,_),(0,_),(1,_)]) ⟨rfl,rfl,rfl,rfl,rfl,trivial⟩<|ag<| ?_
 refine gY rfl (rfl) ?_
 refine qe [0] [] rfl rfl [2,3] [(0,some 1),(1,some 1),(2,none),(3,none)] (by kernel_rfl) (by kernel_rfl) rfl 99<|an (aL rfl BP (by decide))<|cm (fun m=>aw rfl kW (aA (m.aX 0 rfl) (i:=0) rfl))<| ?_
 refine jY (dF 1 rfl rfl rfl o7 rfl (by first|exact Nat.le_of_ble_eq_true rfl|simp) ⟨(fun _=>wk [1] [] rfl rfl), ?_⟩)
 refine jY (dF 2 rfl rfl rfl w7 rfl (by first|exact Nat.le_of_ble_eq_true rfl|simp) ⟨(fun _=>wk [2] [] rfl rfl), ?_⟩)
 refine bF<|al (ρ' :=[(9,_),(3,_),(2,_),(0,_),(1,_)]) ⟨rfl,rfl,rfl,rfl,rfl,trivial⟩<|ak (X' :=[_,_,_]) (S' :=[]) (fun _ m=>m)<| ?_
 exact fE trivial rfl [1,0] rfl [] rfl ⟨rfl,rfl,rfl,rfl⟩
theorem sv{g4 g5:Nat}{v:Value}{e:Int}:Bz Tryz.prog 210 [.pointer (some ⟨g4,0,none⟩),.pointer (some ⟨g5,0,none⟩)] .returning [aJ g4 27 [v],aJ g5 47 [.int .i64 e]] [] (fun u_ X_ S_=>u_= .returning∧X_=[aJ g4 27 [v],aJ g5 47 [.int .i64 e]]∧S_=[]):=by
 refine vp (N:=12) Tryz.func210 rfl rfl (by simp) fun b c_0 cs_ hu_=> ?_
 show tE _ _ _ _ _ [0,1,2,3,4,5,6,7] _ _ _ _ _
 refine x7 rfl hu_ ?_
 refine lg rfl (fun _=>qm rfl (zZ Tryz.underlying288 vR))<|lg rfl (fun _=>aa rfl)<|lg rfl (fun _=>au rfl rfl)<|lg rfl (fun _=>au rfl rfl)<| ?_
 refine Ch rfl (aP vR (fun g2=> ?_))
 refine xX rfl (aI 0 rfl rfl rfl Cv rfl Ff rfl ?_)
 refine lg rfl (fun _=>ab rfl)<|s8<|bw (X' :=[_,_,_]) (S' :=[]) (fun _ m=>m)<|ah<|aj<|hy (fun _=>aa rfl)<|ai<|al (ρ' :=[(9,_),(3,_),(2,_),(0,_),(1,_)]) ⟨rfl,rfl,rfl,rfl,rfl,trivial⟩<|ag<| ?_
 refine dO rfl (rfl) ?_
 refine aD<| ?_
 exact fE trivial rfl [1,1] rfl [] rfl ⟨rfl,rfl,rfl,rfl⟩
end Go.Proofs.YtmibdabdlgmafaaGreatDoor
end
section
set_option maxRecDepth 20000
set_option maxHeartbeats 2000000
namespace Go.Proofs.YtmibdabdlgmafaaGreatDoor
open Go.Eng Go.Hx
theorem CV{A:Option Addr}{n c:Nat}{l:List UInt8}(h0:0<n)(hn:n≤140737488351232):cf Tryz.prog 257 [.slice A n c] [] [c6 1 A n (aQ l)] (fun v_ X_ S_=>v_=(.tuple #[.int .i64 ((cB l).1:Nat),.int .i64 ((cB l).2.1:Nat),.int .i64 ((cB l).2.2.1:Nat),.bool (cB l).2.2.2])∧X_=[]∧S_=[]):=by
 have b0:=(l.getD 0 0).toNat_lt
 have b1:=(l.getD 1 0).toNat_lt
 have b2:=(l.getD 2 0).toNat_lt
 refine aO (N:=39) Tryz.func257 rfl rfl (by simp) fun b=> ?_
 refine a6 (fun m=>gz (m.rd 0 rfl)) ?_
 rintro⟨hl_r,hA_r⟩
 refine ah<|aj<|hy (fun _=>ab rfl)<|hy (fun _=>ab rfl)<|hy (fun _=>ab rfl)<|hy (fun _=>ab rfl)<|ai<|ag<|ah<|aj<|hy (fun _=>aa rfl)<|hy (fun _=>aM rfl rfl Tryz.underlying27 dW hA_r (show((0:Nat):Int)=0 from rfl) (by omega))<|hy (fun m=>aw rfl jn ((m.rd 0 rfl).cell (bH (by omega))))<|hy (fun _=>bT rfl Tryz.underlying5 Tryz.underlying3 (bE (by omega) (by omega)))<|hy (fun _=>ab rfl)<|ai<|al (ρ' :=[(6,_),(5,_),(4,_),(3,_),(2,_),(0,_)]) ⟨rfl,rfl,rfl,rfl,rfl,rfl,trivial⟩<|ag<|ah<|ah<|aj<|hy (fun _=>aa rfl)<|hy (fun _=>bA rfl rfl)<|ai<|al (ρ' :=[(12,_),(6,_),(5,_),(4,_),(3,_),(2,_),(0,_)]) ⟨rfl,rfl,rfl,rfl,rfl,rfl,rfl,trivial⟩<|ag<| ?_
 refine cC rfl (fun h1=> ?_) (fun h1=> ?_)
 ·have e:cB l=((l.getD 0 0).toNat+2,(l.getD 0 0).toNat+1,0,decide ((l.getD 0 0).toNat+2≤l.length)):=by rw[cB,if_pos (by omega)]
  rw[e]
  refine ah<|aj<|hy (fun _=>aa rfl)<|hy (fun _=>aN rfl rfl (bE (by omega) (by omega)))<|hy (fun _=>aa rfl)<|hy (fun _=>aN rfl rfl (bE (by omega) (by omega)))<|hy (fun _=>aa rfl)<|hy (fun _=>aW rfl Tryz.underlying27)<|hy (fun _=>aa rfl)<|hy (fun _=>aN rfl rfl (bE (by omega) (by omega)))<|hy (fun _=>yV (jS rfl rfl) ((congrArg Value.bool (decide_eq_decide.2 (by omega)):Value.bool (decide ((n:Int)≥((l.getD 0 0).toNat:Int)+2))= .bool (decide ((l.getD 0 0).toNat+2≤l.length)))))<|hy (fun _=>ab rfl)<|hy (fun _=>ab rfl)<|hy (fun _=>ab rfl)<|hy (fun _=>ab rfl)<|ai<|al (ρ' :=[(5,_),(4,_),(3,_),(2,_),(12,_),(6,_),(0,_)]) ⟨rfl,rfl,rfl,rfl,rfl,rfl,rfl,trivial⟩<|ag<|aV<|ax<| ?_
  exact zf trivial rfl rfl rfl rfl rfl [] rfl [] rfl ⟨rfl,rfl,rfl⟩
 ·refine aD<|ag<|ah<|ah<|aj<|hy (fun _=>aa rfl)<|hy (fun _=>aW rfl Tryz.underlying27)<|hy (fun _=>bA rfl rfl)<|ai<|al (ρ' :=[(24,_),(12,_),(6,_),(5,_),(4,_),(3,_),(2,_),(0,_)]) ⟨rfl,rfl,rfl,rfl,rfl,rfl,rfl,rfl,trivial⟩<|ag<| ?_
  refine cC rfl (fun h3=> ?_) (fun h3=> ?_)
  ·have e:cB l=(0,0,0,false):=by rw[cB,if_neg (by omega),if_pos (by omega)]
   rw[e]
   refine ah<|aj<|hy (fun _=>ab rfl)<|hy (fun _=>ab rfl)<|hy (fun _=>ab rfl)<|hy (fun _=>ab rfl)<|ai<|ag<|aV<|ax<| ?_
   exact zf trivial rfl rfl rfl rfl rfl [] rfl [] rfl ⟨rfl,rfl,rfl⟩
  ·have e:cB l=(3,(l.getD 0 0).toNat-124,1+(l.getD 1 0).toNat+256*(l.getD 2 0).toNat,true):=by rw[cB,if_neg (by omega),if_neg (by omega)]
   rw[e]
   refine aD<|ag<|ah<|cT [] [(0,some 0),(1,some 0),(2,some 0),(3,some 0),(4,some 0),(5,some 0),(6,some 0),(7,some 0),(8,some 0),(9,some 0),(10,some 0),(11,some 0),(12,some 0),(13,some 0),(14,some 0),(15,some 0),(16,some 0),(17,some 0)] (by kernel_rfl) (by kernel_rfl) rfl 99<|an (aa rfl)<|an (cg rfl rfl (bE (by omega) (by omega)))<|an (yV (aN rfl rfl (bE (by omega) (by omega))) ((show Value.int .i64 (((l.getD 0 0).toNat:Int)-128+4)= .int .i64 (((l.getD 0 0).toNat-124:Nat):Int) by congr 1;omega)))<|an (aa rfl)<|an (aM rfl rfl Tryz.underlying27 dW hA_r (show((1:Nat):Int)=1 from rfl) (by omega))<|cm (fun m=>aw rfl jn ((m.rd 0 rfl).cell (bH (by omega))))<|an (bT rfl Tryz.underlying5 Tryz.underlying3 (bE (by omega) (by omega)))<|an (aN rfl rfl (bE (by omega) (by omega)))<|an (aa rfl)<|an (aM rfl rfl Tryz.underlying27 dW hA_r (show((2:Nat):Int)=2 from rfl) (by omega))<|cm (fun m=>aw rfl jn ((m.rd 0 rfl).cell (bH (by omega))))<|an (bT rfl Tryz.underlying5 Tryz.underlying3 (bE (by omega) (by omega)))<|an (tn (p:=256) rfl rfl (by decide) (by decide) (by decide) (bE (by omega) (by omega)))<|an (yV (aN rfl rfl (bE (by omega) (by omega))) ((show Value.int .i64 (1+((l.getD 1 0).toNat:Int)+((l.getD 2 0).toNat:Int)*256)= .int .i64 ((1+(l.getD 1 0).toNat+256*(l.getD 2 0).toNat:Nat):Int) by congr 1;omega)))<|an (ab rfl)<|an (ab rfl)<|an (ab rfl)<|an (ab rfl)<|bF<|al (ρ' :=[(5,_),(4,_),(3,_),(2,_),(24,_),(12,_),(6,_),(0,_)]) ⟨rfl,rfl,rfl,rfl,rfl,rfl,rfl,rfl,trivial⟩<|ag<|aV<| ?_
   exact zf trivial rfl rfl rfl rfl rfl [] rfl [] rfl ⟨rfl,rfl,rfl⟩
theorem Az{A:Option Addr}{c:Nat}{l:List UInt8}{z:Int}(hc:l.length≤c)(hn:l.length≤10000000)(hz:z≤10000000):cf Tryz.prog 214 [.slice A l.length c,.int .i64 z] [] [c6 1 A l.length (aQ l)] (fun v_ X_ S_=>∃v,v_=(.tuple #[v,.int .i64 (jo z l []).2])∧X_=[aG 5 1 v (jo z l []).1.length (aQ (jo z l []).1)]∧S_=[]):=by
 refine aO (N:=66) Tryz.func214 rfl rfl (by simp) fun b=> ?_
 refine a6 (fun m=>gz (m.rd 0 rfl)) ?_
 rintro⟨hl_r,hA_r⟩
 refine ah<|aj<|hy (fun _=>ab rfl)<|hy (fun _=>ab rfl)<|ai<|ag<|ah<|aj<|hy (fun _=>ab rfl)<|ai<|ag<|ah<|aK<| ?_
 refine bw (fun w m=>m.dy (r' :=aG 5 1 (.slice none 0 0) 0 []) (.refl _ _) (Own.nil _ _ _ _) (fun k hk=>hk.elim)) ?_
 refine oU (fun p o A2 c2 A3 c3=>p.length) (fun p o A2 c2 A3 c3=>[(0,.slice A2 p.length c2),(6,.slice A3 o.length c3)]) (fun p o A2 c2 A3 c3=>[aG 5 1 (.slice A3 o.length c3) o.length (aQ o)]) (fun p o A2 c2 A3 c3=>[c6 1 A2 p.length (aQ p)]) (fun p o A2 c2 A3 c3=>p.length≤c2∧p.length≤10000000∧o.length≤10000000∧jo z p o=jo z l []) l [] A c none 0 [(1,_)] ⟨rfl,trivial⟩ [0] rfl [0] rfl (⟨hc,hn,by decide,rfl⟩) ⟨rfl,rfl,trivial⟩ (fun p o A2 c2 A3 c3 ⟨hpc,hpn,hon,hU⟩=> ?_)
 refine ah<|ah<|aj<|hy (fun _=>aa rfl)<|hy (fun _=>aW rfl Tryz.underlying27)<|hy (fun _=>cQ rfl rfl)<|ai<|al (ρ' :=[(14,_),(0,_),(6,_),(1,_)]) ⟨rfl,rfl,rfl,rfl,trivial⟩<|ag<| ?_
 refine cC rfl (fun hlt=> ?_) (fun hlt=> ?_)
 ·have hp0:p≠ []:=fun e=>by rw[e]at hlt;exact absurd hlt (by decide)
  obtain⟨ht1,ht2⟩:=Ds p
  refine aD<|ag<|aK<|ah<|aj<|hy (fun _=>aa rfl)<| ?_
  refine hx (aq rfl Tryz.call257 (CV (by omega) (by omega)) [] rfl [0] rfl ?_)
  rintro _ _ _ ⟨rfl,rfl,rfl⟩
  refine hy (fun _=>aa rfl)<|hy (fun _=>au rfl rfl)<|hy (fun _=>au rfl rfl)<|hy (fun _=>au rfl rfl)<|hy (fun _=>au rfl rfl)<|hy (fun _=>ab rfl)<|hy (fun _=>ab rfl)<|hy (fun _=>ab rfl)<|hy (fun _=>ab rfl)<|ai<|al (ρ' :=[(10,_),(9,_),(8,_),(7,_),(14,_),(0,_),(6,_),(1,_)]) ⟨rfl,rfl,rfl,rfl,rfl,rfl,rfl,rfl,trivial⟩<|ak (X' :=[_]) (S' :=[_,_]) (fun _ m=>m)<|ag<|ah<|ah<|aj<|hy (fun _=>aa rfl)<|hy (fun _=>(lX rfl))<|hy (fun _=>aa rfl)<| ?_
  refine Bk 24 rfl (fun hw=> ?_) (fun hw=> ?_)
  ·rw[kL hp0 (fun h=>by rw[h.1]at hw;cases hw)]at hU
   rw[←hU]
   refine bu rfl rfl rfl (by decide)<|bu rfl rfl rfl (by decide)<|bu rfl rfl rfl (by decide)<|bu rfl rfl rfl (by decide)<|hy (fun _=>bK rfl rfl)<|ai<|al (ρ' :=[(29,_),(10,_),(9,_),(8,_),(7,_),(14,_),(0,_),(6,_),(1,_)]) ⟨rfl,rfl,rfl,rfl,rfl,rfl,rfl,rfl,rfl,trivial⟩<|ag<| ?_
   refine gY rfl (rfl) ?_
   refine ah<|aj<|hy (fun _=>ab rfl)<|hy (fun _=>ab rfl)<|ai<|ag<|aV<|ax<|aY<|ax<|aY<|ax<| ?_
   refine ak (fun w m=>m.dy (r' :=aG 5 1 (.slice none 0 0) 0 []) (.refl _ _) (Own.nil _ _ _ _) (fun k hk=>hk.elim)) ?_
   exact dh trivial rfl rfl rfl [0] rfl [] rfl ⟨_,rfl,rfl,rfl⟩
  ·have hw1:(cB p).2.2.2=true:=by simpa using hw
   refine de (o:=_) rfl rfl rfl (fun _=>aa rfl)<|de (o:=_) rfl rfl rfl (fun _=>aa rfl)<|de (o:=_) rfl rfl rfl (fun _=>aW rfl Tryz.underlying27)<|de (o:=_) rfl rfl rfl (fun _=>cQ rfl rfl)<|hy (fun _=>bN rfl rfl)<|ai<|al (ρ' :=[(29,_),(10,_),(9,_),(8,_),(7,_),(14,_),(0,_),(6,_),(1,_)]) ⟨rfl,rfl,rfl,rfl,rfl,rfl,rfl,rfl,rfl,trivial⟩<|ag<| ?_
   refine cC rfl (fun hd=> ?_) (fun hd=> ?_)
   ·rw[kL hp0 (fun h=>by omega)]at hU
    rw[←hU]
    refine ah<|aj<|hy (fun _=>ab rfl)<|hy (fun _=>ab rfl)<|ai<|ag<|aV<|ax<|aY<|ax<|aY<|ax<| ?_
    refine ak (fun w m=>m.dy (r' :=aG 5 1 (.slice none 0 0) 0 []) (.refl _ _) (Own.nil _ _ _ _) (fun k hk=>hk.elim)) ?_
    exact dh trivial rfl rfl rfl [0] rfl [] rfl ⟨_,rfl,rfl,rfl⟩
   ·have hd1:(cB p).2.2.1≤o.length:=by omega
    refine aD<|ag<|ah<|ah<|aj<|hy (fun _=>aa rfl)<|hy (fun _=>aW rfl Tryz.underlying27)<|hy (fun _=>aa rfl)<|hy (fun _=>aN rfl rfl (bE (by omega) (by omega)))<|hy (fun _=>aa rfl)<|hy (fun _=>cQ rfl rfl)<|ai<|al (ρ' :=[(35,_),(29,_),(10,_),(9,_),(8,_),(7,_),(14,_),(0,_),(6,_),(1,_)]) ⟨rfl,rfl,rfl,rfl,rfl,rfl,rfl,rfl,rfl,rfl,trivial⟩<|ag<| ?_
    refine cC rfl (fun hm=> ?_) (fun hm=> ?_)
    ·rw[om hp0 hw1 hd1 (by omega)]at hU
     rw[←hU]
     refine ah<|aj<|hy (fun _=>ab rfl)<|hy (fun _=>ab rfl)<|ai<|ag<|aV<|ax<|aY<|ax<|aY<|ax<| ?_
     refine ak (fun w m=>m.dy (r' :=aG 5 1 (.slice none 0 0) 0 []) (.refl _ _) (Own.nil _ _ _ _) (fun k hk=>hk.elim)) ?_
     exact dh trivial rfl rfl rfl [0] rfl [] rfl ⟨_,rfl,rfl,rfl⟩
    ·rw[mR hp0 hw1 hd1 (by omega)]at hU
     obtain⟨hs2,hs3⟩:=kV hw1
     have hml:=nr (o:=o) hw1
     have hmn:(made p o).length≤10000000:=by omega
     have hdl:p.length-(cB p).1=(p.drop (cB p).1).length:=by rw[List.length_drop]
     generalize hsz:(cB p).1=sz at hs2 hs3 hU hdl ⊢
     refine aD<|ag<|ah<|ah<|aj<|hy (fun _=>aa rfl)<|hy (fun _=>cx rfl rfl)<|ai<|al (ρ' :=[(37,_),(35,_),(29,_),(10,_),(9,_),(8,_),(7,_),(14,_),(0,_),(6,_),(1,_)]) ⟨rfl,rfl,rfl,rfl,rfl,rfl,rfl,rfl,rfl,rfl,rfl,trivial⟩<|ag<| ?_
     refine cC rfl (fun hz0=> ?_) (fun hz0=> ?_)
     ·have hd0:(cB p).2.2.1=0:=by omega
      have hma:made p o=o++(p.drop 1).take (sz-1):=by rw[made,if_pos hd0,hsz]
      refine bw (fun w m=>m.kM 0 rfl (View.sub (n:=p.length) (c:=c2) (k:=1) (m:=sz-1) (by omega) (by omega))) ?_
      refine a6 (fun m=>gz (m.rd 0 rfl)) ?_
      rintro⟨hl_q,hA_q⟩
      refine aj<|hy (fun _=>aa rfl)<|hy (fun _=>aa rfl)<|hy (fun _=>aa rfl)<|hy (fun _=>eA rfl rfl rfl Tryz.underlying27 dW (show((1:Nat):Int)=1 from rfl) (rfl:((sz:Nat):Int)=_) (by omega) (by omega))<| ?_
      refine hx (bI 0 rfl rfl rfl Tryz.underlying27 Tryz.underlying27 (by exact .inl rfl) eO rfl (fun m=>Src.bZ (m.rd 0 rfl)) aR (by unfold maxLen;omega) (by omega) (fun u=> ?_))
      refine aB (fun m=>(m.own 0 rfl).slice) ?_
      rintro⟨A_x,c_x,rfl,hc_x⟩
      refine aB (fun m=>(m.ord 0 rfl).2.1) fun hA_x=> ?_
      have hlm:o.length+(sz-1)=(made p o).length:=by rw[hma,List.length_append,List.length_take,List.length_drop];omega
      rw[hlm]at hc_x hA_x ⊢
      refine aU (fun w m=>m.bU 0 rfl (show _=aG 5 1 (.slice A_x (made p o).length c_x) (made p o).length (aQ (made p o))from congrArg (aG _ _ _ _) (by rw[hma,br]))) ?_
      refine hy (fun _=>ab rfl)<|ai<|al (ρ' :=[(6,_),(37,_),(35,_),(29,_),(10,_),(9,_),(8,_),(7,_),(14,_),(0,_),(1,_)]) ⟨rfl,rfl,rfl,rfl,rfl,rfl,rfl,rfl,rfl,rfl,rfl,trivial⟩<|ak (X' :=[_]) (S' :=[_,_,_]) (fun _ m=>m)<|ag<|ah<|ah<|aj<|hy (fun _=>ab rfl)<|ai<|ag<|aK<| ?_
      refine dD (fun k2=>1) (fun k2=>[(11,.int .i64 (k2:Nat)),(6,.slice A_x (made p o).length c_x)]) (fun k2=>[aG 5 1 (.slice A_x (made p o).length c_x) (made p o).length (aQ (made p o))]) (fun k2=>[]) (fun k2=>True) 0 [(37,_),(35,_),(29,_),(10,_),(9,_),(8,_),(7,_),(14,_),(0,_),(1,_)] ⟨rfl,rfl,rfl,rfl,rfl,rfl,rfl,rfl,rfl,rfl,trivial⟩ [0] rfl [] rfl (trivial) ⟨rfl,rfl,trivial⟩ (fun k2 _=> ?_)
      refine ah<|ah<|aj<|hy (fun _=>aa rfl)<|hy (fun _=>yF (cQ rfl rfl) ((decide_eq_false (by omega))))<|hy (fun _=>aa rfl)<|bu rfl rfl rfl (by decide)<|bu rfl rfl rfl (by decide)<|bu rfl rfl rfl (by decide)<|hy (fun _=>bN rfl rfl)<|ai<|al (ρ' :=[(49,_),(11,_),(6,_),(37,_),(35,_),(29,_),(10,_),(9,_),(8,_),(7,_),(14,_),(0,_),(1,_)]) ⟨rfl,rfl,rfl,rfl,rfl,rfl,rfl,rfl,rfl,rfl,rfl,rfl,rfl,trivial⟩<|ag<| ?_
      refine dO rfl (rfl) ?_
      refine bw (fun w m=>m.kM 1 rfl (View.drop (n:=p.length) (c:=c2) (k:=sz) (by omega) (by omega))) ?_
      refine a6 (fun m=>gz (m.rd 0 rfl)) ?_
      rintro⟨hl_p2,hA_p2⟩
      refine bL<|ao<|ao<|aC<|ag<|aj<|hy (fun _=>aa rfl)<|hy (fun _=>aa rfl)<|hy (fun _=>ec rfl rfl Tryz.underlying27 dW rfl (by omega))<|hy (fun _=>ab rfl)<|ai<|al (ρ' :=[(0,_),(49,_),(11,_),(6,_),(37,_),(35,_),(29,_),(10,_),(9,_),(8,_),(7,_),(14,_),(1,_)]) ⟨rfl,rfl,rfl,rfl,rfl,rfl,rfl,rfl,rfl,rfl,rfl,rfl,rfl,trivial⟩<|aS<| ?_
      rw[hdl]
      refine gy (p.drop sz) (made p o) _ (c2-sz) A_x c_x ⟨rfl,rfl,rfl,trivial⟩ [0] rfl [0,3] rfl (⟨by rw[←hdl];omega,by rw[←hdl];omega,hmn,hU⟩) (by rw[←hdl];omega)
     ·have hd0:0<(cB p).2.2.1:=by omega
      have hma:made p o=again (cB p).2.2.1 (cB p).2.1 o:=by rw[made,if_neg (by omega)]
      generalize hdd:(cB p).2.2.1=dd at*
      generalize hnn:(cB p).2.1=nn at*
      refine aD<|ag<|ah<|ah<|aj<|hy (fun _=>ab rfl)<|ai<|ag<|aK<| ?_
      refine lD (fun k2 o2 A4 c4=>nn-k2) (fun k2 o2 A4 c4=>[(11,.int .i64 (k2:Nat)),(6,.slice A4 o2.length c4)]) (fun k2 o2 A4 c4=>[aG 5 1 (.slice A4 o2.length c4) o2.length (aQ o2)]) (fun k2 o2 A4 c4=>[]) (fun k2 o2 A4 c4=>k2≤nn∧o2.length=o.length+k2∧again dd (nn-k2) o2=made p o) 0 o A3 c3 [(37,_),(35,_),(29,_),(10,_),(9,_),(8,_),(7,_),(14,_),(0,_),(1,_)] ⟨rfl,rfl,rfl,rfl,rfl,rfl,rfl,rfl,rfl,rfl,trivial⟩ [0] rfl [] rfl (⟨Nat.zero_le _,rfl,hma.symm⟩) ⟨rfl,rfl,trivial⟩ (fun k2 o2 A4 c4 ⟨hk2,ho2,hag⟩=> ?_)
      refine ah<|ah<|aj<|hy (fun _=>aa rfl)<|hy (fun _=>yT (cQ rfl rfl) ((decide_eq_true (by omega))))<|hy (fun _=>aa rfl)<|de (o:=_) rfl rfl rfl (fun _=>aa rfl)<|de (o:=_) rfl rfl rfl (fun _=>aa rfl)<|de (o:=_) rfl rfl rfl (fun _=>bA rfl rfl)<|hy (fun _=>bK rfl rfl)<|ai<|al (ρ' :=[(49,_),(11,_),(6,_),(37,_),(35,_),(29,_),(10,_),(9,_),(8,_),(7,_),(14,_),(0,_),(1,_)]) ⟨rfl,rfl,rfl,rfl,rfl,rfl,rfl,rfl,rfl,rfl,rfl,rfl,rfl,trivial⟩<|ag<| ?_
      refine cC rfl (fun hkn=> ?_) (fun hkn=> ?_)
      ·have hag2:again dd (nn-(k2+1)) (o2++[o2.getD (o2.length-dd) 0])=made p o:=by
        rw[←hag,show nn-k2=(nn-(k2+1))+1 by omega]
        rfl
       refine a6 (fun m=>(m.ord 0 rfl).2.1) fun hA4=> ?_
       refine aD<|ag<|ah<|aK<|aj<|hy (fun _=>aa rfl)<|hy (fun _=>aa rfl)<|hy (fun _=>aa rfl)<|hy (fun _=>aW rfl Tryz.underlying27)<|hy (fun _=>aa rfl)<|hy (fun _=>cg rfl rfl (bE (by omega) (by omega)))<|hy (fun _=>aM rfl rfl Tryz.underlying27 dW hA4 (show((o2.length-dd:Nat):Int)=_ by omega) (by omega))<|hy (fun m=>aw rfl jn ((m.ord 0 rfl).cell (bH (by omega))))<| ?_
       refine hx (b4 Tryz.underlying27 eO rfl rfl rfl (by simp[Value.cells,B8]) (by decide) (by decide) (fun g60=> ?_))
       have hA_b60:0<1→(some (⟨g60,0,none⟩:Addr))≠none:=fun _ h=>by cases h
       refine aU (fun w m=>m.bU 0 rfl (show _=aG 5 1 (.slice (some ⟨g60,0,none⟩) 1 1) 1 (aQ [o2.getD (o2.length-dd) 0])from rfl)) ?_
       refine hx (bI 1 rfl rfl rfl Tryz.underlying27 Tryz.underlying27 (by exact .inl rfl) eO rfl (fun m=>Src.bZ (m.ord 0 rfl)) aR (by unfold maxLen;omega) (by omega) (fun u=> ?_))
       refine aB (fun m=>(m.own 0 rfl).slice) ?_
       rintro⟨A_x,c_x,rfl,hc_x⟩
       refine aB (fun m=>(m.ord 0 rfl).2.1) fun hA_x=> ?_
       refine aU (fun w m=>m.bU 0 rfl (show _=aG 5 1 (.slice A_x (o2.length+1) c_x) (o2.length+1) (aQ (o2++[o2.getD (o2.length-dd) 0]))from congrArg (aG _ _ _ _) (br _ _).symm)) ?_
       have hl1:o2.length+1=(o2++[o2.getD (o2.length-dd) 0]).length:=by simp
       rw[hl1]at hc_x hA_x ⊢
       refine hy (fun _=>ab rfl)<|ai<|al (ρ' :=[(6,_),(49,_),(11,_),(37,_),(35,_),(29,_),(10,_),(9,_),(8,_),(7,_),(14,_),(0,_),(1,_)]) ⟨rfl,rfl,rfl,rfl,rfl,rfl,rfl,rfl,rfl,rfl,rfl,rfl,rfl,trivial⟩<|ak (X' :=[_,_]) (S' :=[_,_]) (fun _ m=>m)<|aS<|ag<|aj<|hy (fun _=>aa rfl)<|hy (fun _=>aN rfl rfl (bE (by omega) (by omega)))<|hy (fun _=>ab rfl)<|ai<|al (ρ' :=[(11,_),(6,_),(49,_),(37,_),(35,_),(29,_),(10,_),(9,_),(8,_),(7,_),(14,_),(0,_),(1,_)]) ⟨rfl,rfl,rfl,rfl,rfl,rfl,rfl,rfl,rfl,rfl,rfl,rfl,rfl,trivial⟩<| ?_
       refine iB (k2+1) (o2++[o2.getD (o2.length-dd) 0]) A_x c_x ⟨rfl,rfl,rfl,rfl,rfl,rfl,rfl,rfl,rfl,rfl,rfl,rfl,trivial⟩ [0] rfl [0,1] rfl (⟨by omega,by rw[←hl1];omega,hag2⟩) (by omega)
      ·obtain rfl:k2=nn:=by omega
       have hag2:o2=made p o:=by rw[←hag,Nat.sub_self];rfl
       rw[hag2]
       refine bw (fun w m=>m.kM 0 rfl (View.drop (n:=p.length) (c:=c2) (k:=sz) (by omega) (by omega))) ?_
       refine a6 (fun m=>gz (m.rd 0 rfl)) ?_
       rintro⟨hl_p2,hA_p2⟩
       refine bL<|ao<|ao<|aC<|ag<|aj<|hy (fun _=>aa rfl)<|hy (fun _=>aa rfl)<|hy (fun _=>ec rfl rfl Tryz.underlying27 dW rfl (by omega))<|hy (fun _=>ab rfl)<|ai<|al (ρ' :=[(0,_),(49,_),(11,_),(6,_),(37,_),(35,_),(29,_),(10,_),(9,_),(8,_),(7,_),(14,_),(1,_)]) ⟨rfl,rfl,rfl,rfl,rfl,rfl,rfl,rfl,rfl,rfl,rfl,rfl,rfl,trivial⟩<|aS<| ?_
       rw[hdl]
       refine gy (p.drop sz) (made p o) _ (c2-sz) A4 c4 ⟨rfl,rfl,rfl,trivial⟩ [0] rfl [0,2] rfl (⟨by rw[←hdl];omega,by rw[←hdl];omega,hmn,hU⟩) (by rw[←hdl];omega)
 ·have hp0:p=[]:=List.eq_nil_of_length_eq_zero (by omega)
  rw[hp0,oa]at hU
  rw[←hU]
  refine bL<|ao<|ao<|aC<|ag<|ah<|aj<|hy (fun _=>aa rfl)<|hy (fun _=>ab rfl)<|hy (fun _=>ab rfl)<|ai<|al (ρ' :=[(5,_),(4,_),(14,_),(0,_),(6,_),(1,_)]) ⟨rfl,rfl,rfl,rfl,rfl,rfl,trivial⟩<|ag<|aV<| ?_
  exact dh trivial rfl rfl rfl [0] rfl [] rfl ⟨_,rfl,rfl,rfl⟩
end Go.Proofs.YtmibdabdlgmafaaGreatDoor
end
section
set_option maxRecDepth 20000
set_option maxHeartbeats 4000000
namespace Go.Proofs.YtmibdabdlgmafaaGreatDoor
open Go.Eng Go.Hx
theorem pJ{f:List UInt8}{most:Int}(h:gr f=none):cP f most=([],2):=by unfold cP;rw[h]
theorem qG{f:List UInt8}{most:Int}{k:Nat}(h:gr f=some k)(hm:most<(k:Int)):cP f most=([],3):=by unfold cP;rw[h];simp only;rw[if_pos hm]
theorem sy{f:List UInt8}{most:Int}{k:Nat}(h:gr f=some k)(hm:¬most<(k:Int)):cP f most=fC f k:=by unfold cP;rw[h];simp only;rw[if_neg hm]
theorem tC{f:List UInt8}{k:Nat}(h:gr f=some k):10≤f.length∧k<4294967296:=by
 unfold gr at h
 split at h
 ·cases h
 ·rename_i hq
  cases h
  exact⟨by have:¬f.length<10:=fun e=>hq (.inl e);omega,AT _⟩
theorem E3{A:Option Addr}{c:Nat}{f:List UInt8}{most:Int}(hc:f.length≤c)(hn:f.length≤10000000)(hm:most≤1000000):cf Tryz.prog 155 [.slice A f.length c,.int .i64 most] [] [c6 1 A f.length (aQ f)] (fun v_ X_ S_=>∃v,v_=(.tuple #[v,.int .i64 (cP f most).2])∧X_=[aG 5 1 v (cP f most).1.length (aQ (cP f most).1)]∧S_=[]):=by
 refine AO (N:=54) Tryz.func155 rfl rfl (by simp) fun b=> ?_
 refine a6 (fun m=>gz (m.rd 0 rfl)) ?_
 rintro⟨hl_r,hA_r⟩
 refine ah<|aj<| ?_
 refine hx (aP sA (fun g4=> ?_))
 refine aU (fun w m=>m.bU 0 rfl (show _=aJ g4 27 [.slice none 0 0]from rfl)) ?_
 refine hx (aP Gr (fun g5=> ?_))
 refine aU (fun w m=>m.bU 0 rfl (show _=aJ g5 47 [.int .i64 0]from rfl)) ?_
 rcases hL:gr f with _|k
 ·refine ai<|ak (X' :=[_,_]) (S' :=[_]) (fun _ m=>m)<|ag<|ah<|aj<|hy (fun _=>jV rfl rfl)<|u9 rfl rfl<|ai<|al (ρ' :=[(5,_),(4,_),(0,_),(1,_)]) ⟨rfl,rfl,rfl,rfl,trivial⟩<|ag<|ah<|aj<|hy (fun _=>aa rfl)<| ?_
  refine hx (aq rfl Tryz.call211 (rh (by omega) (by omega) rfl) [] rfl [0] rfl ?_)
  rintro _ _ _ ⟨rfl,rfl,rfl⟩
  refine hy (fun _=>aa rfl)<|hy (fun _=>au rfl rfl)<|hy (fun _=>au rfl rfl)<|hy (fun _=>ab rfl)<| ?_
  refine cH (dF 0 rfl rfl rfl w7 rfl (by first|exact Nat.le_of_ble_eq_true rfl|simp) ?_)
  refine ai<|al (ρ' :=[(6,_),(5,_),(4,_),(0,_),(1,_)]) ⟨rfl,rfl,rfl,rfl,rfl,trivial⟩<|ak (X' :=[_,_]) (S' :=[_]) (fun _ m=>m)<|ag<|ah<|aj<|hy (fun m=>aw rfl kW (aA (m.aX 0 rfl) rfl))<|hy (fun _=>cx rfl rfl)<|hy (fun m=>aw rfl kW (aA (m.aX 0 rfl) rfl))<| ?_
  refine hx (gq rfl Tryz.call212 (nJ) [] rfl [] rfl ?_ ?_)
  ·rintro _ _ _ ⟨rfl,rfl,rfl,q1⟩
   refine dX<|iy<| ?_
   rw[hL]
   rw[(pJ hL)]
   refine lR (by simp) Tryz.call210 (fQ) [1,0] rfl [] rfl ?_
   rintro _ _ _ ⟨rfl,rfl,rfl⟩
   refine oT (fun w m=>m.dy (r' :=aG 5 1 (.slice none 0 0) 0 []) (.refl _ _) (Own.nil _ _ _ _) (fun k hk=>hk.elim)) ?_
   exact gG rfl rfl rfl dU kW (fun m=>aA (m.aX 1 rfl) (i:=0) rfl) (fun m=>aA (m.aX 2 rfl) (i:=0) rfl) [0] rfl [] rfl ⟨_,rfl,rfl,rfl⟩
  ·rintro _ _ _ ⟨rfl,rfl,rfl,q1⟩
   exact absurd q1 (by rw[hL];simp)
 ·refine ai<|ak (X' :=[_,_]) (S' :=[_]) (fun _ m=>m)<|ag<|ah<|aj<|hy (fun _=>jV rfl rfl)<|u9 rfl rfl<|ai<|al (ρ' :=[(5,_),(4,_),(0,_),(1,_)]) ⟨rfl,rfl,rfl,rfl,trivial⟩<|ag<|ah<|aj<|hy (fun _=>aa rfl)<| ?_
  refine hx (aq rfl Tryz.call211 (rh (by omega) (by omega) (by omega)) [] rfl [0] rfl ?_)
  rintro _ _ _ ⟨rfl,rfl,rfl⟩
  refine hy (fun _=>aa rfl)<|hy (fun _=>au rfl rfl)<|hy (fun _=>au rfl rfl)<|hy (fun _=>ab rfl)<| ?_
  refine cH (dF 0 rfl rfl rfl w7 rfl (by first|exact Nat.le_of_ble_eq_true rfl|simp) ?_)
  refine ai<|al (ρ' :=[(6,_),(5,_),(4,_),(0,_),(1,_)]) ⟨rfl,rfl,rfl,rfl,rfl,trivial⟩<|ak (X' :=[_,_]) (S' :=[_]) (fun _ m=>m)<|ag<|ah<|aj<|hy (fun m=>aw rfl kW (aA (m.aX 0 rfl) rfl))<|hy (fun _=>cx rfl rfl)<|hy (fun m=>aw rfl kW (aA (m.aX 0 rfl) rfl))<| ?_
  refine hx (gq rfl Tryz.call212 (nJ) [] rfl [] rfl ?_ ?_)
  ·rintro _ _ _ ⟨rfl,rfl,rfl,q1⟩
   refine dX<|iy<| ?_
   exact absurd q1 (by rw[hL];simp)
  ·rintro _ _ _ ⟨rfl,rfl,rfl,q1⟩
   rw[hL,Option.getD_some]
   refine ai<|al (ρ' :=[(6,_),(5,_),(4,_),(0,_),(1,_)]) ⟨rfl,rfl,rfl,rfl,rfl,trivial⟩<|ak (X' :=[_,_]) (S' :=[_]) (fun _ m=>m)<|ag<|ah<|aj<|hy (fun _=>aa rfl)<|hy (fun _=>aa rfl)<|hy (fun _=>p9 rfl rfl)<| ?_
   refine hx (gq rfl Tryz.call212 (nJ) [] rfl [] rfl ?_ ?_)
   ·rintro _ _ _ ⟨rfl,rfl,rfl,q2⟩
    refine dX<|iy<| ?_
    rw[(qG hL (Int.not_le.1 (of_decide_eq_false q2)))]
    refine lR (by simp) Tryz.call210 (fQ) [1,0] rfl [] rfl ?_
    rintro _ _ _ ⟨rfl,rfl,rfl⟩
    refine oT (fun w m=>m.dy (r' :=aG 5 1 (.slice none 0 0) 0 []) (.refl _ _) (Own.nil _ _ _ _) (fun k hk=>hk.elim)) ?_
    exact gG rfl rfl rfl dU kW (fun m=>aA (m.aX 1 rfl) (i:=0) rfl) (fun m=>aA (m.aX 2 rfl) (i:=0) rfl) [0] rfl [] rfl ⟨_,rfl,rfl,rfl⟩
   ·rintro _ _ _ ⟨rfl,rfl,rfl,q2⟩
    obtain⟨h10,hk32⟩:=tC hL
    have hkm:(k:Int)≤most:=of_decide_eq_true q2
    have hopen:=sy hL (Int.not_lt.2 hkm)
    refine aU (fun w m=>m.kM 0 rfl (View.sub (n:=f.length) (c:=c) (k:=6) (m:=f.length-10) (by omega) (by omega))) ?_
    refine aB (fun m=>gz (m.rd 0 rfl)) ?_
    rintro⟨hl_p,hA_p⟩
    refine ai<|al (ρ' :=[(6,_),(5,_),(4,_),(0,_),(1,_)]) ⟨rfl,rfl,rfl,rfl,rfl,trivial⟩<|ak (X' :=[_,_]) (S' :=[_,_]) (fun _ m=>m)<|ag<|ah<|aj<|hy (fun _=>aa rfl)<|hy (fun _=>aa rfl)<|hy (fun _=>aW rfl Tryz.underlying27)<|hy (fun _=>yV (cg rfl rfl (bE (by omega) (by omega))) ((show Value.int .i64 ((f.length:Int)-4)= .int .i64 ((f.length-4:Nat):Int) by congr 1;omega)))<|hy (fun _=>yV (eA rfl rfl rfl Tryz.underlying27 dW (show((6:Nat):Int)=6 from rfl) rfl (by omega) (by omega)) ((show Value.slice (if c=6 then A else A.map (·.add (6*1))) (f.length-4-6) (c-6)= .slice (if c=6 then A else A.map (·.add (6*1))) (f.length-10) (c-6) by congr 1)))<| ?_
    refine hx (aq rfl Tryz.call117 (rW (by omega)) [] rfl [0] rfl ?_)
    rintro _ _ _ ⟨v,rfl,rfl,rfl⟩
    refine aB (fun m=>(m.own 0 rfl).slice) ?_
    rintro⟨A_x,c_x,rfl,hc_x⟩
    refine aB (fun m=>(m.ord 0 rfl).2.1) fun hA_x=> ?_
    have hbl:f.length-10=(dg f).length:=by unfold dg;rw[List.length_take,List.length_drop];omega
    have hb2:(f.drop 6).take (dg f).length=dg f:=by rw[←hbl];rfl
    rw[hbl,hb2]
    rw[hbl]at hc_x
    refine cH (dF 2 rfl rfl rfl o7 rfl (by first|exact Nat.le_of_ble_eq_true rfl|simp) ?_)
    refine ai<|al (ρ' :=[(6,_),(5,_),(4,_),(0,_),(1,_)]) ⟨rfl,rfl,rfl,rfl,rfl,trivial⟩<|ak (X' :=[_,_,_]) (S' :=[_,_]) (fun _ m=>m)<|ag<|ah<|ah<|aj<|hy (fun _=>aa rfl)<| ?_
    refine hx (aq rfl Tryz.call213 (BX (by omega) (by omega) rfl) [] rfl [1] rfl ?_)
    rintro _ _ _ ⟨rfl,rfl,rfl⟩
    refine ai<|al (ρ' :=[(28,_),(6,_),(5,_),(4,_),(0,_),(1,_)]) ⟨rfl,rfl,rfl,rfl,rfl,rfl,trivial⟩<|ak (X' :=[_,_,_]) (S' :=[_,_]) (fun _ m=>m)<|ag<| ?_
    refine cC rfl (fun hpk=> ?_) (fun hpk=> ?_)
    ·have hu:uH f k=jo (k:Int) (dg f) []:=by
      unfold uH
      exact if_pos hpk.2
     have hkz:(k:Int)≤10000000:=by omega
     have hul:=ou (most:=(k:Int)) (dg f) [] (by simp)
     have hbn:(dg f).length≤10000000:=by omega
     refine ah<|aj<|hy (fun m=>aw rfl dU (aA (m.aX 0 rfl) rfl))<|hy (fun _=>aa rfl)<| ?_
     refine hx (cI rfl Tryz.call214 (Az hc_x hbn hkz) [] rfl (.x 1 rfl .own .nil) ?_)
     rintro _ _ _ ⟨v2,rfl,rfl,rfl⟩
     refine⟨rfl, ?_⟩
     refine aB (fun m=>(m.own 0 rfl).slice) ?_
     rintro⟨A_x2,c_x2,rfl,hc_x2⟩
     refine aB (fun m=>(m.ord 0 rfl).2.1) fun hA_x2=> ?_
     refine hy (fun _=>aa rfl)<|hy (fun _=>au rfl rfl)<|hy (fun _=>au rfl rfl)<| ?_
     refine cH (dF 1 rfl rfl rfl o7 rfl (by first|exact Nat.le_of_ble_eq_true rfl|simp) ?_)
     refine cH (dF 3 rfl rfl rfl w7 rfl (by first|exact Nat.le_of_ble_eq_true rfl|simp) ?_)
     refine ai<|al (ρ' :=[(28,_),(6,_),(5,_),(4,_),(0,_),(1,_)]) ⟨rfl,rfl,rfl,rfl,rfl,rfl,trivial⟩<|ak (X' :=[_,_,_,_]) (S' :=[_,_]) (fun _ m=>m)<|ag<|aj<|hy (fun m=>aw rfl kW (aA (m.aX 0 rfl) rfl))<|hy (fun _=>cx rfl rfl)<| ?_
     refine hx (gq rfl Tryz.call212 (nJ) [] rfl [] rfl ?_ ?_)
     ·rintro _ _ _ ⟨rfl,rfl,rfl,q3⟩
      refine dX<|iy<| ?_
      have hno:cP f most=([],2):=by
       rw[hopen]
       unfold fC
       rw[hu]
       exact if_pos (of_decide_eq_false q3)
      rw[hno]
      refine lR (by simp) Tryz.call210 (fQ) [1,0] rfl [] rfl ?_
      rintro _ _ _ ⟨rfl,rfl,rfl⟩
      refine oT (fun w m=>m.dy (r' :=aG 5 1 (.slice none 0 0) 0 []) (.refl _ _) (Own.nil _ _ _ _) (fun k hk=>hk.elim)) ?_
      exact gG rfl rfl rfl dU kW (fun m=>aA (m.aX 1 rfl) (i:=0) rfl) (fun m=>aA (m.aX 2 rfl) (i:=0) rfl) [0] rfl [] rfl ⟨_,rfl,rfl,rfl⟩
     ·rintro _ _ _ ⟨rfl,rfl,rfl,q3⟩
      have hE0:(jo (k:Int) (dg f) []).2=0:=of_decide_eq_true q3
      obtain⟨u,hu2⟩:∃u,jo (k:Int) (dg f) []=(u,0):=⟨_,Prod.ext rfl hE0⟩
      rw[hu2]at hu hul
      rw[hu2]
      dsimp only
      have hun:u.length≤1000000:=by
       rcases hul.1 with h|h
       ·have h:(u.length:Int)≤k:=h
        omega
       ·have h:u=[]:=h
        rw[h];exact Nat.zero_le _
      refine ai<|al (ρ' :=[(28,_),(6,_),(5,_),(4,_),(0,_),(1,_)]) ⟨rfl,rfl,rfl,rfl,rfl,rfl,trivial⟩<|ak (X' :=[_,_,_,_]) (S' :=[_,_]) (fun _ m=>m)<|ag<|ah<|aj<|hy (fun m=>aw rfl dU (aA (m.aX 1 rfl) rfl))<|hy (fun _=>aW rfl Tryz.underlying27)<|hy (fun _=>aa rfl)<|hy (fun _=>cx rfl rfl)<| ?_
      refine hx (gq rfl Tryz.call212 (nJ) [] rfl [] rfl ?_ ?_)
      ·rintro _ _ _ ⟨rfl,rfl,rfl,q4⟩
       refine dX<|iy<| ?_
       have hno:cP f most=([],2):=by
        rw[hopen]
        unfold fC
        rw[hu]
        exact(if_neg (by simp)).trans (if_pos (by have:=of_decide_eq_false q4;simp only;omega))
       rw[hno]
       refine lR (by simp) Tryz.call210 (fQ) [1,0] rfl [] rfl ?_
       rintro _ _ _ ⟨rfl,rfl,rfl⟩
       refine oT (fun w m=>m.dy (r' :=aG 5 1 (.slice none 0 0) 0 []) (.refl _ _) (Own.nil _ _ _ _) (fun k hk=>hk.elim)) ?_
       exact gG rfl rfl rfl dU kW (fun m=>aA (m.aX 1 rfl) (i:=0) rfl) (fun m=>aA (m.aX 2 rfl) (i:=0) rfl) [0] rfl [] rfl ⟨_,rfl,rfl,rfl⟩
      ·rintro _ _ _ ⟨rfl,rfl,rfl,q4⟩
       have hlen:(u).length=k:=by have:=of_decide_eq_true q4;omega
       have hgo:cP f most=if gk (cG u)≠f.drop (f.length-4)then([],7)else(u,0):=by
        rw[hopen]
        unfold fC
        rw[hu]
        exact(if_neg (by simp)).trans (if_neg (by simp only;omega))
       refine aU (fun w m=>m.kM 1 rfl (View.drop (n:=f.length) (c:=c) (k:=f.length-4) (by omega) (by omega))) ?_
       refine aB (fun m=>gz (m.rd 0 rfl)) ?_
       rintro⟨hl_t,hA_t⟩
       have hcl:=iW u
       refine ai<|al (ρ' :=[(28,_),(6,_),(5,_),(4,_),(0,_),(1,_)]) ⟨rfl,rfl,rfl,rfl,rfl,rfl,trivial⟩<|ak (X' :=[_,_,_,_]) (S' :=[_,_,_]) (fun _ m=>m)<|ag<|ah<|yr [43,44,45,46,47,48,49,50,51,52] [0,0,0,0] [0,1,2] rfl rfl [1,2,8,9] [(0,some 0),(3,some 2),(4,some 4),(5,some 2),(6,some 2),(7,some 2),(1,none),(2,none),(8,none),(9,none)] (by kernel_rfl) (by kernel_rfl) (by kernel_rfl) rfl 99<|cm (fun m=>aw rfl dU (aA (m.aX 1 rfl) rfl))<|an (aa rfl)<|an (aa rfl)<|an (aW rfl Tryz.underlying27)<|an (yV (cg rfl rfl (bE (by omega) (by omega))) ((show Value.int .i64 ((f.length:Int)-4)= .int .i64 ((f.length-4:Nat):Int) by congr 1;omega)))<|an (ec rfl rfl Tryz.underlying27 dW rfl (by omega))<| ?_
       refine eb (cI rfl Tryz.call180 (ob (by omega)) [] rfl (.x 2 rfl .own .nil) ?_)
       rintro _ _ _ ⟨rfl,rfl,rfl⟩
       refine⟨rfl, ?_⟩
       refine⟨(fun _=>wk [0,0,0,0] [0,1,2] rfl rfl), ?_⟩
       refine eb (aq rfl Tryz.call179 (jh (by omega)) [] rfl [] rfl ?_)
       rintro _ _ _ ⟨v3,rfl,rfl,rfl⟩
       refine⟨(fun _=>wk [1,1,1,1] [0,1,2] rfl rfl), ?_⟩
       refine cd (fun m=>(m.own 0 rfl).slice) ?_
       rintro⟨A_x3,c_x3,rfl,hc_x3⟩
       refine cd (fun m=>(m.ord 0 rfl).2.1) fun hA_x3=> ?_
       refine eb (cI rfl Tryz.call215 (nF) [] rfl (.x 0 rfl .own (.s 0 rfl .nil)) ?_)
       rintro _ _ _ ⟨rfl,rfl,rfl⟩
       refine⟨rfl, ?_⟩
       refine⟨(fun _=>wk [1,1,1,1] [0,1,2] rfl rfl), ?_⟩
       refine eb (gq rfl Tryz.call212 (nJ) [] rfl [] rfl ?_ ?_)
       ·rintro _ _ _ ⟨rfl,rfl,rfl,q5⟩
        refine Ct<|dX<|iy<| ?_
        rw[(hgo.trans (if_pos (of_decide_eq_false q5)))]
        refine lR (by simp) Tryz.call210 (fQ) [2,1] rfl [] rfl ?_
        rintro _ _ _ ⟨rfl,rfl,rfl⟩
        refine oT (fun w m=>m.dy (r' :=aG 5 1 (.slice none 0 0) 0 []) (.refl _ _) (Own.nil _ _ _ _) (fun k hk=>hk.elim)) ?_
        exact gG rfl rfl rfl dU kW (fun m=>aA (m.aX 1 rfl) (i:=0) rfl) (fun m=>aA (m.aX 2 rfl) (i:=0) rfl) [0] rfl [] rfl ⟨_,rfl,rfl,rfl⟩
       ·rintro _ _ _ ⟨rfl,rfl,rfl,q5⟩
        refine⟨(fun _=>wk [1,1,1,1] [0,1,2] rfl rfl), ?_⟩
        rw[hgo.trans (if_neg (fun h=>h (of_decide_eq_true q5)))]
        refine zR<|al (ρ' :=[(28,_),(6,_),(5,_),(4,_),(0,_),(1,_)]) ⟨rfl,rfl,rfl,rfl,rfl,rfl,trivial⟩<|ak (X' :=[_,_,_,_,_]) (S' :=[_,_,_]) (fun _ m=>m)<|ag<|ah<|aj<|hy (fun m=>aw rfl dU (aA (m.aX 2 rfl) rfl))<| ?_
        refine cH (dF 2 rfl rfl rfl o7 rfl (by first|exact Nat.le_of_ble_eq_true rfl|simp) ?_)
        refine cH (dF 2 rfl rfl rfl w7 rfl (by first|exact Nat.le_of_ble_eq_true rfl|simp) ?_)
        refine ai<|al (ρ' :=[(28,_),(6,_),(5,_),(4,_),(0,_),(1,_)]) ⟨rfl,rfl,rfl,rfl,rfl,rfl,trivial⟩<|ak (X' :=[_,_,_,_,_]) (S' :=[_,_,_]) (fun _ m=>m)<|ag<|aV<| ?_
        refine vT trivial ?_
        refine lR (by simp) Tryz.call210 (sv) [1,0] rfl [] rfl ?_
        rintro _ _ _ ⟨rfl,rfl,rfl⟩
        exact gG rfl rfl rfl dU kW (fun m=>aA (m.aX 0 rfl) (i:=0) rfl) (fun m=>aA (m.aX 1 rfl) (i:=0) rfl) [3] rfl [] rfl ⟨_,rfl,rfl,rfl⟩
    ·have hu:uH f k=(dg f,0):=by
      unfold uH
      exact if_neg fun e=>hpk ⟨by rw[hL];rfl,e⟩
     refine aD<|ag<|ah<|aj<|hy (fun m=>aw rfl dU (aA (m.aX 0 rfl) rfl))<|hy (fun _=>aW rfl Tryz.underlying27)<|hy (fun _=>aa rfl)<|hy (fun _=>cx rfl rfl)<| ?_
     refine hx (gq rfl Tryz.call212 (nJ) [] rfl [] rfl ?_ ?_)
     ·rintro _ _ _ ⟨rfl,rfl,rfl,q4⟩
      refine dX<|iy<| ?_
      have hno:cP f most=([],2):=by
       rw[hopen]
       unfold fC
       rw[hu]
       exact(if_neg (by simp)).trans (if_pos (by have:=of_decide_eq_false q4;simp only;omega))
      rw[hno]
      refine lR (by simp) Tryz.call210 (fQ) [0,1] rfl [] rfl ?_
      rintro _ _ _ ⟨rfl,rfl,rfl⟩
      refine oT (fun w m=>m.dy (r' :=aG 5 1 (.slice none 0 0) 0 []) (.refl _ _) (Own.nil _ _ _ _) (fun k hk=>hk.elim)) ?_
      exact gG rfl rfl rfl dU kW (fun m=>aA (m.aX 1 rfl) (i:=0) rfl) (fun m=>aA (m.aX 2 rfl) (i:=0) rfl) [0] rfl [] rfl ⟨_,rfl,rfl,rfl⟩
     ·rintro _ _ _ ⟨rfl,rfl,rfl,q4⟩
      have hlen:((dg f)).length=k:=by have:=of_decide_eq_true q4;omega
      have hgo:cP f most=if gk (cG (dg f))≠f.drop (f.length-4)then([],7)else((dg f),0):=by
       rw[hopen]
       unfold fC
       rw[hu]
       exact(if_neg (by simp)).trans (if_neg (by simp only;omega))
      refine aU (fun w m=>m.kM 1 rfl (View.drop (n:=f.length) (c:=c) (k:=f.length-4) (by omega) (by omega))) ?_
      refine aB (fun m=>gz (m.rd 0 rfl)) ?_
      rintro⟨hl_t,hA_t⟩
      have hcl:=iW (dg f)
      refine ai<|al (ρ' :=[(28,_),(6,_),(5,_),(4,_),(0,_),(1,_)]) ⟨rfl,rfl,rfl,rfl,rfl,rfl,trivial⟩<|ak (X' :=[_,_,_]) (S' :=[_,_,_]) (fun _ m=>m)<|ag<|ah<|yr [43,44,45,46,47,48,49,50,51,52] [0,0,0] [0,1,2] rfl rfl [1,2,8,9] [(0,some 0),(3,some 2),(4,some 4),(5,some 2),(6,some 2),(7,some 2),(1,none),(2,none),(8,none),(9,none)] (by kernel_rfl) (by kernel_rfl) (by kernel_rfl) rfl 99<|cm (fun m=>aw rfl dU (aA (m.aX 0 rfl) rfl))<|an (aa rfl)<|an (aa rfl)<|an (aW rfl Tryz.underlying27)<|an (yV (cg rfl rfl (bE (by omega) (by omega))) ((show Value.int .i64 ((f.length:Int)-4)= .int .i64 ((f.length-4:Nat):Int) by congr 1;omega)))<|an (ec rfl rfl Tryz.underlying27 dW rfl (by omega))<| ?_
      refine eb (cI rfl Tryz.call180 (ob (by omega)) [] rfl (.x 1 rfl .own .nil) ?_)
      rintro _ _ _ ⟨rfl,rfl,rfl⟩
      refine⟨rfl, ?_⟩
      refine⟨(fun _=>wk [0,0,0] [0,1,2] rfl rfl), ?_⟩
      refine eb (aq rfl Tryz.call179 (jh (by omega)) [] rfl [] rfl ?_)
      rintro _ _ _ ⟨v2,rfl,rfl,rfl⟩
      refine⟨(fun _=>wk [1,1,1] [0,1,2] rfl rfl), ?_⟩
      refine cd (fun m=>(m.own 0 rfl).slice) ?_
      rintro⟨A_x2,c_x2,rfl,hc_x2⟩
      refine cd (fun m=>(m.ord 0 rfl).2.1) fun hA_x2=> ?_
      refine eb (cI rfl Tryz.call215 (nF) [] rfl (.x 0 rfl .own (.s 0 rfl .nil)) ?_)
      rintro _ _ _ ⟨rfl,rfl,rfl⟩
      refine⟨rfl, ?_⟩
      refine⟨(fun _=>wk [1,1,1] [0,1,2] rfl rfl), ?_⟩
      refine eb (gq rfl Tryz.call212 (nJ) [] rfl [] rfl ?_ ?_)
      ·rintro _ _ _ ⟨rfl,rfl,rfl,q5⟩
       refine Ct<|dX<|iy<| ?_
       rw[(hgo.trans (if_pos (of_decide_eq_false q5)))]
       refine lR (by simp) Tryz.call210 (fQ) [1,2] rfl [] rfl ?_
       rintro _ _ _ ⟨rfl,rfl,rfl⟩
       refine oT (fun w m=>m.dy (r' :=aG 5 1 (.slice none 0 0) 0 []) (.refl _ _) (Own.nil _ _ _ _) (fun k hk=>hk.elim)) ?_
       exact gG rfl rfl rfl dU kW (fun m=>aA (m.aX 1 rfl) (i:=0) rfl) (fun m=>aA (m.aX 2 rfl) (i:=0) rfl) [0] rfl [] rfl ⟨_,rfl,rfl,rfl⟩
      ·rintro _ _ _ ⟨rfl,rfl,rfl,q5⟩
       refine⟨(fun _=>wk [1,1,1] [0,1,2] rfl rfl), ?_⟩
       rw[hgo.trans (if_neg (fun h=>h (of_decide_eq_true q5)))]
       refine zR<|al (ρ' :=[(28,_),(6,_),(5,_),(4,_),(0,_),(1,_)]) ⟨rfl,rfl,rfl,rfl,rfl,rfl,trivial⟩<|ak (X' :=[_,_,_,_]) (S' :=[_,_,_]) (fun _ m=>m)<|ag<|ah<|aj<|hy (fun m=>aw rfl dU (aA (m.aX 1 rfl) rfl))<| ?_
       refine cH (dF 1 rfl rfl rfl o7 rfl (by first|exact Nat.le_of_ble_eq_true rfl|simp) ?_)
       refine cH (dF 3 rfl rfl rfl w7 rfl (by first|exact Nat.le_of_ble_eq_true rfl|simp) ?_)
       refine ai<|al (ρ' :=[(28,_),(6,_),(5,_),(4,_),(0,_),(1,_)]) ⟨rfl,rfl,rfl,rfl,rfl,rfl,trivial⟩<|ak (X' :=[_,_,_,_]) (S' :=[_,_,_]) (fun _ m=>m)<|ag<|aV<| ?_
       refine vT trivial ?_
       refine lR (by simp) Tryz.call210 (sv) [1,0] rfl [] rfl ?_
       rintro _ _ _ ⟨rfl,rfl,rfl⟩
       exact gG rfl rfl rfl dU kW (fun m=>aA (m.aX 0 rfl) (i:=0) rfl) (fun m=>aA (m.aX 1 rfl) (i:=0) rfl) [3] rfl [] rfl ⟨_,rfl,rfl,rfl⟩
end Go.Proofs.YtmibdabdlgmafaaGreatDoor
end
section
set_option maxRecDepth 20000
namespace Go.Proofs.YtmibdabdlgmafaaGreatDoor
open Go.Eng Go.Hx
structure sG where
 h:List UInt32
 n:Nat
 A:Option Addr
 c:Nat
 rest:List UInt8
def me(h:List UInt32)(n:Nat)(A:Option Addr)(m c:Nat):List Value:=dS h++[.int .i64 (n:Int),.slice A m c]
abbrev ma(g:Nat)(s:sG):bg:=fv [aJ g 308 (me s.h s.n s.A s.rest.length s.c),aG 5 1 (.slice s.A s.rest.length s.c) s.rest.length (aQ s.rest)]
structure sG.ok(s:sG)(all:List UInt8):Prop where
 len:s.h.length=8
 n:s.n=all.length
 F5:∃d,d++s.rest=all∧d.length % 64=0∧s.h=e8 lL d
theorem jq{h:List UInt32}{n:Nat}{A:Option Addr}{m c:Nat}(hh:h.length=8):(me h n A m c).length=10:=by simp[me,dS,hh]
theorem vI{h:List UInt32}{n:Nat}{A:Option Addr}{m c:Nat}(hh:h.length=8):(me h n A m c)[8]? =some (.int .i64 (n:Int)):=by
 rw[me,List.getElem?_append_right (by rw[bo];omega),bo,hh];rfl
theorem se{h:List UInt32}{n:Nat}{A:Option Addr}{m c:Nat}(hh:h.length=8):(me h n A m c)[9]? =some (.slice A m c):=by
 rw[me,List.getElem?_append_right (by rw[bo];omega),bo,hh];rfl
theorem yW{h:List UInt32}{n:Nat}{A:Option Addr}{m c:Nat}{j:Nat}{u:Value}(hu:(dS h)[j]? =some u):(me h n A m c)[j]? =some u:=by
 rw[me,List.getElem?_append_left ((List.getElem?_eq_some_iff.1 hu).1)];exact hu
theorem xN{h:List UInt32}{n n' :Nat}{A:Option Addr}{m c:Nat}(hh:h.length=8):(me h n A m c).set 8 (.int .i64 (n' :Int))=me h n' A m c:=by
 rw[me,List.set_append_right _ _ (by rw[bo];omega),bo,hh];rfl
theorem r9{h:List UInt32}{n:Nat}{A A' :Option Addr}{m c m' c' :Nat}(hh:h.length=8):(me h n A m c).set 9 (.slice A' m' c')=me h n A' m' c' :=by
 rw[me,List.set_append_right _ _ (by rw[bo];omega),bo,hh];rfl
theorem B0{h h' :List UInt32}{n:Nat}{A:Option Addr}{m c:Nat}(hh:h.length=8)(hh' :h'.length=8):bs (me h n A m c) 0 (dS h')=me h' n A m c:=by
 rw[bs,List.take_zero,List.nil_append,Nat.zero_add,bo,hh',me,List.drop_append_of_le_length (by rw[bo];omega),List.drop_of_length_le (by rw[bo];omega)];rfl
theorem E8:cf Tryz.prog 172 [] [] [] (fun v_ X_ S_=>∃g,v_=(.pointer (some ⟨g,0,none⟩))∧X_=[ma g ⟨lL,0,none,0,[]⟩]∧S_=[]):=by
 refine aO (N:=4) Tryz.func172 rfl rfl (by simp) fun b=> ?_
 refine ah<|aj<|hy (fun _=>ab rfl)<|ai<|ag<|ah<|aj<|hy (fun _=>yV (sf (n:=8) uV (by kernel_rfl) rfl (by kernel_rfl) rfl (by kernel_rfl) (by kernel_rfl) (qt (l:=[1779033703,3144134277,1013904242,2773480762,1359893119,2600822924,528734635,1541459225]))) ((rfl:_=Value.agg (dS lL).toArray)))<|hy (fun _=>yV (cn Ci rfl rfl (by kernel_rfl) (.cons (o:=0) (sz:=8) (by kernel_rfl) rfl rfl (Nat.le_of_ble_eq_true rfl) .nil)) ((rfl:_=Value.agg (me lL 0 none 0 0).toArray)))<| ?_
 refine hx (cE rfl (fun g3=> ?_))
 refine hy (fun _=>ab rfl)<|ai<|al (ρ' :=[(0,_)]) ⟨rfl,trivial⟩<|ak (X' :=[_]) (S' :=[]) (fun _ m=>m)<|ag<|aV<| ?_
 refine ak (fun w m=>m.bU 0 rfl (show _=aJ g3 308 (me lL 0 none 0 0)from congrArg (aJ _ _) (bB _))) ?_
 refine ak (fun w m=>m.dy (r' :=aG 5 1 (.slice none 0 0) 0 []) (.refl _ _) (Own.nil _ _ _ _) (fun k hk=>hk.elim)) ?_
 refine ak (X' :=ma g3 ⟨lL,0,none,0,[]⟩::_) (fun w m=>(m.perm (ar [1,0] _ [_,_] _ rfl)).pack) ?_
 exact bh trivial rfl rfl [0] rfl [] rfl ⟨_,rfl,rfl,rfl⟩
theorem CJ:sG.ok ⟨lL,0,none,0,[]⟩ []:=⟨rfl,rfl,[],rfl,rfl,rfl⟩
theorem vc{g:Nat}{s:sG}{B:Option Addr}{mb mc:Nat}{l:List UInt8}(hh:s.h.length=8)(hn:s.n+mb≤1000000000000000)(hr:s.rest.length+mb≤140737488355328):cf Tryz.prog 173 [.pointer (some ⟨g,0,none⟩),.slice B mb mc] [ma g s] [c6 1 B mb (aQ l),eM] (fun v_ X_ S_=>∃s1,v_=(.tuple #[])∧X_=[ma g s1]∧S_=[]∧(s1.rest.length<64∧∀all,s.ok all→s1.ok (all++l))):=by
 refine aO (N:=49) Tryz.func173 rfl rfl (by simp) fun b=> ?_
 refine a6 (fun m=>gz (m.rd 0 rfl)) ?_
 rintro⟨hl_r,hA_r⟩
 have hlm:l.length=mb:=hl_r
 have hl0:=jq (n:=s.n) (A:=s.A) (m:=s.rest.length) (c:=s.c) hh
 refine bw (fun w m=>(m.perm (ar [0] _ [_] _ rfl)).unpack) ?_
 refine ah<|aj<|hy (fun _=>aa rfl)<|hy (fun _=>bd rfl)<|hy (fun _=>aL rfl l8 (by decide))<|hy (fun m=>aw rfl fG ((m.aX 0 rfl).az 8 _ (vI hh)))<|hy (fun _=>aa rfl)<|hy (fun _=>aW rfl Tryz.underlying27)<|hy (fun _=>aN rfl rfl (bE (by omega) (by omega)))<|hy (fun _=>bd rfl)<|hy (fun _=>aL rfl l8 (by decide))<| ?_
 refine cH (cA 0 rfl rfl rfl tG rfl (by rw[hl0];decide) ?_)
 refine ai<|al (ρ' :=[(0,_),(1,_)]) ⟨rfl,rfl,trivial⟩<|ak (X' :=[_,_]) (S' :=[_,_]) (fun _ m=>m)<|ag<|ah<|aj<| ?_
 refine aU (fun w m=>m.bU 0 rfl (show _=aJ g 308 (me s.h (s.n+mb) s.A s.rest.length s.c)from by rw[Nat.zero_add,←Int.natCast_add,xN hh])) ?_
 refine hy (fun _=>aa rfl)<|hy (fun _=>aa rfl)<|hy (fun _=>bd rfl)<|hy (fun _=>aL rfl jQ (by decide))<|hy (fun m=>aw rfl dU ((m.aX 0 rfl).az 9 _ (se hh)))<|hy (fun _=>aa rfl)<| ?_
 refine hx (bI 1 rfl rfl rfl Tryz.underlying27 Tryz.underlying27 (by exact .inl rfl) eO rfl (fun m=>Src.bZ (m.rd 0 rfl)) aR (by unfold maxLen;omega) (by omega) (fun u=> ?_))
 refine aB (fun m=>(m.own 0 rfl).slice) ?_
 rintro⟨A_d1,c_d1,rfl,hc_d1⟩
 refine aB (fun m=>(m.ord 0 rfl).2.1) fun hA_d1=> ?_
 refine aU (fun w m=>m.bU 0 rfl (show _=aG 5 1 (.slice A_d1 (s.rest++l).length c_d1) (s.rest++l).length (aQ (s.rest++l))from by rw[List.length_append,hlm];simp[aQ])) ?_
 have hls:=jq (n:=s.n+mb) (A:=s.A) (m:=s.rest.length) (c:=s.c) hh
 refine hy (fun _=>bd rfl)<|hy (fun _=>aL rfl jQ (by decide))<| ?_
 refine cH (cA 1 rfl rfl rfl o7 rfl (by rw[hls];decide) ?_)
 refine ai<|al (ρ' :=[(0,_),(1,_)]) ⟨rfl,rfl,trivial⟩<|ak (X' :=[_,_]) (S' :=[_,_]) (fun _ m=>m)<|ag<|aK<| ?_
 refine bw (fun w m=>m.bU 0 rfl (show _=aJ g 308 (me s.h (s.n+mb) A_d1 (s.rest++l).length c_d1)from by rw[Nat.zero_add,r9 hh,List.length_append,hlm])) ?_
 have hlen:(s.rest++l).length=s.rest.length+mb:=by rw[List.length_append,hlm]
 refine tU (fun h A1 c1 q dn=>q.length) (fun h A1 c1 q dn=>[]) (fun h A1 c1 q dn=>[aJ g 308 (me h (s.n+mb) A1 q.length c1),aG 5 1 (.slice A1 q.length c1) q.length (aQ q)]) (fun h A1 c1 q dn=>[]) (fun h A1 c1 q dn=>h.length=8∧q.length≤c1∧dn++q=s.rest++l∧dn.length % 64=0∧∀D,D.length % 64=0→s.h=e8 lL D→h=e8 lL (D++dn)) s.h A_d1 c_d1 (s.rest++l) [] [(0,_),(1,_)] ⟨rfl,rfl,trivial⟩ [0,0] rfl [] rfl (⟨hh,(by omega),rfl,rfl,fun D _ e=>by rw[List.append_nil];exact e⟩) trivial (fun h A1 c1 q dn ⟨h8,hqc,hdq,hd64,hD⟩=> ?_)
 have hls:=jq (n:=s.n+mb) (A:=A1) (m:=q.length) (c:=c1) h8
 refine ah<|ah<|aj<|hy (fun _=>aa rfl)<|hy (fun _=>bd rfl)<|hy (fun _=>aL rfl jQ (by decide))<|hy (fun m=>aw rfl dU ((m.aX 0 rfl).az 9 _ (se h8)))<|hy (fun _=>aW rfl Tryz.underlying27)<|hy (fun _=>jS rfl rfl)<|ai<|al (ρ' :=[(27,_),(0,_),(1,_)]) ⟨rfl,rfl,rfl,trivial⟩<|ag<| ?_
 refine cC rfl (fun hge=> ?_) (fun hge=> ?_)
 ·have hq64:64≤q.length:=by omega
  refine aD<|ag<|aK<|ah<|cT [10,13] [(0,some 1),(1,some 0),(2,some 0),(3,some 0),(4,some 0),(5,some 1),(6,some 0),(7,some 0),(8,some 0),(9,some 0),(10,none),(11,some 1),(12,some 1),(13,none)] (by kernel_rfl) (by kernel_rfl) rfl 1<|an (aa rfl)<|an (aa rfl)<|an (bd rfl)<|an (aL rfl n9 (by decide))<|cm (fun m=>yV (a7 rfl qg ld (by rw[bo,h8]) (fun j u hu=>(m.aX 0 rfl).az j u (yW hu))) ((rfl:_=Value.agg (dS h).toArray)))<|an (aa rfl)<|an (bd rfl)<|an (aL rfl jQ (by decide))<|cm (fun m=>aw rfl dU ((m.aX 0 rfl).az 9 _ (se h8)))<|an (rN rfl rfl Tryz.underlying27 dW (show((64:Nat):Int)=64 from rfl) (by omega))<| ?_
  refine eb (cI rfl Tryz.call227 (FX (by omega) h8 (l:=(q.take 64))) [] rfl (.x 1 rfl (View.own.trans (View.take hq64)) (.s 1 rfl .nil)) ?_)
  rintro _ _ _ ⟨rfl,rfl,rfl⟩
  refine⟨rfl, ?_⟩
  refine⟨(fun _=>wk [0,0] [0,1] rfl rfl), ?_⟩
  refine an (bd rfl)<|an (aL rfl n9 (by decide))<| ?_
  have hb8:=iH h8 (q.take 64)
  refine jY (oq 0 rfl rfl rfl ld (by rw[bo,hb8]) gH (by rw[hls];decide) ⟨(fun h=>absurd h (by decide)), ?_⟩)
  refine gb (fun w m=>m.bU 0 rfl (show _=aJ g 308 (me (ea h (q.take 64)) (s.n+mb) A1 q.length c1)from by rw[Nat.zero_add,B0 h8 hb8])) ?_
  have hls2:=jq (n:=s.n+mb) (A:=A1) (m:=q.length) (c:=c1) hb8
  refine gb (X' :=aG 5 1 (.slice (if c1=64 then A1 else A1.map (·.add (64*1))) (q.length-64) (c1-64)) (q.length-64) ((aQ q).drop (64*1))::_) (fun w m=>(m.perm (ar [1] _ [_] _ rfl)).vd (View.q9 hq64 hqc)) ?_
  refine bF<|al (ρ' :=[(27,_),(0,_),(1,_)]) ⟨rfl,rfl,rfl,trivial⟩<|ak (X' :=[_,_]) (S' :=[_,_]) (fun _ m=>m)<|ag<|aj<|hy (fun _=>aa rfl)<|hy (fun _=>aa rfl)<|hy (fun _=>bd rfl)<|hy (fun _=>aL rfl jQ (by decide))<|hy (fun m=>aw rfl dU ((m.aX 1 rfl).az 9 _ (se hb8)))<|hy (fun _=>ec rfl rfl Tryz.underlying27 dW (show((64:Nat):Int)=64 from rfl) (by omega))<|hy (fun _=>bd rfl)<|hy (fun _=>aL rfl jQ (by decide))<| ?_
  refine cH (cA 1 rfl rfl rfl o7 rfl (by rw[hls2];decide) ?_)
  refine ai<|al (ρ' :=[(27,_),(0,_),(1,_)]) ⟨rfl,rfl,rfl,trivial⟩<|ak (X' :=[_,_]) (S' :=[_,_]) (fun _ m=>m)<|aS<| ?_
  have hqd:(q.drop 64).length=q.length-64:=List.length_drop
  have e9:(aQ q).drop (64*1)=aQ (q.drop 64):=by simp[aQ,List.map_drop]
  generalize hA2:(if c1=64 then A1 else A1.map (·.add (64*1)))=A2
  refine ak (fun w m=>m.bU 0 rfl (show _=aJ g 308 (me (ea h (q.take 64)) (s.n+mb) A2 (q.drop 64).length (c1-64))from by rw[Nat.zero_add,r9 hb8,hqd])) ?_
  refine ak (fun w m=>m.bU 1 rfl (show _=aG 5 1 (.slice A2 (q.drop 64).length (c1-64)) (q.drop 64).length (aQ (q.drop 64))from by rw[hqd,e9])) ?_
  refine oX (ea h (q.take 64)) A2 (c1-64) (q.drop 64) (dn++q.take 64) ⟨rfl,rfl,trivial⟩ [1,0] rfl [0,1] rfl (⟨hb8,by omega,by rw[List.append_assoc,List.take_append_drop];exact hdq,by rw[List.length_append,List.length_take];omega,fun D h1 h2=>by rw[←List.append_assoc,ox (by rw[List.length_append];omega) (by rw[List.length_take];omega),←hD D h1 h2]⟩) (by omega)
 ·refine bL<|ao<|ao<|aC<| ?_
  have hok:∀all,s.ok all→sG.ok ⟨h,s.n+mb,A1,c1,q⟩ (all++l):=fun all ok=>by
   obtain⟨D,e1,e2,e3⟩:=ok.F5
   refine⟨h8, ?_,D++dn, ?_, ?_,hD D e2 e3⟩
   ·show s.n+mb=_
    rw[List.length_append,ok.n,hlm]
   ·show(D++dn)++q=_
    rw[List.append_assoc,hdq,←List.append_assoc,e1]
   ·rw[List.length_append];omega
  refine ak (X' :=ma g ⟨h,s.n+mb,A1,c1,q⟩::_) (fun w m=>(m.perm (ar [0,0] _ [_,_] _ rfl)).pack) ?_
  exact fE trivial rfl [0] rfl [] rfl ⟨_,rfl,rfl,rfl,⟨(by show q.length<64;omega),hok⟩⟩
theorem Ao{h:List UInt32}{n:Nat}{A:Option Addr}{m c:Nat}(hh:h.length=8){z:List Value}(hz:z.length=10):bs (bs (bs z 0 (dS h)) 8 [.int .i64 (n:Int)]) 9 [.slice A m c]=me h n A m c:=by
 have hw:(dS h).length=8:=by rw[bo,hh]
 have e1:bs z 0 (dS h)=dS h++z.drop 8:=by simp[bs,hw]
 match hq:z.drop 8,(show(z.drop 8).length=2 by rw[List.length_drop,hz])with
 | [x,y],_=>
  rw[e1,hq]
  have e2:bs (dS h++[x,y]) 8 [.int .i64 (n:Int)]=dS h++[.int .i64 (n:Int),y]:=by
   rw[bs,List.take_append_of_le_length (by omega),List.take_of_length_le (by omega),List.drop_append,List.drop_of_length_le (by omega)]
   simp[hw]
  rw[e2,bs,List.take_append,List.take_of_length_le (by omega),List.drop_of_length_le (by simp[hw])]
  simp[hw,me]
theorem DF{P:Program}{pl:Nat→Option (Nat×Nat)}{h:List UInt32}(hh:h.length=8){zs:List Value}(hz:zs.length=10)(p0:pl 0=some (0,8))(p1:pl 1=some (8,1))(p2:pl 2=some (9,1)){n:Nat}{A:Option Addr}{m c:Nat}:
  u6 P pl zs [(0,.agg (dS h).toArray),(1,.int .i64 (n:Int)),(2,.slice A m c)] (me h n A m c):=by
 have hw:(dS h).length=8:=by rw[bo,hh]
 have l1:(bs zs 0 (dS h)).length=10:=by rw[dA (by omega),hz]
 have l2:(bs (bs zs 0 (dS h)) 8 [Value.int .i64 (n:Int)]).length=10:=by rw[dA (by rw[l1];show 8+1≤10;decide),l1]
 refine .cons (vs:=dS h) p0 rfl hw (by omega) (.cons (vs:=[.int .i64 (n:Int)]) p1 rfl rfl (by omega) (.cons (vs:=[.slice A m c]) p2 rfl rfl (by omega) ?_))
 have e:=Ao (n:=n) (A:=A) (m:=m) (c:=c) hh hz
 show u6 P pl (bs (bs (bs zs 0 (dS h)) 8 [.int .i64 (n:Int)]) 9 [.slice A m c]) [] _
 rw[e]
 exact .nil
theorem Aw{g:Nat}{s:sG}(hh:s.h.length=8)(hr:s.rest.length≤140737488351232):cf Tryz.prog 228 [.pointer (some ⟨g,0,none⟩)] [ma g s] [] (fun v_ X_ S_=>∃g2 s2,v_=(.pointer (some ⟨g2,0,none⟩))∧X_=[ma g s,ma g2 s2]∧S_=[]∧(s2.h=s.h∧s2.n=s.n∧s2.rest=s.rest)):=by
 refine aO (N:=18) Tryz.func228 rfl rfl (by simp) fun b=> ?_
 refine bw (fun w m=>(m.perm (ar [0] _ [_] _ rfl)).unpack) ?_
 have hl0:=jq (n:=s.n) (A:=s.A) (m:=s.rest.length) (c:=s.c) hh
 refine ah<|aj<|hy (fun _=>ab rfl)<|ai<|ag<|ah<|cT [12,14] [(0,some 2),(1,some 1),(2,some 1),(3,some 1),(4,some 2),(5,some 1),(6,some 1),(7,some 1),(8,some 2),(9,some 2),(10,some 0),(11,some 0),(12,none),(13,some 1),(14,none),(15,some 2)] (by kernel_rfl) (by kernel_rfl) rfl 99<|an (aa rfl)<|an (bd rfl)<|an (aL rfl n9 (by decide))<|cm (fun m=>yV (a7 rfl qg ld (by rw[bo,hh]) (fun j u hu=>(m.aX 0 rfl).az j u (yW hu))) ((rfl:_=Value.agg (dS s.h).toArray)))<|an (aa rfl)<|an (bd rfl)<|an (aL rfl l8 (by decide))<|cm (fun m=>aw rfl fG ((m.aX 0 rfl).az 8 _ (vI hh)))<|an (aa rfl)<|an (bd rfl)<|an (aL rfl jQ (by decide))<|cm (fun m=>aw rfl dU ((m.aX 0 rfl).az 9 _ (se hh)))<| ?_
 refine eb (cI rfl Tryz.call117 (rW (by omega)) [] rfl (.x 1 rfl .own .nil) ?_)
 rintro _ _ _ ⟨v,rfl,rfl,rfl⟩
 refine⟨rfl, ?_⟩
 refine⟨(fun _=>wk [1,1] [] rfl rfl), ?_⟩
 refine cd (fun m=>(m.own 0 rfl).slice) ?_
 rintro⟨A_x,c_x,rfl,hc_x⟩
 refine cd (fun m=>(m.ord 0 rfl).2.1) fun hA_x=> ?_
 refine an (cn Ci rfl rfl (by kernel_rfl) (DF hh rfl (by kernel_rfl) (by kernel_rfl) (by kernel_rfl)))<| ?_
 refine eb (cE rfl (fun g17=>⟨(fun _=>wk [2,2] [] rfl rfl), ?_⟩))
 refine an (ab rfl)<|bF<|al (ρ' :=[(2,_),(0,_)]) ⟨rfl,rfl,trivial⟩<|ak (X' :=[_,_,_,_]) (S' :=[]) (fun _ m=>m)<|ag<|aV<| ?_
 refine ak (fun w m=>m.bU 0 rfl (show _=aJ g17 308 (me s.h s.n A_x s.rest.length c_x)from congrArg (aJ _ _) (bB _))) ?_
 refine ak (X' :=ma g s::_) (fun w m=>(m.perm (ar [2,2] _ [_,_] _ rfl)).pack) ?_
 refine ak (X' :=ma g17 ⟨s.h,s.n,A_x,c_x,s.rest⟩::_) (fun w m=>(m.perm (ar [1,1] _ [_,_] _ rfl)).pack) ?_
 exact bh trivial rfl rfl [1,0] rfl [] rfl ⟨_,_,rfl,rfl,rfl,⟨rfl,rfl,rfl⟩⟩
end Go.Proofs.YtmibdabdlgmafaaGreatDoor
end
section
set_option maxRecDepth 20000
namespace Go.Proofs.YtmibdabdlgmafaaGreatDoor
open Go.Eng Go.Hx
theorem yn(n:Nat)(h:n<18446744073709551616):IntKind.u64.wrap (n:Int)=(n:Int):=by
 simp[IntKind.wrap,IntKind.signed,IntKind.bits];omega
theorem zk{n i:Nat}(hi:i<8):(r3 n).take (i+1)=(r3 n).take i++[UInt8.ofNat (n/256 ^ (7-i))]:=by
 rw[r3,←List.map_take,←List.map_take,List.take_range,List.take_range,show min (i+1) 8=i+1 by omega,show min i 8=i by omega,List.range_succ,List.map_append];rfl
theorem GR{i:Nat}(hi:i<8):2 ^ (56-8*i)=256 ^ (7-i):=by
 rw[show(256:Nat)=2 ^ 8 from rfl,←Nat.pow_mul];congr 1;omega
theorem va(h:List UInt32)(j:Nat)(hj:j<h.length):ek (h.take (j+1))=ek (h.take j)++z7 (h.getD j 0):=by
 rw[List.take_succ_eq_append_getElem hj,ek,ek,List.flatMap_append]
 simp[List.getD,List.getElem?_eq_getElem hj]
theorem pA(h:List UInt32):∀j,j≤h.length→(ek (h.take j)).length=4*j
 |0,_=>rfl
 |j+1,hj=>by rw[va h j (by omega),List.length_append,pA h j (by omega)];show 4*j+4=_;omega
theorem Gj{p r:List UInt8}{k:Nat}{a b c d x y z u:UInt8}(hp:p.length=k):
  ((((aQ (p++x::y::z::u::r)).set k (B8 a)).set (k+1) (B8 b)).set (k+2) (B8 c)).set (k+3) (B8 d)=aQ (p++a::b::c::d::r):=by
 subst hp
 simp[aQ,List.set_append]
theorem Fh{g:Nat}{s:sG}{all:List UInt8}(ok:s.ok all)(hr:s.rest.length<64)(ha:all.length≤140737488351232):cf Tryz.prog 174 [.pointer (some ⟨g,0,none⟩)] [ma g s] [eM] (fun v_ X_ S_=>v_=(.agg (aQ (ba all)).toArray)∧X_=[ma g s]∧S_=[]):=by
 have hh:=ok.len
 have hsn:=ok.n
 have hl0:=jq (n:=s.n) (A:=s.A) (m:=s.rest.length) (c:=s.c) hh
 have hz64:gV s.n<64:=Nat.mod_lt _ (by decide)
 have hzp:(s.n+(1+gV s.n)) % 64=56:=by unfold gV;omega
 have hzm:∀j,j<gV s.n→(s.n+(1+j)) % 64≠56:=fun j hj=>by unfold gV at hj;omega
 refine aO (N:=83) Tryz.func174 rfl rfl (by simp) fun b=> ?_
 refine ah<|aj<| ?_
 refine hx (aP dQ (fun g2=> ?_))
 refine ai<|ak (X' :=[_,_]) (S' :=[_]) (fun _ m=>m)<|ag<|ah<|aj<|hy (fun _=>aa rfl)<| ?_
 refine hx (aq rfl Tryz.call228 (Aw (by omega) (by omega)) [1] rfl [] rfl ?_)
 rintro _ _ _ ⟨g22,s2,rfl,rfl,rfl,hp⟩
 refine hy (fun _=>ab rfl)<|ai<|al (ρ' :=[(3,_),(2,_),(0,_)]) ⟨rfl,rfl,rfl,trivial⟩<|ak (X' :=[_,_,_]) (S' :=[_]) (fun _ m=>m)<|ag<|ah<|aj<| ?_
 refine hx (b4 Tryz.underlying27 eO rfl rfl rfl (by simp[Value.cells,B8]) (by decide) (by decide) (fun g12=> ?_))
 have hA_b12:0<1→(some (⟨g12,0,none⟩:Addr))≠none:=fun _ h=>by cases h
 refine hy (fun _=>ab rfl)<|ai<|al (ρ' :=[(4,_),(3,_),(2,_),(0,_)]) ⟨rfl,rfl,rfl,rfl,trivial⟩<|ak (X' :=[_,_,_,_]) (S' :=[_]) (fun _ m=>m)<|ag<|ah<|aK<| ?_
 obtain⟨c1,c2,c3⟩:=hp
 refine bw (fun w m=>m.bU 0 rfl (show _=aG 5 1 (.slice (some ⟨g12,0,none⟩) 1 1) (1+0) (aQ (128::List.replicate 0 0))from rfl)) ?_
 refine fm (fun j A1 cc=>gV s.n-j) (fun j A1 cc=>[(4,.slice A1 (1+j) cc)]) (fun j A1 cc=>[aG 5 1 (.slice A1 (1+j) cc) (1+j) (aQ (128::List.replicate j 0)),ma g s]) (fun j A1 cc=>[]) (fun j A1 cc=>j≤gV s.n) 0 (some ⟨g12,0,none⟩) 1 [(3,_),(2,_),(0,_)] ⟨rfl,rfl,rfl,trivial⟩ [0,0] rfl [] rfl (Nat.zero_le _) ⟨rfl,trivial⟩ (fun j A1 cc hjz=> ?_)
 refine bw (fun w m=>(m.perm (ar [1] _ [_] _ rfl)).unpack) ?_
 refine ah<|ah<|aj<|hy (fun _=>aa rfl)<|hy (fun _=>bd rfl)<|hy (fun _=>aL rfl l8 (by decide))<|hy (fun m=>aw rfl fG ((m.aX 0 rfl).az 8 _ (vI hh)))<|hy (fun _=>aa rfl)<|hy (fun _=>aW rfl Tryz.underlying27)<|hy (fun _=>aN rfl rfl (bE (by omega) (by omega)))<|hy (fun _=>gC rfl rfl (by omega) (by omega))<|hy (fun _=>dL rfl rfl)<|ai<|al (ρ' :=[(21,_),(4,_),(3,_),(2,_),(0,_)]) ⟨rfl,rfl,rfl,rfl,rfl,trivial⟩<|ag<| ?_
 refine bw (X' :=ma g s::_) (fun w m=>(m.perm (ar [0,0] _ [_,_] _ rfl)).pack) ?_
 refine cC rfl (fun hne=> ?_) (fun hne=> ?_)
 ·have hj:j<gV s.n:=by
   rcases Nat.lt_or_eq_of_le hjz with h|h
   ·exact h
   ·rw[←h]at hzp;omega
  refine aD<|ag<|aK<|aj<|hy (fun _=>aa rfl)<| ?_
  refine hx (b4 Tryz.underlying27 eO rfl rfl rfl (by simp[Value.cells,B8]) (by decide) (by decide) (fun g23=> ?_))
  have hA_b23:0<1→(some (⟨g23,0,none⟩:Addr))≠none:=fun _ h=>by cases h
  refine aU (fun w m=>m.bU 0 rfl (show _=aG 5 1 (.slice (some ⟨g23,0,none⟩) 1 1) 1 (aQ [0])from rfl)) ?_
  refine hx (bI 2 rfl rfl rfl Tryz.underlying27 Tryz.underlying27 (by exact .inl rfl) eO rfl (fun m=>Src.bZ (m.ord 0 rfl)) aR (by unfold maxLen;omega) (by omega) (fun u=> ?_))
  refine aB (fun m=>(m.own 0 rfl).slice) ?_
  rintro⟨A_b12,c_b12,rfl,hc_b12⟩
  refine aB (fun m=>(m.ord 0 rfl).2.1) fun hA_b12=> ?_
  refine hy (fun _=>ab rfl)<|ai<|al (ρ' :=[(4,_),(21,_),(3,_),(2,_),(0,_)]) ⟨rfl,rfl,rfl,rfl,rfl,trivial⟩<|ak (X' :=[_,_,_,_,_]) (S' :=[_]) (fun _ m=>m)<|aS<| ?_
  refine ak (fun w m=>m.bU 0 rfl (show _=aG 5 1 (.slice A_b12 (1+(j+1)) c_b12) (1+(j+1)) (aQ (128::List.replicate (j+1) 0))from by rw[Nat.add_assoc,List.replicate_succ',aQ,aQ,aQ,←List.map_append];rfl)) ?_
  refine eZ (j+1) A_b12 c_b12 ⟨rfl,rfl,rfl,rfl,trivial⟩ [0,1,1,1] rfl [0] rfl (by omega) (by omega)
 ·have hj:j=gV s.n:=by
   refine Decidable.byContradiction fun hn=> ?_
   have:=hzm j (by omega)
   omega
  subst hj
  have hsl:IntKind.u64.wrap ((s.n:Int)*8)=((8*s.n:Nat):Int):=by
   rw[show(s.n:Int)*8=((8*s.n:Nat):Int) by omega]
   exact yn _ (by omega)
  refine bL<|ao<|ao<|aC<|ag<|ah<|aj<|hy (fun _=>aa rfl)<|hy (fun _=>bd rfl)<|hy (fun _=>aL rfl l8 (by decide))<|hy (fun m=>aw rfl fG ((show fe _ _ _ _ from m.FK 0 rfl 0 rfl).az 8 _ (vI hh)))<|hy (fun _=>bT rfl Tryz.underlying3 Tryz.underlying310 (yn s.n (by omega)))<|hy (fun _=>tn (p:=8) rfl rfl (by decide) (by decide) (by decide) hsl)<|hy (fun _=>ab rfl)<|ai<|al (ρ' :=[(5,_),(21,_),(4,_),(3,_),(2,_),(0,_)]) ⟨rfl,rfl,rfl,rfl,rfl,rfl,trivial⟩<|ag<|ah<|ah<|aj<|hy (fun _=>aa rfl)<|ai<|ag<|aK<| ?_
  generalize hz:gV s.n=z at hz64
  refine bw (fun w m=>m.bU 1 rfl (show _=aG 5 1 (.slice A1 (1+z+0) cc) (1+z+0) (aQ (128::List.replicate z 0++(r3 (8*s.n)).take 0))from by rw[List.take_zero,List.append_nil];rfl)) ?_
  refine fm (fun i A2 ce=>8-i) (fun i A2 ce=>[(4,.slice A2 (1+z+i) ce),(31,.int .i64 (i:Nat))]) (fun i A2 ce=>[aG 5 1 (.slice A2 (1+z+i) ce) (1+z+i) (aQ (128::List.replicate z 0++(r3 (8*s.n)).take i))]) (fun i A2 ce=>[]) (fun i A2 ce=>i≤8) 0 A1 cc [(5,_),(21,_),(3,_),(2,_),(0,_)] ⟨rfl,rfl,rfl,rfl,rfl,trivial⟩ [0] rfl [] rfl (Nat.zero_le _) ⟨rfl,rfl,trivial⟩ (fun i A2 ce hi8=> ?_)
  refine ah<|aj<|hy (fun _=>bA rfl rfl)<|ai<|ag<|ah<| ?_
  refine cC rfl (fun hi=> ?_) (fun hi=> ?_)
  ·have hcv:IntKind.u8.wrap (((8*s.n:Nat):Int)/((2 ^ (56-8*i):Nat):Int))=((UInt8.ofNat (8*s.n/256 ^ (7-i))).toNat:Int):=by
    rw[←Int.natCast_ediv,GR (by omega)]
    exact gA _
   have hsb:(56:Int)-8*(i:Int)=((56-8*i:Nat):Int):=by omega
   refine aD<|ag<|ah<|aK<|ah<|aj<|hy (fun _=>aa rfl)<|hy (fun _=>ab rfl)<|ai<|al (ρ' :=[(6,_),(32,_),(4,_),(31,_),(5,_),(21,_),(3,_),(2,_),(0,_)]) ⟨rfl,rfl,rfl,rfl,rfl,rfl,rfl,rfl,rfl,trivial⟩<|ag<|aj<|hy (fun _=>aa rfl)<|hy (fun _=>aa rfl)<|hy (fun _=>aa rfl)<|hy (fun _=>fk rfl rfl (bE (by omega) (by omega)))<|hy (fun _=>cg rfl rfl (bE (by omega) (by omega)))<| ?_
   rw[hsb]
   refine hy (fun _=>nG rfl rfl (by omega) (by simp[IntKind.bits];omega) (show(2:Int) ^ (((56-8*i:Nat):Int)).toNat=((2 ^ (56-8*i):Nat):Int) by rw[Int.toNat_natCast];simp))<|hy (fun _=>bT rfl Tryz.underlying310 Tryz.underlying5 hcv)<| ?_
   refine hx (b4 Tryz.underlying27 eO rfl rfl rfl (by simp[Value.cells,B8]) (by decide) (by decide) (fun g41=> ?_))
   have hA_b41:0<1→(some (⟨g41,0,none⟩:Addr))≠none:=fun _ h=>by cases h
   refine aU (fun w m=>m.bU 0 rfl (show _=aG 5 1 (.slice (some ⟨g41,0,none⟩) 1 1) 1 (aQ [UInt8.ofNat (8*s.n/256 ^ (7-i))])from rfl)) ?_
   refine hx (bI 1 rfl rfl rfl Tryz.underlying27 Tryz.underlying27 (by exact .inl rfl) eO rfl (fun m=>Src.bZ (m.ord 0 rfl)) aR (by unfold maxLen;omega) (by omega) (fun u=> ?_))
   refine aB (fun m=>(m.own 0 rfl).slice) ?_
   rintro⟨A_b12,c_b12,rfl,hc_b12⟩
   refine aB (fun m=>(m.ord 0 rfl).2.1) fun hA_b12=> ?_
   refine hy (fun _=>ab rfl)<|ai<|al (ρ' :=[(4,_),(6,_),(32,_),(31,_),(5,_),(21,_),(3,_),(2,_),(0,_)]) ⟨rfl,rfl,rfl,rfl,rfl,rfl,rfl,rfl,rfl,trivial⟩<|ak (X' :=[_,_,_,_,_]) (S' :=[_]) (fun _ m=>m)<|aS<|ag<|aj<|hy (fun _=>aN rfl rfl (bE (by omega) (by omega)))<|hy (fun _=>aa rfl)<|ai<|al (ρ' :=[(31,_),(4,_),(6,_),(32,_),(5,_),(21,_),(3,_),(2,_),(0,_)]) ⟨rfl,rfl,rfl,rfl,rfl,rfl,rfl,rfl,rfl,trivial⟩<| ?_
   refine ak (fun w m=>m.bU 0 rfl (show _=aG 5 1 (.slice A_b12 (1+z+(i+1)) c_b12) (1+z+(i+1)) (aQ (128::List.replicate z 0++(r3 (8*s.n)).take (i+1)))from by rw[zk (by omega),←List.append_assoc];simp[aQ,Nat.add_assoc])) ?_
   refine eZ (i+1) A_b12 c_b12 ⟨rfl,rfl,rfl,rfl,rfl,rfl,rfl,trivial⟩ [0,1,1,1] rfl [0] rfl (by omega) (by omega)
  ·obtain rfl:i=8:=by omega
   have hpad:all++(128::List.replicate z 0++(r3 (8*s.n)).take 8)=iQ all:=by
    rw[List.take_of_length_le (by simp[r3]),iQ,←hsn,hz,List.append_assoc]
   refine bL<|ao<|ao<|aC<|ag<|ah<|aj<|hy (fun _=>aa rfl)<|hy (fun _=>aa rfl)<| ?_
   refine hx (cI rfl Tryz.call173 (vc (by rw[c1];exact hh) (by rw[c2];omega) (by rw[c3];omega) (s:=s2) (l:=(128::List.replicate z 0++(r3 (8*s.n)).take 8))) [2] rfl (.x 0 rfl .own (.s 0 rfl .nil)) ?_)
   rintro _ _ _ ⟨s1,rfl,rfl,rfl,hw⟩
   refine⟨rfl, ?_⟩
   obtain⟨hw1,hw2⟩:=hw
   have ok2:s2.ok all:=⟨by rw[c1];exact hh,by rw[c2];exact hsn,by rw[c1,c3];exact ok.F5⟩
   have ok3:=hw2 all ok2
   rw[hpad]at ok3
   have hh3:=ok3.len
   have hfin:s1.h=e8 lL (iQ all):=by
    obtain⟨D,e1,e2,e3⟩:=ok3.F5
    have hl:=congrArg List.length e1
    rw[List.length_append]at hl
    have hp:=nu all
    have:s1.rest=[]:=List.eq_nil_of_length_eq_zero (by omega)
    rw[this,List.append_nil]at e1
    rw[e3,e1]
   have hsha:ek s1.h=ba all:=by rw[hfin];rfl
   have hd32:=pA s1.h
   have hl3:=jq (n:=s1.n) (A:=s1.A) (m:=s1.rest.length) (c:=s1.c) hh3
   refine aU (fun w m=>(m.perm (ar [0] _ [_] _ rfl)).unpack) ?_
   refine ai<|al (ρ' :=[(32,_),(4,_),(31,_),(5,_),(21,_),(3,_),(2,_),(0,_)]) ⟨rfl,rfl,rfl,rfl,rfl,rfl,rfl,rfl,trivial⟩<|ak (X' :=[_,_,_,_,_]) (S' :=[_]) (fun _ m=>m)<|ag<|ah<|aj<| ?_
   refine hx (aP dQ (fun g7=> ?_))
   refine aU (fun w m=>m.bU 0 rfl (show _=aJ g7 53 (aQ (ek (s1.h.take 0)++List.replicate (32-4*0) 0))from rfl)) ?_
   refine ai<|ak (X' :=[_,_,_,_,_,_]) (S' :=[_]) (fun _ m=>m)<|ag<|ah<|ah<|aj<|hy (fun _=>aa rfl)<|hy (fun _=>bd rfl)<|hy (fun _=>aL rfl n9 (by decide))<|hy (fun m=>yV (a7 rfl qg ld (by rw[bo,hh3]) (fun j u hu=>(m.aX 1 rfl).az j u (yW hu))) ((rfl:_=Value.agg (dS s1.h).toArray)))<|hy (fun _=>aa rfl)<|ai<|al (ρ' :=[(51,_),(50,_),(7,_),(32,_),(4,_),(31,_),(5,_),(21,_),(3,_),(2,_),(0,_)]) ⟨rfl,rfl,rfl,rfl,rfl,rfl,rfl,rfl,rfl,rfl,rfl,trivial⟩<|ag<|aK<| ?_
   refine dD (fun k=>8-k) (fun k=>[(51,.int .i64 (k:Nat))]) (fun k=>[aJ g7 53 (aQ (ek (s1.h.take k)++List.replicate (32-4*k) 0))]) (fun k=>[]) (fun k=>k≤8) 0 [(50,_),(7,_),(32,_),(4,_),(31,_),(5,_),(21,_),(3,_),(2,_),(0,_)] ⟨rfl,rfl,rfl,rfl,rfl,rfl,rfl,rfl,rfl,rfl,trivial⟩ [0] rfl [] rfl (Nat.zero_le _) ⟨rfl,trivial⟩ (fun k hk8=> ?_)
   refine ah<|aj<|hy (fun _=>bA rfl rfl)<|ai<|ag<|ah<| ?_
   refine cC rfl (fun hk=> ?_) (fun hk=> ?_)
   ·have hdk:=hd32 k (by omega)
    have hr4:List.replicate (32-4*k) (0:UInt8)=0::0::0::0::List.replicate (32-4*(k+1)) 0:=by
     rw[show 32-4*k=(32-4*(k+1))+4 by omega];rfl
    refine aD<|ag<|ah<|aK<|ah<|aj<|hy (fun _=>aa rfl)<|hy (fun _=>yV (DN rfl rfl Tryz.underlying306 bG bM rfl (by omega) (bf (by omega))) ((rfl:_=Wd (s1.h.getD k 0))))<|hy (fun _=>ab rfl)<|hy (fun _=>ab rfl)<|ai<|al (ρ' :=[(9,_),(8,_),(52,_),(51,_),(50,_),(7,_),(32,_),(4,_),(31,_),(5,_),(21,_),(3,_),(2,_),(0,_)]) ⟨rfl,rfl,rfl,rfl,rfl,rfl,rfl,rfl,rfl,rfl,rfl,rfl,rfl,rfl,trivial⟩<|ag<|aj<|hy (fun _=>aa rfl)<|hy (fun _=>fk rfl rfl (bE (by omega) (by omega)))<|hy (fun _=>aa rfl)<|hy (fun _=>fk rfl rfl (bE (by omega) (by omega)))<|hy (fun _=>aN rfl rfl (bE (by omega) (by omega)))<|hy (fun _=>aa rfl)<|hy (fun _=>fk rfl rfl (bE (by omega) (by omega)))<|hy (fun _=>aN rfl rfl (bE (by omega) (by omega)))<|hy (fun _=>aa rfl)<|hy (fun _=>fk rfl rfl (bE (by omega) (by omega)))<|hy (fun _=>aN rfl rfl (bE (by omega) (by omega)))<|hy (fun _=>aa rfl)<|hy (fun _=>lV (k:=24) (b:=16777216) (by decide) rfl rfl rfl)<|hy (fun _=>zP rfl Tryz.underlying166 Tryz.underlying5)<|hy (fun _=>aa rfl)<|hy (fun _=>lV (k:=16) (b:=65536) (by decide) rfl rfl rfl)<|hy (fun _=>zP rfl Tryz.underlying166 Tryz.underlying5)<|hy (fun _=>aa rfl)<|hy (fun _=>lV (k:=8) (b:=256) (by decide) rfl rfl rfl)<|hy (fun _=>zP rfl Tryz.underlying166 Tryz.underlying5)<|hy (fun _=>aa rfl)<|hy (fun _=>zP rfl Tryz.underlying166 Tryz.underlying5)<|hy (fun _=>bX rfl rfl Tryz.underlying53 dW (show((4*k:Nat):Int)=_ by omega) (by omega))<| ?_
    refine cH (cA 0 rfl rfl rfl dW rfl (by simp[aQ];omega) ?_)
    refine hy (fun _=>bX rfl rfl Tryz.underlying53 dW (show((4*k+1:Nat):Int)=_ by omega) (by omega))<| ?_
    refine cH (cA 0 rfl rfl rfl dW rfl (by simp[aQ];omega) ?_)
    refine hy (fun _=>bX rfl rfl Tryz.underlying53 dW (show((4*k+2:Nat):Int)=_ by omega) (by omega))<| ?_
    refine cH (cA 0 rfl rfl rfl dW rfl (by simp[aQ];omega) ?_)
    refine hy (fun _=>bX rfl rfl Tryz.underlying53 dW (show((4*k+3:Nat):Int)=_ by omega) (by omega))<| ?_
    refine cH (cA 0 rfl rfl rfl dW rfl (by simp[aQ];omega) ?_)
    refine ai<|al (ρ' :=[(9,_),(8,_),(52,_),(51,_),(50,_),(7,_),(32,_),(4,_),(31,_),(5,_),(21,_),(3,_),(2,_),(0,_)]) ⟨rfl,rfl,rfl,rfl,rfl,rfl,rfl,rfl,rfl,rfl,rfl,rfl,rfl,rfl,trivial⟩<|ak (X' :=[_,_,_,_,_,_]) (S' :=[_]) (fun _ m=>m)<|aS<|ag<|aj<|hy (fun _=>aN rfl rfl (bE (by omega) (by omega)))<|hy (fun _=>aa rfl)<|ai<|al (ρ' :=[(51,_),(9,_),(8,_),(52,_),(50,_),(7,_),(32,_),(4,_),(31,_),(5,_),(21,_),(3,_),(2,_),(0,_)]) ⟨rfl,rfl,rfl,rfl,rfl,rfl,rfl,rfl,rfl,rfl,rfl,rfl,rfl,rfl,trivial⟩<| ?_
    refine ak (fun w m=>m.bU 0 rfl (show _=aJ g7 53 (aQ (ek (s1.h.take (k+1))++List.replicate (32-4*(k+1)) 0))from by rw[hr4,Nat.zero_add,Nat.zero_add,Nat.zero_add,Nat.zero_add,Gj hdk,va _ _ (by omega)];simp[z7])) ?_
    refine cM (k+1) ⟨rfl,rfl,rfl,rfl,rfl,rfl,rfl,rfl,rfl,rfl,rfl,trivial⟩ [0,0,0,0,0,0] rfl [0] rfl (by omega) (by omega)
   ·obtain rfl:k=8:=by omega
    refine bw (fun w m=>m.bU 0 rfl (show _=aJ g7 53 (aQ (ba all))from by rw[List.take_of_length_le (by omega),hsha];simp)) ?_
    refine bL<|ao<|ao<|aC<|ag<|ah<|aj<|hy (fun m=>yV (a7 rfl cy bp (by rw[ay,bj]) ((m.aX 0 rfl).az)) ((rfl:_=Value.agg (aQ (ba all)).toArray)))<| ?_
    refine cH (aI 5 rfl rfl rfl bp (by rw[ay,bj]) aR rfl ?_)
    refine ai<|al (ρ' :=[(52,_),(51,_),(50,_),(7,_),(32,_),(4,_),(31,_),(5,_),(21,_),(3,_),(2,_),(0,_)]) ⟨rfl,rfl,rfl,rfl,rfl,rfl,rfl,rfl,rfl,rfl,rfl,rfl,trivial⟩<|ak (X' :=[_,_,_,_,_,_]) (S' :=[_]) (fun _ m=>m)<|ag<|aV<| ?_
    exact fg trivial rfl rfl cy bp (by rw[ay,bj]) (fun m=>(m.aX 0 rfl).az) [5] rfl [] rfl ⟨rfl,rfl,rfl⟩
theorem vG{A:Option Addr}{n c:Nat}{l:List UInt8}(hn:n≤140737488351232):cf Tryz.prog 102 [.slice A n c] [] [c6 1 A n (aQ l),eM] (fun v_ X_ S_=>v_=(.agg (aQ (ba l)).toArray)∧X_=[]∧S_=[]):=by
 refine aO (N:=10) Tryz.func102 rfl rfl (by simp) fun b=> ?_
 refine a6 (fun m=>gz (m.rd 0 rfl)) ?_
 rintro⟨hl_r,hA_r⟩
 have hln:l.length=n:=hl_r
 refine ah<|aj<| ?_
 refine hx (aP dQ (fun g2=> ?_))
 refine ai<|ak (X' :=[_]) (S' :=[_,_]) (fun _ m=>m)<|ag<|ah<|aj<| ?_
 refine hx (aq rfl Tryz.call172 (E8) [] rfl [] rfl ?_)
 rintro _ _ _ ⟨g,rfl,rfl,rfl⟩
 refine hy (fun _=>ab rfl)<|ai<|al (ρ' :=[(3,_),(2,_),(0,_)]) ⟨rfl,rfl,rfl,trivial⟩<|ak (X' :=[_,_]) (S' :=[_,_]) (fun _ m=>m)<|ag<|ah<|aj<|hy (fun _=>aa rfl)<|hy (fun _=>aa rfl)<| ?_
 refine hx (aq rfl Tryz.call173 (vc rfl (by show 0+n≤_;omega) (by show 0+n≤_;omega) (s:=⟨lL,0,none,0,[]⟩)) [0] rfl [0,1] rfl ?_)
 rintro _ _ _ ⟨s1,rfl,rfl,rfl,hw⟩
 refine ai<|al (ρ' :=[(3,_),(2,_),(0,_)]) ⟨rfl,rfl,rfl,trivial⟩<|ak (X' :=[_,_]) (S' :=[_,_]) (fun _ m=>m)<|ag<|ah<|aj<| ?_
 obtain⟨hw1,hw2⟩:=hw
 have ok1:=hw2 [] CJ
 rw[List.nil_append]at ok1
 refine hy (fun _=>aa rfl)<| ?_
 refine hx (aq rfl Tryz.call174 (Fh ok1 hw1 (by omega) (all:=l)) [0] rfl [1] rfl ?_)
 rintro _ _ _ ⟨rfl,rfl,rfl⟩
 refine cH (aI 1 rfl rfl rfl bp (by rw[ay,bj]) aR rfl ?_)
 refine ai<|al (ρ' :=[(3,_),(2,_),(0,_)]) ⟨rfl,rfl,rfl,trivial⟩<|ak (X' :=[_,_]) (S' :=[_,_]) (fun _ m=>m)<|ag<|aV<| ?_
 exact fg trivial rfl rfl cy bp (by rw[ay,bj]) (fun m=>(m.aX 0 rfl).az) [] rfl [] rfl ⟨rfl,rfl,rfl⟩
end Go.Proofs.YtmibdabdlgmafaaGreatDoor
end
section
set_option maxRecDepth 20000
set_option maxHeartbeats 4000000
namespace Go.Proofs.YtmibdabdlgmafaaGreatDoor
open Go.Eng Go.Hx
theorem Eo{g:Nat}{st:cF}{d:RD}{kk:Nat}{nm:List UInt8}(hD:DS st d kk)(hm:nm.length=32):cf Tryz.prog 73 [.pointer (some ⟨g,0,none⟩),.agg (aQ nm).toArray] [bn g st] [eM] (fun v_ X_ S_=>∃v,v_=(.tuple #[v,.int .i64 (d.eI nm)])∧X_=[bn g st,aG 5 1 v (d.o6 nm).length (aQ (d.o6 nm))]∧S_=[]):=by
 have hlen:=hD.zI (aF nm)
 have hol:=qx (f:=d.ct (aF nm)) (most:=4096) (by decide)
 refine aO (N:=33) Tryz.func73 rfl rfl (by simp) fun b=> ?_
 refine ah<|aj<| ?_
 refine hx (cE rfl (fun g3=> ?_))
 refine aU (fun w m=>m.bU 0 rfl (show _=aJ g3 53 (aQ nm)from congrArg (aJ _ _) (bB _))) ?_
 refine hy (fun _=>ab rfl)<|hy (fun _=>ab rfl)<|ai<|ak (X' :=[_,_]) (S' :=[_]) (fun _ m=>m)<|ag<|ah<|aj<|hy (fun _=>aa rfl)<|hy (fun m=>a7 rfl cy bp (by rw[ay];exact hm) ((m.aX 0 rfl).az))<| ?_
 refine hx (aq rfl Tryz.call94 (rH hm) [] rfl [] rfl ?_)
 rintro _ _ _ ⟨rfl,rfl,rfl⟩
 refine hx (aq rfl Tryz.call90 (Cz hD) [1] rfl [] rfl ?_)
 rintro _ _ _ ⟨v,rfl,rfl,rfl⟩
 refine aB (fun m=>(m.own 1 rfl).slice) ?_
 rintro⟨A_x,c_x,rfl,hc_x⟩
 refine aB (fun m=>(m.ord 1 rfl).2.1) fun hA_x=> ?_
 refine hy (fun _=>aa rfl)<|hy (fun _=>au rfl rfl)<|hy (fun _=>au rfl rfl)<|hy (fun _=>ab rfl)<|hy (fun _=>ab rfl)<|ai<|al (ρ' :=[(7,_),(6,_),(5,_),(4,_),(3,_),(0,_),(1,_)]) ⟨rfl,rfl,rfl,rfl,rfl,rfl,rfl,trivial⟩<|ak (X' :=[_,_,_]) (S' :=[_]) (fun _ m=>m)<|ag<|ah<|ah<|aj<|hy (fun _=>aa rfl)<|hy (fun _=>dL rfl rfl)<|ai<|al (ρ' :=[(17,_),(7,_),(6,_),(5,_),(4,_),(3,_),(0,_),(1,_)]) ⟨rfl,rfl,rfl,rfl,rfl,rfl,rfl,rfl,trivial⟩<|ag<| ?_
 refine cC rfl (fun h1=> ?_) (fun h1=> ?_)
 ·rw[iX h1,kv (by rw[iX h1];exact h1)]
  refine ah<|aj<|hy (fun _=>aa rfl)<|hy (fun _=>ab rfl)<|hy (fun _=>ab rfl)<|ai<|al (ρ' :=[(5,_),(4,_),(17,_),(7,_),(6,_),(3,_),(0,_),(1,_)]) ⟨rfl,rfl,rfl,rfl,rfl,rfl,rfl,rfl,trivial⟩<|ag<|aV<|ax<| ?_
  refine ak (fun w m=>m.dy (r' :=aG 5 1 (.slice none 0 0) 0 []) (.refl _ _) (Own.nil _ _ _ _) (fun k hk=>hk.elim)) ?_
  exact dh trivial rfl rfl rfl [1,0] rfl [] rfl ⟨_,rfl,rfl,rfl⟩
 ·have h1:=Decidable.not_not.1 h1
  refine aD<|ag<|ah<|aj<|hy (fun _=>aa rfl)<| ?_
  refine hx (cI rfl Tryz.call155 (E3 hc_x (by omega) (show(4096:Int)≤1000000 by decide)) [] rfl (.x 1 rfl .own .nil) ?_)
  rintro _ _ _ ⟨v2,rfl,rfl,rfl⟩
  refine⟨rfl, ?_⟩
  refine aB (fun m=>(m.own 0 rfl).slice) ?_
  rintro⟨A_x2,c_x2,rfl,hc_x2⟩
  refine aB (fun m=>(m.ord 0 rfl).2.1) fun hA_x2=> ?_
  refine hy (fun _=>aa rfl)<|hy (fun _=>au rfl rfl)<|hy (fun _=>au rfl rfl)<|hy (fun _=>ab rfl)<|hy (fun _=>ab rfl)<|ai<|al (ρ' :=[(7,_),(8,_),(17,_),(6,_),(5,_),(4,_),(3,_),(0,_),(1,_)]) ⟨rfl,rfl,rfl,rfl,rfl,rfl,rfl,rfl,rfl,trivial⟩<|ak (X' :=[_,_,_,_]) (S' :=[_]) (fun _ m=>m)<|ag<|ah<|ah<|cT [4] [(0,some 0),(1,some 0),(2,some 0),(3,some 0),(5,some 1),(4,none),(6,some 1),(7,some 1)] (by kernel_rfl) (by kernel_rfl) rfl 99<|an (aa rfl)<|an (dL rfl rfl)<|an (aa rfl)<| ?_
  refine kP 26 rfl (fun h2=> ?_) (fun h2=> ?_)
  ·have hE:=lP (d:=d) (nm:=nm) h1 (.inl h2)
   rw[hE,kv (by rw[hE];decide)]
   refine aZ rfl rfl rfl (by decide)<|aZ rfl rfl rfl (by decide)<|BN rfl rfl rfl (by decide) (fun _=>wk [0,0,0,0] [0] rfl rfl)<|aZ rfl rfl rfl (by decide)<|an (bK rfl rfl)<|bF<|al (ρ' :=[(31,_),(7,_),(8,_),(17,_),(6,_),(5,_),(4,_),(3,_),(0,_),(1,_)]) ⟨rfl,rfl,rfl,rfl,rfl,rfl,rfl,rfl,rfl,rfl,trivial⟩<|ag<| ?_
   refine gY rfl (rfl) ?_
   refine ah<|aj<|hy (fun _=>ab rfl)<|hy (fun _=>ab rfl)<|ai<|ag<|aV<|ax<| ?_
   refine ak (fun w m=>m.dy (r' :=aG 5 1 (.slice none 0 0) 0 []) (.refl _ _) (Own.nil _ _ _ _) (fun k hk=>hk.elim)) ?_
   exact dh trivial rfl rfl rfl [2,0] rfl [] rfl ⟨_,rfl,rfl,rfl⟩
  ·have h2:=Decidable.not_not.1 h2
   refine bP (o:=_) rfl rfl rfl (aa rfl)<|mU (o:=_) rfl rfl rfl (fun m=>a7 rfl cy bp (by rw[ay];exact hm) ((m.aX 3 rfl).az))<| ?_
   refine yg (o:=_) rfl rfl rfl (cI rfl Tryz.call102 (vG (by omega)) [] rfl (.x 0 rfl .own (.s 0 rfl .nil)) ?_)
   rintro _ _ _ ⟨rfl,rfl,rfl⟩
   refine⟨rfl, ?_⟩
   refine⟨(fun _=>wk [0,0,0,0] [0] rfl rfl), ?_⟩
   refine bP (o:=_) rfl rfl rfl (rG rfl rfl (bj _) hm)<|an (bN rfl rfl)<|bF<|al (ρ' :=[(31,_),(7,_),(8,_),(17,_),(6,_),(5,_),(4,_),(3,_),(0,_),(1,_)]) ⟨rfl,rfl,rfl,rfl,rfl,rfl,rfl,rfl,rfl,rfl,trivial⟩<|ak (X' :=[_,_,_,_]) (S' :=[_]) (fun _ m=>m)<|ag<| ?_
   refine cC rfl (fun h3=> ?_) (fun h3=> ?_)
   ·have hE:=lP (d:=d) (nm:=nm) h1 (.inr h3)
    rw[hE,kv (by rw[hE];decide)]
    refine ah<|aj<|hy (fun _=>ab rfl)<|hy (fun _=>ab rfl)<|ai<|ag<|aV<|ax<| ?_
    refine ak (fun w m=>m.dy (r' :=aG 5 1 (.slice none 0 0) 0 []) (.refl _ _) (Own.nil _ _ _ _) (fun k hk=>hk.elim)) ?_
    exact dh trivial rfl rfl rfl [2,0] rfl [] rfl ⟨_,rfl,rfl,rfl⟩
   ·have hE:=rJ (d:=d) (nm:=nm) h1 (fun q=>q.elim (fun q=>q h2) h3)
    rw[hE,rl hE]
    refine aD<|ag<|ah<|aj<|hy (fun _=>aa rfl)<|hy (fun _=>ab rfl)<|hy (fun _=>ab rfl)<|ai<|al (ρ' :=[(5,_),(4,_),(31,_),(7,_),(8,_),(17,_),(6,_),(3,_),(0,_),(1,_)]) ⟨rfl,rfl,rfl,rfl,rfl,rfl,rfl,rfl,rfl,rfl,trivial⟩<|ag<|aV<| ?_
    exact dh trivial rfl rfl rfl [1,0] rfl [] rfl ⟨_,rfl,rfl,rfl⟩
theorem Ex{g:Nat}{st:cF}{d:RD}{kk:Nat}{nm:List UInt8}(hD:DS st d kk)(hm:nm.length=32):cf Tryz.prog 145 [.pointer (some ⟨g,0,none⟩),.agg (aQ nm).toArray] [bn g st] [eM] (fun v_ X_ S_=>v_=(.bool (decide (d.eI nm=0)))∧X_=[bn g st]∧S_=[]):=by
 refine aO (N:=15) Tryz.func145 rfl rfl (by simp) fun b=> ?_
 refine ah<|aj<| ?_
 refine hx (cE rfl (fun g3=> ?_))
 refine aU (fun w m=>m.bU 0 rfl (show _=aJ g3 53 (aQ nm)from congrArg (aJ _ _) (bB _))) ?_
 refine hy (fun _=>ab rfl)<|ai<|ak (X' :=[_,_]) (S' :=[_]) (fun _ m=>m)<|ag<|ah<|aj<|hy (fun _=>aa rfl)<|hy (fun m=>a7 rfl cy bp (by rw[ay];exact hm) ((m.aX 0 rfl).az))<| ?_
 refine hx (aq rfl Tryz.call73 (Eo hD hm) [1] rfl [0] rfl ?_)
 rintro _ _ _ ⟨v,rfl,rfl,rfl⟩
 refine aB (fun m=>(m.own 1 rfl).slice) ?_
 rintro⟨A_x,c_x,rfl,hc_x⟩
 refine aB (fun m=>(m.ord 1 rfl).2.1) fun hA_x=> ?_
 refine hy (fun _=>aa rfl)<|hy (fun _=>au rfl rfl)<|hy (fun _=>au rfl rfl)<|hy (fun _=>ab rfl)<|hy (fun _=>ab rfl)<|ai<|al (ρ' :=[(6,_),(4,_),(3,_),(0,_),(1,_)]) ⟨rfl,rfl,rfl,rfl,rfl,trivial⟩<|ak (X' :=[_,_,_]) (S' :=[_]) (fun _ m=>m)<|ag<|ah<|aj<|hy (fun _=>aa rfl)<|hy (fun _=>cx rfl rfl)<|hy (fun _=>ab rfl)<|ai<|al (ρ' :=[(4,_),(6,_),(3,_),(0,_),(1,_)]) ⟨rfl,rfl,rfl,rfl,rfl,trivial⟩<|ag<|aV<| ?_
 exact bh trivial rfl rfl [0] rfl [] rfl ⟨rfl,rfl,rfl⟩
end Go.Proofs.YtmibdabdlgmafaaGreatDoor
end
section
set_option maxRecDepth 20000
set_option maxHeartbeats 4000000
namespace Go.Proofs.YtmibdabdlgmafaaGreatDoor
open Go.Eng Go.Hx
theorem En:dp Tryz.prog 179=some false:=by kernel_rfl
theorem EY:fo Tryz.prog 179=some 1:=by kernel_rfl
theorem Es:TI Tryz.prog 179 .nilFunc 1 8:=by unfold TI;kernel_rfl
def sk(g:Nat)(L:List bg)(v:Value)(F:RD→RD×Int):Prop:=∃(f:Nat) (first cap:List Value),v= .func (.func f) first.toArray cap.toArray∧(∀args w,(callFunc f args).run Tryz.prog w= .ok (.enter f args) w)∧
 ∀(st:cF) (d:RD) (kk:Nat),DS st d kk→kk≤99000→cf Tryz.prog f (first++[]++cap) [bn g st] [mX L] (fun v_ X_ S_=>∃st1,v_= .int .i64 (F d).2∧X_=[bn g st1]∧S_=[]∧DS st1 (F d).1 (kk+1))
theorem F9{g:Nat}{st:cF}{d:RD}{kk:Nat}{A:Option Addr}{n c:Nat}{fs:List Value}{Fs:List (RD→RD×Int)}{L:List bg}(hD:DS st d kk)(hkk:kk+n≤99000)(hn:n≤100000)(hF:Fs.length=n)(hfs:∀(i:Nat) (F:RD→RD×Int),Fs[i]? =some F→∃v,fs[i]? =some v∧sk g L v F):cf Tryz.prog 109 [.slice A n c] [bn g st] [c6 1 A n fs,mX L] (fun v_ X_ S_=>∃st1,v_=(.int .i64 (b6 Fs d).2)∧X_=[bn g st1]∧S_=[]∧(DS st1 (b6 Fs d).1 (kk+n))):=by
 obtain⟨d0,hd0⟩:∃d0,d0=b6 Fs d:=⟨_,rfl⟩
 rw[←hd0]
 refine aO (N:=18) Tryz.func109 rfl rfl (by simp) fun b=> ?_
 refine a6 (fun m=>ki (m.rd 0 rfl)) ?_
 rintro⟨hl_f,hA_f⟩
 refine ah<|aj<|hy (fun _=>ab rfl)<|ai<|ag<|ah<|ah<|aj<|hy (fun _=>aa rfl)<|hy (fun _=>aW rfl Tryz.underlying239)<|hy (fun _=>aa rfl)<|ai<|ag<|aK<| ?_
 refine fm (fun k st d=>n-k) (fun k st d=>[(8,.int .i64 (k:Nat))]) (fun k st d=>[bn g st]) (fun k st d=>[]) (fun k st d=>k≤n∧DS st d (kk+k)∧b6 (Fs.drop k) d=d0) 0 st d [(7,_),(6,_),(0,_)] ⟨rfl,rfl,rfl,trivial⟩ [0] rfl [] rfl (⟨Nat.zero_le _,hD,hd0.symm⟩) ⟨rfl,trivial⟩ (fun k st d ⟨hk,hD,hR⟩=> ?_)
 refine ah<|aj<|hy (fun _=>bA rfl rfl)<|ai<|ag<|ah<| ?_
 refine cC rfl (fun hlt=> ?_) (fun hlt=> ?_)
 ·obtain⟨F,hFk⟩:∃F,Fs[k]? =some F:=⟨_,List.getElem?_eq_getElem (by omega)⟩
  obtain⟨v,hv,f,first,cap,rfl,hcall,hcon⟩:=hfs k F hFk
  have hdr:Fs.drop k=F::Fs.drop (k+1):=by
   have hlt2:k<Fs.length:=by omega
   rw[List.drop_eq_getElem_cons hlt2]
   congr 1
   exact Option.some.inj ((List.getElem?_eq_getElem hlt2).symm.trans hFk)
  rw[hdr]at hR
  refine aD<|ag<|ah<|aK<|ah<|aj<|hy (fun _=>aM rfl rfl Tryz.underlying239 EY hA_f rfl (by omega))<|hy (fun m=>aw rfl En ((m.rd 0 rfl).cell hv))<|hy (fun _=>ab rfl)<|ai<|al (ρ' :=[(4,_),(9,_),(8,_),(7,_),(6,_),(0,_)]) ⟨rfl,rfl,rfl,rfl,rfl,rfl,trivial⟩<|ag<|ah<|aj<|hy (fun _=>aa rfl)<| ?_
  refine hx (o4 rfl rfl hcall (hcon st d (kk+k) hD (by omega)) [0] rfl [1] rfl ?_)
  rintro _ _ _ ⟨st1,rfl,rfl,rfl,hD1⟩
  refine hy (fun _=>ab rfl)<|ai<|al (ρ' :=[(5,_),(4,_),(9,_),(8,_),(7,_),(6,_),(0,_)]) ⟨rfl,rfl,rfl,rfl,rfl,rfl,rfl,trivial⟩<|ak (X' :=[_]) (S' :=[_,_]) (fun _ m=>m)<|ag<|ah<|aj<|hy (fun _=>aa rfl)<|hy (fun _=>dL rfl rfl)<|ai<|al (ρ' :=[(15,_),(5,_),(4,_),(9,_),(8,_),(7,_),(6,_),(0,_)]) ⟨rfl,rfl,rfl,rfl,rfl,rfl,rfl,rfl,trivial⟩<|ag<| ?_
  refine cC rfl (fun he=> ?_) (fun he=> ?_)
  ·have e0:b6 (F::Fs.drop (k+1)) d=F d:=if_pos he
   rw[e0]at hR
   rw[←hR]
   refine ah<|aj<|hy (fun _=>aa rfl)<|hy (fun _=>ab rfl)<|ai<|al (ρ' :=[(2,_),(15,_),(5,_),(4,_),(9,_),(8,_),(7,_),(6,_),(0,_)]) ⟨rfl,rfl,rfl,rfl,rfl,rfl,rfl,rfl,rfl,trivial⟩<|ag<|aV<|aY<|ax<|ax<|aY<|ax<| ?_
   exact bh trivial rfl rfl [0] rfl [] rfl ⟨st1,rfl,rfl,rfl,(hD1.le (by omega))⟩
  ·have e0:b6 (F::Fs.drop (k+1)) d=b6 (Fs.drop (k+1)) (F d).1:=if_neg he
   rw[e0]at hR
   refine aD<|aS<|ag<|aj<|hy (fun _=>aN rfl rfl (bE (by omega) (by omega)))<|hy (fun _=>aa rfl)<|ai<|al (ρ' :=[(8,_),(15,_),(5,_),(4,_),(9,_),(7,_),(6,_),(0,_)]) ⟨rfl,rfl,rfl,rfl,rfl,rfl,rfl,rfl,trivial⟩<| ?_
   refine eZ (k+1) st1 (F d).1 ⟨rfl,rfl,rfl,rfl,trivial⟩ [0] rfl [0,1] rfl (⟨by omega,hD1,hR⟩) (by omega)
 ·obtain rfl:k=n:=by omega
  rw[List.drop_of_length_le (by omega)]at hR
  have hR:(d,0)=d0:=hR
  rw[←hR]
  refine bL<|ao<|ao<|aC<|ag<|ah<|aj<|hy (fun _=>ab rfl)<|ai<|ag<|aV<| ?_
  exact bh trivial rfl rfl [0] rfl [] rfl ⟨st,rfl,rfl,rfl,hD⟩
end Go.Proofs.YtmibdabdlgmafaaGreatDoor
end
section
set_option maxRecDepth 20000
set_option maxHeartbeats 4000000
namespace Go.Proofs.YtmibdabdlgmafaaGreatDoor
open Go.Eng Go.Hx
theorem FA{g g2 g9 g3:Nat}{st:cF}{d:RD}{kk:Nat}{p:List UInt8}{A:Option Addr}{n c:Nat}{bb:List UInt8}(hD:DS st d kk)(hkk:kk≤99000)(hc:n≤c)(hl:bb.length=n)(hn:n≤4096):cf Tryz.prog 105 [.pointer (some ⟨g2,0,none⟩),.pointer (some ⟨g9,0,none⟩),.pointer (some ⟨g3,0,none⟩)] [bn g st] [aJ g2 35 [.pointer (some ⟨g,0,none⟩)],aJ g9 9 [SV p],aJ g3 27 [.slice A n c],c6 1 A n (aQ bb)] (fun v_ X_ S_=>∃st1,v_=(.int .i64 (d.bD p (bx bb)))∧X_=[bn g st1]∧S_=[]∧(DS st1 (d.write p (bx bb)) (kk+1))):=by
 have hsl:=kj bb
 refine aO (N:=9) Tryz.func105 rfl rfl (by simp) fun b=> ?_
 refine a6 (fun m=>gz (m.rd 3 rfl)) ?_
 rintro⟨hl_r,hA_r⟩
 refine ah<|aj<|hy (fun _=>ab rfl)<|ai<|ag<|ah<|cT [3,4] [(0,some 1),(1,some 1),(2,some 0),(3,none),(4,none),(5,some 2)] (by kernel_rfl) (by kernel_rfl) rfl 1<|cm (fun m=>aw rfl kX (aA (m.tX 0 rfl) (i:=0) rfl))<|cm (fun m=>aw rfl lH (aA (m.tX 1 rfl) (i:=0) rfl))<|cm (fun m=>aw rfl dU (aA (m.tX 2 rfl) (i:=0) rfl))<| ?_
 refine eb (aq rfl Tryz.call106 (EX (by omega) (by omega) hl) [] rfl [3] rfl ?_)
 rintro _ _ _ ⟨v,rfl,rfl,rfl⟩
 refine⟨(fun _=>wk [1] [0,1,2,3] rfl rfl), ?_⟩
 refine cd (fun m=>(m.own 0 rfl).slice) ?_
 rintro⟨A_x,c_x,rfl,hc_x⟩
 refine cd (fun m=>(m.ord 0 rfl).2.1) fun hA_x=> ?_
 refine eb (cI rfl Tryz.call33 (uQ hD (by omega) rfl (by omega)) [1] rfl (.x 0 rfl .own .nil) ?_)
 rintro _ _ _ ⟨st1,rfl,rfl,rfl,hp⟩
 refine⟨rfl, ?_⟩
 refine⟨(fun h=>absurd h (by decide)), ?_⟩
 refine an (ab rfl)<|bF<|al (ρ' :=[(3,_),(0,_),(1,_),(2,_)]) ⟨rfl,rfl,rfl,rfl,trivial⟩<|ak (X' :=[_,_]) (S' :=[_,_,_,_]) (fun _ m=>m)<|ag<|aV<| ?_
 exact bh trivial rfl rfl [0] rfl [] rfl ⟨st1,rfl,rfl,rfl,hp⟩
theorem EV{g g2 g9 g6:Nat}{st:cF}{d:RD}{kk:Nat}{p nm:List UInt8}(hD:DS st d kk)(hkk:kk≤99000)(hm:nm.length=32):cf Tryz.prog 107 [.pointer (some ⟨g2,0,none⟩),.pointer (some ⟨g9,0,none⟩),.pointer (some ⟨g6,0,none⟩)] [bn g st] [aJ g2 35 [.pointer (some ⟨g,0,none⟩)],aJ g9 9 [SV p],aJ g6 53 (aQ nm)] (fun v_ X_ S_=>∃st1,v_=(.int .i64 (d.bQ p (aF nm)))∧X_=[bn g st1]∧S_=[]∧(DS st1 (d.rename p (aF nm)) (kk+1))):=by
 refine aO (N:=9) Tryz.func107 rfl rfl (by simp) fun b=> ?_
 refine ah<|aj<|hy (fun _=>ab rfl)<|ai<|ag<|ah<|cT [3,4] [(0,some 1),(1,some 1),(2,some 0),(3,none),(4,none),(5,some 2)] (by kernel_rfl) (by kernel_rfl) rfl 1<|cm (fun m=>aw rfl kX (aA (m.tX 0 rfl) (i:=0) rfl))<|cm (fun m=>aw rfl lH (aA (m.tX 1 rfl) (i:=0) rfl))<|cm (fun m=>a7 rfl cy bp (by rw[ay];exact hm) ((m.tX 2 rfl).az))<| ?_
 refine eb (aq rfl Tryz.call94 (rH hm) [] rfl [] rfl ?_)
 rintro _ _ _ ⟨rfl,rfl,rfl⟩
 refine⟨(fun _=>wk [0] [0,1,2] rfl rfl), ?_⟩
 refine eb (aq rfl Tryz.call108 (xR hD (by omega) (a:=p) (c:=aF nm)) [0] rfl [] rfl ?_)
 rintro _ _ _ ⟨st1,rfl,rfl,rfl,hp⟩
 refine⟨(fun h=>absurd h (by decide)), ?_⟩
 refine an (ab rfl)<|bF<|al (ρ' :=[(3,_),(0,_),(1,_),(2,_)]) ⟨rfl,rfl,rfl,rfl,trivial⟩<|ak (X' :=[_]) (S' :=[_,_,_]) (fun _ m=>m)<|ag<|aV<| ?_
 exact bh trivial rfl rfl [0] rfl [] rfl ⟨st1,rfl,rfl,rfl,hp⟩
abbrev iV(g g2 g9 g3 g6:Nat)(A:Option Addr)(n c:Nat)(bb nm p:List UInt8):List bg:=[aJ g2 35 [.pointer (some ⟨g,0,none⟩)],aJ g9 9 [SV p],aJ g3 27 [.slice A n c],aJ g6 53 (aQ nm),c6 1 A n (aQ bb)]
theorem uL{g g2 g9 g3 g6:Nat}{A:Option Addr}{n c:Nat}{bb nm p:List UInt8}(hc:n≤c)(hl:bb.length=n)(hn:n≤4096):
  sk g (iV g g2 g9 g3 g6 A n c bb nm p) (.func (.func 105) #[] #[.pointer (some ⟨g2,0,none⟩),.pointer (some ⟨g9,0,none⟩),.pointer (some ⟨g3,0,none⟩)]) (re p (bx bb)):=
 ⟨105,[],[.pointer (some ⟨g2,0,none⟩),.pointer (some ⟨g9,0,none⟩),.pointer (some ⟨g3,0,none⟩)],rfl,Tryz.call105,fun st d kk hD hk=>cf.tO (FA hD hk hc hl hn) (by
  intro s hs
  simp only[List.mem_cons,List.not_mem_nil,or_false]at hs
  rcases hs with rfl|rfl|rfl|rfl
  ·exact⟨_,List.mem_singleton.2 rfl,View.pj 0 rfl⟩
  ·exact⟨_,List.mem_singleton.2 rfl,View.pj 1 rfl⟩
  ·exact⟨_,List.mem_singleton.2 rfl,View.pj 2 rfl⟩
  ·exact⟨_,List.mem_singleton.2 rfl,View.pj 4 rfl⟩) (fun v X S h=>by
  obtain⟨st1,h1,h2,h3,h4⟩:=h
  exact⟨[],⟨st1,h1,h2,rfl,h4⟩,q7.nil⟩)⟩
theorem xk{g g2 g9 g3 g6:Nat}{A:Option Addr}{n c:Nat}{bb nm p:List UInt8}(hm:nm.length=32):
  sk g (iV g g2 g9 g3 g6 A n c bb nm p) (.func (.func 107) #[] #[.pointer (some ⟨g2,0,none⟩),.pointer (some ⟨g9,0,none⟩),.pointer (some ⟨g6,0,none⟩)]) (rp p (aF nm)):=
 ⟨107,[],[.pointer (some ⟨g2,0,none⟩),.pointer (some ⟨g9,0,none⟩),.pointer (some ⟨g6,0,none⟩)],rfl,Tryz.call107,fun st d kk hD hk=>cf.tO (EV hD hk hm) (by
  intro s hs
  simp only[List.mem_cons,List.not_mem_nil,or_false]at hs
  rcases hs with rfl|rfl|rfl
  ·exact⟨_,List.mem_singleton.2 rfl,View.pj 0 rfl⟩
  ·exact⟨_,List.mem_singleton.2 rfl,View.pj 1 rfl⟩
  ·exact⟨_,List.mem_singleton.2 rfl,View.pj 3 rfl⟩) (fun v X S h=>by
  obtain⟨st1,h1,h2,h3,h4⟩:=h
  exact⟨[],⟨st1,h1,h2,rfl,h4⟩,q7.nil⟩)⟩
theorem qc{g:Nat}{L:List bg}:sk g L (.func (.func 110) #[.pointer (some ⟨g,0,none⟩)] #[]) cq:=
 ⟨110,[.pointer (some ⟨g,0,none⟩)],[],rfl,Tryz.call110,fun st d kk hD hk=>cf.tO (uA hD) (fun s hs=>by cases hs) (fun v X S h=>by
  obtain⟨st1,h1,h2,h3,h4⟩:=h
  exact⟨[],⟨st1,h1,h2,rfl,h4.le (by omega)⟩,q7.nil⟩)⟩
theorem eQ:dN.length=32:=List.length_replicate
theorem wY:(aQ dN).length=32:=by rw[ay,eQ]
theorem uS{d:RD}{b:List UInt8}(h:4096<b.length):d.put b=(d,dN,3):=by unfold RD.put;rw[if_pos h]
theorem zq{d:RD}{b:List UInt8}(h:¬4096<b.length)(h6:d.eI (ba b)=6):d.put b=(d,dN,6):=by unfold RD.put;rw[if_neg h,if_pos h6]
theorem wX{d:RD}{b:List UInt8}(h:¬4096<b.length)(h6:d.eI (ba b)=0):d.put b=(d,ba b,0):=by unfold RD.put;rw[if_neg h,if_neg (by rw[h6];decide),if_pos h6]
theorem Bp{d:RD}{b:List UInt8}(h:¬4096<b.length)(h6:¬d.eI (ba b)=6)(h0:¬d.eI (ba b)=0):d.put b=((d.gQ b).1,if(d.gQ b).2=0 then ba b else dN,(d.gQ b).2):=by unfold RD.put;rw[if_neg h,if_neg h6,if_neg h0]
abbrev x9(g g2 g9 g3 g6:Nat):List Value:=[.func (.func 105) #[] #[.pointer (some ⟨g2,0,none⟩),.pointer (some ⟨g9,0,none⟩),.pointer (some ⟨g3,0,none⟩)],.func (.func 110) #[.pointer (some ⟨g,0,none⟩)] #[],.func (.func 107) #[] #[.pointer (some ⟨g2,0,none⟩),.pointer (some ⟨g9,0,none⟩),.pointer (some ⟨g6,0,none⟩)],.func (.func 110) #[.pointer (some ⟨g,0,none⟩)] #[]]
abbrev vL(p b nm:List UInt8):List (RD→RD×Int):=[re p (bx b),cq,rp p (aF nm),cq]
theorem xm{g g2 g9 g3 g6:Nat}{A:Option Addr}{n c:Nat}{bb nm p:List UInt8}(hc:n≤c)(hl:bb.length=n)(hn:n≤4096)(hm:nm.length=32):
  ∀(i:Nat) (F:RD→RD×Int),(vL p bb nm)[i]? =some F→∃v,(x9 g g2 g9 g3 g6)[i]? =some v∧sk g (iV g g2 g9 g3 g6 A n c bb nm p) v F:=by
 intro i F h
 match i with
 |0=>cases h;exact⟨_,rfl,uL hc hl hn⟩
 |1=>cases h;exact⟨_,rfl,qc⟩
 |2=>cases h;exact⟨_,rfl,xk hm⟩
 |3=>cases h;exact⟨_,rfl,qc⟩
 |i+4=>cases h
theorem Fy{g:Nat}{st:cF}{d:RD}{kk:Nat}{A:Option Addr}{n c:Nat}{bb:List UInt8}(hD:DS st d kk)(hkk:kk≤90000)(hc:n≤c)(hl:bb.length=n)(hn:n≤100000):cf Tryz.prog 28 [.pointer (some ⟨g,0,none⟩),.slice A n c] [bn g st] [c6 1 A n (aQ bb),eM] (fun v_ X_ S_=>∃st1,v_=(.tuple #[.agg (aQ (d.put bb).2.1).toArray,.int .i64 (d.put bb).2.2])∧X_=[bn g st1]∧S_=[]∧(DS st1 (d.put bb).1 (kk+4))):=by
 have h32:(aQ (ba bb)).length=32:=by rw[ay,bj]
 have hhl:(bV (ba bb)).length=64:=by rw[dB,bj]
 refine aO (N:=53) Tryz.func28 rfl rfl (by simp) fun b=> ?_
 refine a6 (fun m=>gz (m.rd 0 rfl)) ?_
 rintro⟨hl_r,hA_r⟩
 refine ah<|aj<| ?_
 refine hx (cE rfl (fun g2=> ?_))
 refine aU (fun w m=>m.bU 0 rfl (show _=aJ g2 35 [.pointer (some ⟨g,0,none⟩)]from rfl)) ?_
 refine hx (cE rfl (fun g3=> ?_))
 refine aU (fun w m=>m.bU 0 rfl (show _=aJ g3 27 [.slice A n c]from rfl)) ?_
 refine hx (aP dQ (fun g4=> ?_))
 refine hy (fun _=>ab rfl)<|ai<|ak (X' :=[_,_,_,_]) (S' :=[_,_]) (fun _ m=>m)<|ag<|ah<|ah<|aj<|hy (fun m=>aw rfl dU (aA (m.aX 1 rfl) rfl))<|hy (fun _=>aW rfl Tryz.underlying27)<|hy (fun _=>cQ rfl rfl)<|ai<|al (ρ' :=[(15,_),(5,_),(4,_),(3,_),(2,_),(0,_),(1,_)]) ⟨rfl,rfl,rfl,rfl,rfl,rfl,rfl,trivial⟩<|ag<| ?_
 refine cC rfl (fun h1=> ?_) (fun h1=> ?_)
 ·have hb:4096<bb.length:=by omega
  rw[uS hb]
  refine ah<|aj<|hy (fun _=>yV (ep dQ rfl (by kernel_rfl)) ((rfl:_=Value.agg (aQ dN).toArray)))<| ?_
  refine cH (aI 0 rfl rfl rfl bp wY aR rfl ?_)
  refine hy (fun _=>ab rfl)<|ai<|al (ρ' :=[(5,_),(15,_),(4,_),(3,_),(2,_),(0,_),(1,_)]) ⟨rfl,rfl,rfl,rfl,rfl,rfl,rfl,trivial⟩<|ak (X' :=[_,_,_,_]) (S' :=[_,_]) (fun _ m=>m)<|ag<|aV<|ax<| ?_
  exact ez trivial rfl rfl rfl cy bp wY (fun m=>(m.aX 0 rfl).az) [3] rfl [] rfl ⟨st,rfl,rfl,rfl,(hD.le (by omega))⟩
 ·have hb:¬4096<bb.length:=by omega
  refine aD<|ag<|ah<|aj<|hy (fun m=>aw rfl dU (aA (m.aX 1 rfl) rfl))<| ?_
  refine hx (aq rfl Tryz.call102 (vG (by omega)) [] rfl [0,1] rfl ?_)
  rintro _ _ _ ⟨rfl,rfl,rfl⟩
  refine hx (aP dQ (fun g6=> ?_))
  refine cH (aI 0 rfl rfl rfl bp h32 aR rfl ?_)
  refine ai<|al (ρ' :=[(6,_),(15,_),(5,_),(4,_),(3,_),(2,_),(0,_),(1,_)]) ⟨rfl,rfl,rfl,rfl,rfl,rfl,rfl,rfl,trivial⟩<|ak (X' :=[_,_,_,_,_]) (S' :=[_,_]) (fun _ m=>m)<|ag<|ah<|aj<|hy (fun m=>aw rfl kX (aA (m.aX 3 rfl) rfl))<|hy (fun m=>a7 rfl cy bp h32 ((m.aX 0 rfl).az))<| ?_
  refine hx (aq rfl Tryz.call73 (Eo hD (bj _)) [4] rfl [1] rfl ?_)
  rintro _ _ _ ⟨v,rfl,rfl,rfl⟩
  refine aB (fun m=>(m.own 1 rfl).slice) ?_
  rintro⟨A_x,c_x,rfl,hc_x⟩
  refine aB (fun m=>(m.ord 1 rfl).2.1) fun hA_x=> ?_
  refine hy (fun _=>aa rfl)<|hy (fun _=>au rfl rfl)<|hy (fun _=>au rfl rfl)<|hy (fun _=>ab rfl)<|hy (fun _=>ab rfl)<|ai<|al (ρ' :=[(8,_),(6,_),(15,_),(5,_),(4,_),(3,_),(2,_),(0,_),(1,_)]) ⟨rfl,rfl,rfl,rfl,rfl,rfl,rfl,rfl,rfl,trivial⟩<|ak (X' :=[_,_,_,_,_,_]) (S' :=[_,_]) (fun _ m=>m)<|ag<|ah<|ah<|aj<|hy (fun _=>aa rfl)<|hy (fun _=>ku rfl Tryz.underlying47 (fun _ h=>by cases h))<|hy (fun _=>ku rfl Tryz.underlying47 (fun _ h=>by cases h))<| ?_
  refine hx (aq rfl Tryz.call103 (CD) [] rfl [] rfl ?_)
  rintro _ _ _ ⟨rfl,rfl,rfl⟩
  refine ai<|al (ρ' :=[(28,_),(8,_),(6,_),(15,_),(5,_),(4,_),(3,_),(2,_),(0,_),(1,_)]) ⟨rfl,rfl,rfl,rfl,rfl,rfl,rfl,rfl,rfl,rfl,trivial⟩<|ak (X' :=[_,_,_,_,_,_]) (S' :=[_,_]) (fun _ m=>m)<|ag<| ?_
  refine cC rfl (fun h6=> ?_) (fun h6=> ?_)
  ·rw[zq hb h6]
   have h6' :d.eI (ba bb)=6:=h6
   rw[h6']
   refine ah<|aj<|hy (fun _=>yV (ep dQ rfl (by kernel_rfl)) ((rfl:_=Value.agg (aQ dN).toArray)))<|hy (fun _=>aa rfl)<| ?_
   refine cH (aI 3 rfl rfl rfl bp wY aR rfl ?_)
   refine hy (fun _=>ab rfl)<|ai<|al (ρ' :=[(5,_),(28,_),(8,_),(6,_),(15,_),(4,_),(3,_),(2,_),(0,_),(1,_)]) ⟨rfl,rfl,rfl,rfl,rfl,rfl,rfl,rfl,rfl,rfl,trivial⟩<|ak (X' :=[_,_,_,_,_,_]) (S' :=[_,_]) (fun _ m=>m)<|ag<|aV<|ax<| ?_
   exact ez trivial rfl rfl rfl cy bp wY (fun m=>(m.aX 0 rfl).az) [1] rfl [] rfl ⟨st,rfl,rfl,rfl,(hD.le (by omega))⟩
  ·refine aD<|ag<|ah<|ah<|aj<|hy (fun _=>aa rfl)<|hy (fun _=>cx rfl rfl)<|ai<|al (ρ' :=[(32,_),(28,_),(8,_),(6,_),(15,_),(5,_),(4,_),(3,_),(2,_),(0,_),(1,_)]) ⟨rfl,rfl,rfl,rfl,rfl,rfl,rfl,rfl,rfl,rfl,rfl,trivial⟩<|ag<| ?_
   refine cC rfl (fun h0=> ?_) (fun h0=> ?_)
   ·rw[wX hb h0]
    have h0' :d.eI (ba bb)=0:=h0
    rw[h0']
    refine ah<|aj<|hy (fun m=>a7 rfl cy bp h32 ((m.aX 2 rfl).az))<|hy (fun _=>aa rfl)<| ?_
    refine cH (aI 3 rfl rfl rfl bp h32 aR rfl ?_)
    refine hy (fun _=>ab rfl)<|ai<|al (ρ' :=[(5,_),(32,_),(28,_),(8,_),(6,_),(15,_),(4,_),(3,_),(2,_),(0,_),(1,_)]) ⟨rfl,rfl,rfl,rfl,rfl,rfl,rfl,rfl,rfl,rfl,rfl,trivial⟩<|ak (X' :=[_,_,_,_,_,_]) (S' :=[_,_]) (fun _ m=>m)<|ag<|aV<|ax<| ?_
    exact ez trivial rfl rfl rfl cy bp h32 (fun m=>(m.aX 0 rfl).az) [1] rfl [] rfl ⟨st,rfl,rfl,rfl,(hD.le (by omega))⟩
   ·rw[Bp hb h6 h0]
    refine aD<|ag<|ah<|aj<|hy (fun m=>a7 rfl cy bp h32 ((m.aX 2 rfl).az))<| ?_
    refine hx (aq rfl Tryz.call104 (zU (bj _)) [] rfl [] rfl ?_)
    rintro _ _ _ ⟨rfl,rfl,rfl⟩
    refine hy (fun _=>yV (iP rfl rfl (ix (a:=[116,47]) (b:=bV (ba bb)) (by simp[hhl]))) ((show Value.string (strOf [116,47]++strOf (bV (ba bb)))=SV (bJ (ba bb))from congrArg Value.string (cZ _ _))))<| ?_
    refine hx (aP FV (fun g9=> ?_))
    refine cH (dF 0 rfl rfl rfl GD rfl (by first|exact Nat.le_of_ble_eq_true rfl|simp) ?_)
    refine ai<|al (ρ' :=[(9,_),(32,_),(28,_),(8,_),(6,_),(15,_),(5,_),(4,_),(3,_),(2,_),(0,_),(1,_)]) ⟨rfl,rfl,rfl,rfl,rfl,rfl,rfl,rfl,rfl,rfl,rfl,rfl,trivial⟩<|ak (X' :=[_,_,_,_,_,_,_]) (S' :=[_,_]) (fun _ m=>m)<|ag<|ah<|aj<|hy (fun _=>jV rfl rfl)<|hy (fun _=>ab rfl)<|ai<|al (ρ' :=[(10,_),(9,_),(32,_),(28,_),(8,_),(6,_),(15,_),(5,_),(4,_),(3,_),(2,_),(0,_),(1,_)]) ⟨rfl,rfl,rfl,rfl,rfl,rfl,rfl,rfl,rfl,rfl,rfl,rfl,rfl,trivial⟩<|ag<|ah<|aj<|hy (fun _=>jV rfl rfl)<|hy (fun _=>ab rfl)<|ai<|al (ρ' :=[(11,_),(10,_),(9,_),(32,_),(28,_),(8,_),(6,_),(15,_),(5,_),(4,_),(3,_),(2,_),(0,_),(1,_)]) ⟨rfl,rfl,rfl,rfl,rfl,rfl,rfl,rfl,rfl,rfl,rfl,rfl,rfl,rfl,trivial⟩<|ag<|ah<|ah<|aj<|hy (fun _=>aa rfl)<|hy (fun m=>aw rfl kX (aA (m.aX 6 rfl) rfl))<|hy (fun _=>jV rfl rfl)<|hy (fun _=>aa rfl)<|hy (fun m=>aw rfl kX (aA (m.aX 6 rfl) rfl))<|hy (fun _=>jV rfl rfl)<| ?_
    refine hx (b4 Tryz.underlying239 Es rfl rfl rfl (by simp[Value.cells,B8]) (by decide) (by decide) (fun g46=> ?_))
    have hA_b46:0<4→(some (⟨g46,0,none⟩:Addr))≠none:=fun _ h=>by cases h
    refine aU (fun w m=>m.bU 1 rfl (show _=aJ g9 9 [SV (bJ (ba bb))]from rfl)) ?_
    refine aU (fun w m=>m.bU 4 rfl (show _=aJ g6 53 (aQ (ba bb))from rfl)) ?_
    refine aU (fun w m=>m.bU 2 rfl (show _=aG 179 1 (.slice (some ⟨g46,0,none⟩) 4 4) 4 (x9 g g2 g9 g3 g6)from rfl)) ?_
    refine aU (fun w m=>(m.perm (ar [7] _ [_] _ rfl)).freeze) ?_
    refine aU (fun w m=>(m.perm (ar [2] _ [_] _ rfl)).freeze) ?_
    refine aU (fun w m=>(m.perm (ar [5] _ [_] _ rfl)).freeze) ?_
    refine aU (fun w m=>(m.perm (ar [1] _ [_] _ rfl)).freeze) ?_
    refine aU (S' :=mX (iV g g2 g9 g3 g6 A n c bb (ba bb) (bJ (ba bb)))::_) (fun w m=>m.A5 [3,2,1,0,4] rfl) ?_
    refine hx (cI rfl Tryz.call109 (F9 hD (by omega) (show 4≤100000 by decide) rfl (xm hc hl (by omega) (bj _)) (kk:=kk) (Fs:=(vL (bJ (ba bb)) bb (ba bb))) (fs:=(x9 g g2 g9 g3 g6)) (L:=(iV g g2 g9 g3 g6 A n c bb (ba bb) (bJ (ba bb))))) [1] rfl (.x 0 rfl .own (.s 0 rfl .nil)) ?_)
    rintro _ _ _ ⟨st1,rfl,rfl,rfl,hD1⟩
    refine⟨rfl, ?_⟩
    refine hy (fun _=>ab rfl)<|ai<|al (ρ' :=[(12,_),(11,_),(10,_),(9,_),(32,_),(28,_),(8,_),(6,_),(15,_),(5,_),(4,_),(3,_),(2,_),(0,_),(1,_)]) ⟨rfl,rfl,rfl,rfl,rfl,rfl,rfl,rfl,rfl,rfl,rfl,rfl,rfl,rfl,rfl,trivial⟩<|ak (X' :=[_,_,_,_]) (S' :=[_,_,_,_,_,_,_]) (fun _ m=>m)<|ag<|ah<|aj<|hy (fun _=>aa rfl)<|hy (fun _=>dL rfl rfl)<|ai<|al (ρ' :=[(49,_),(12,_),(11,_),(10,_),(9,_),(32,_),(28,_),(8,_),(6,_),(15,_),(5,_),(4,_),(3,_),(2,_),(0,_),(1,_)]) ⟨rfl,rfl,rfl,rfl,rfl,rfl,rfl,rfl,rfl,rfl,rfl,rfl,rfl,rfl,rfl,rfl,trivial⟩<|ag<| ?_
    refine cC rfl (fun h2=> ?_) (fun h2=> ?_)
    ·have hn2:¬(d.gQ bb).2=0:=h2
     rw[if_neg hn2]
     refine ah<|aj<|hy (fun _=>yV (ep dQ rfl (by kernel_rfl)) ((rfl:_=Value.agg (aQ dN).toArray)))<|hy (fun _=>aa rfl)<| ?_
     refine cH (aI 3 rfl rfl rfl bp wY aR rfl ?_)
     refine hy (fun _=>ab rfl)<|ai<|al (ρ' :=[(5,_),(49,_),(12,_),(11,_),(10,_),(9,_),(32,_),(28,_),(8,_),(6,_),(15,_),(4,_),(3,_),(2,_),(0,_),(1,_)]) ⟨rfl,rfl,rfl,rfl,rfl,rfl,rfl,rfl,rfl,rfl,rfl,rfl,rfl,rfl,rfl,rfl,trivial⟩<|ak (X' :=[_,_,_,_]) (S' :=[_,_,_,_,_,_,_]) (fun _ m=>m)<|ag<|aV<|ax<| ?_
     exact ez trivial rfl rfl rfl cy bp wY (fun m=>(m.aX 0 rfl).az) [1] rfl [] rfl ⟨st1,rfl,rfl,rfl,hD1⟩
    ·have h2:=Decidable.not_not.1 h2
     have h2' :(b6 (vL (bJ (ba bb)) bb (ba bb)) d).2=0:=h2
     have h2'' :(d.gQ bb).2=0:=h2'
     rw[if_pos h2'',h2'']
     refine aD<|ag<|ah<|aj<|hy (fun m=>a7 rfl cy bp h32 ((m.tX 1 rfl).az))<| ?_
     refine cH (aI 3 rfl rfl rfl bp h32 aR rfl ?_)
     refine hy (fun _=>ab rfl)<|ai<|al (ρ' :=[(5,_),(49,_),(12,_),(11,_),(10,_),(9,_),(32,_),(28,_),(8,_),(6,_),(15,_),(4,_),(3,_),(2,_),(0,_),(1,_)]) ⟨rfl,rfl,rfl,rfl,rfl,rfl,rfl,rfl,rfl,rfl,rfl,rfl,rfl,rfl,rfl,rfl,trivial⟩<|ak (X' :=[_,_,_,_]) (S' :=[_,_,_,_,_,_,_]) (fun _ m=>m)<|ag<|aV<| ?_
     exact ez trivial rfl rfl rfl cy bp h32 (fun m=>(m.aX 0 rfl).az) [1] rfl [] rfl ⟨st1,rfl,rfl,rfl,hD1⟩
end Go.Proofs.YtmibdabdlgmafaaGreatDoor
end
section
set_option maxRecDepth 20000
namespace Go.Proofs.YtmibdabdlgmafaaGreatDoor
open Go.Eng Go.Hx
def ss(l:List (List UInt8)):List Value:=l.map SV
theorem yJ{l:List (List UInt8)}{i:Nat}(h:i<l.length):(ss l)[i]? =some (SV (l.getD i [])):=by simp[ss,List.getElem?_map,List.getElem?_eq_getElem h,List.getD]
theorem CB{l:List (List UInt8)}:∀u∈ss l,u.oneCell' =true:=by
 intro u hu
 obtain⟨x,_,rfl⟩:=List.mem_map.1 hu
 rfl
end Go.Proofs.YtmibdabdlgmafaaGreatDoor
end
section
namespace Go.Proofs
open Go.Shelf
def Tryz.s7:Go.Shelf.Ren:=⟨fun|190=>165|125=>207|258=>223|128=>254|129=>255|302=>258|303=>259|304=>260|305=>261|306=>262|307=>263|308=>264|309=>265|310=>266|333=>291|329=>287|330=>288|334=>292|335=>293|336=>294|344=>307|n=>n,fun|31=>152|9=>9|3=>3|46=>263|0=>0|51=>166|53=>310|4=>4|183=>339|182=>338|131=>343|5=>5|218=>376|222=>380|228=>391|229=>324|n=>n,fun|n=>n⟩
theorem Tryz.AV:Go.Proofs.Lays.n190 Tryz.prog Tryz.s7:={
 mixed:=by kernel_rfl
 f125:=Tryz.func207.trans (congrArg some (by kernel_rfl))
 f128:=Tryz.func254.trans (congrArg some (by kernel_rfl))
 f129:=Tryz.func255.trans (congrArg some (by kernel_rfl))
 f190:=Tryz.func165.trans (congrArg some (by kernel_rfl))
 f258:=Tryz.func223.trans (congrArg some (by kernel_rfl))
 f302:=Tryz.func258.trans (congrArg some (by kernel_rfl))
 f303:=Tryz.func259.trans (congrArg some (by kernel_rfl))
 f304:=Tryz.func260.trans (congrArg some (by kernel_rfl))
 f305:=Tryz.func261.trans (congrArg some (by kernel_rfl))
 f306:=Tryz.func262.trans (congrArg some (by kernel_rfl))
 f307:=Tryz.func263.trans (congrArg some (by kernel_rfl))
 f308:=Tryz.func264.trans (congrArg some (by kernel_rfl))
 f309:=Tryz.func265.trans (congrArg some (by kernel_rfl))
 f310:=Tryz.func266.trans (congrArg some (by kernel_rfl))
 f329:=Tryz.func287.trans (congrArg some (by kernel_rfl))
 f330:=Tryz.func288.trans (congrArg some (by kernel_rfl))
 f333:=Tryz.func291.trans (congrArg some (by kernel_rfl))
 f334:=Tryz.func292.trans (congrArg some (by kernel_rfl))
 f335:=Tryz.func293.trans (congrArg some (by kernel_rfl))
 f336:=Tryz.func294.trans (congrArg some (by kernel_rfl))
 f344:=Tryz.func307.trans (congrArg some (by kernel_rfl))
 t0:=Tryz.underlying0
 a0:=Tryz.isAgg0
 z0:=Tryz.sizeOf0
 v0:=Tryz.zeroValue0
 t3:=Tryz.underlying3
 a3:=Tryz.isAgg3
 z3:=Tryz.sizeOf3
 v3:=Tryz.zeroValue3
 t4:=Tryz.underlying4
 a4:=Tryz.isAgg4
 z4:=Tryz.sizeOf4
 v4:=Tryz.zeroValue4
 t5:=Tryz.underlying5
 a5:=Tryz.isAgg5
 z5:=Tryz.sizeOf5
 v5:=Tryz.zeroValue5
 t9:=Tryz.underlying9
 a9:=Tryz.isAgg9
 z9:=Tryz.sizeOf9
 v9:=Tryz.zeroValue9
 t31:=Tryz.underlying152
 a31:=Tryz.isAgg152
 z31:=Tryz.sizeOf152
 v31:=Tryz.zeroValue152
 t46:=Tryz.underlying263
 a46:=Tryz.isAgg263
 z46:=Tryz.sizeOf263
 v46:=Tryz.zeroValue263
 t51:=Tryz.underlying166
 a51:=Tryz.isAgg166
 z51:=Tryz.sizeOf166
 v51:=Tryz.zeroValue166
 t53:=Tryz.underlying310
 a53:=Tryz.isAgg310
 z53:=Tryz.sizeOf310
 v53:=Tryz.zeroValue310
 t131:=Tryz.underlying343
 a131:=Tryz.isAgg343
 z131:=Tryz.sizeOf343
 v131:=Tryz.zeroValue343
 t182:=Tryz.underlying338
 a182:=Tryz.isAgg338
 z182:=Tryz.sizeOf338
 v182:=Tryz.zeroValue338
 t183:=Tryz.underlying339
 a183:=Tryz.isAgg339
 z183:=Tryz.sizeOf339
 v183:=Tryz.zeroValue339
 t218:=Tryz.underlying376
 a218:=Tryz.isAgg376
 z218:=Tryz.sizeOf376
 v218:=Tryz.zeroValue376
 t222:=Tryz.underlying380
 a222:=Tryz.isAgg380
 z222:=Tryz.sizeOf380
 v222:=Tryz.zeroValue380
 t228:=Tryz.underlying391
 a228:=Tryz.isAgg391
 z228:=Tryz.sizeOf391
 v228:=Tryz.zeroValue391
 t229:=Tryz.underlying324
 a229:=Tryz.isAgg324
 z229:=Tryz.sizeOf324
 v229:=Tryz.zeroValue324}
end Go.Proofs
end
section
set_option maxRecDepth 20000
namespace Go.Proofs.YtmibdabdlgmafaaGreatDoor
open Go.Eng Go.Hx Go.Sort
def wC(l:List (List UInt8)):List (List UInt8):=l.mergeSort fun x y=>decide (x≤y)
theorem zG{w:World}{g n o:Nat}{os:Array Obj}{cur:Array Value}{e:TypeId}{fr:Nat×Nat}(d:Array (List UInt8))(hb:w.heap[g]? =some (.cells cur e fr)):
  (grow (putRow encStr (Go.Sort.ahead w n) g o d) os).heap[g]? =some (.cells (putCells encStr o d cur) e fr):=by
 have hg:g<w.heap.size:=(Array.getElem?_eq_some_iff.1 hb).1
 rw[heap_grow_old _ _ (by simpa using hg)]
 simp[putRow,mapBlock,Go.Sort.ahead,Array.getElem?_modify,hb,onCells]
theorem Dj{w:World}{g n o:Nat}{os:Array Obj}(d:Array (List UInt8)):Fr (fun k=>k=g) w (grow (putRow encStr (Go.Sort.ahead w n) g o d) os):=by
 refine⟨rfl,rfl,rfl,by simp,fun k hk hne=> ?_⟩
 rw[heap_grow_old _ _ (by simpa using hk)]
 have:g≠k:=fun e=>hne e.symm
 simp[putRow,mapBlock,Go.Sort.ahead,Array.getElem?_modify,this]
theorem xC(cur:List Value)(o:Nat)(ts:List (List UInt8))(h:o+ts.length≤cur.length):((putCells encStr o ts.toArray cur.toArray).toList.drop o).take ts.length=ss ts:=by
 apply List.ext_getElem?
 intro j
 by_cases hj:j<ts.length
 ·rw[List.getElem?_take_of_lt hj,List.getElem?_drop,Array.getElem?_toList]
  simp[putCells,hj,ss,show o+j<cur.length by omega,SV,strOf]
 ·rw[List.getElem?_take_eq_none (by omega),List.getElem?_eq_none (by simp[ss];omega)]
theorem rk(l:List (List UInt8)):(wC l).length=l.length:=List.length_mergeSort ..
theorem DG{A:Option Addr}{n c base:Nat}{e:TypeId}{l:List (List UInt8)}{w:World}(h:Go.Eng.Own w base e 1 (.slice A n c) n (ss l))(hn6:n≤1000000):
  Calls Tryz.prog 165 #[.slice A n c] w fun r w' =>r= .returned (.tuple #[])∧Go.Eng.Own w' base e 1 (.slice A n c) n (ss (wC l))∧Fr (iU (.slice A n c)) w w' :=by
 obtain⟨h1,h2⟩:=h
 have hl:l.length=n:=by simpa[ss]using h1
 rcases h2 with⟨hv,hn⟩|⟨g,o,cap,cur,hv,hb,⟨fr,hh,hf,hfl⟩,hnc,hcm,hfit,hcs⟩
 ·cases hv
  obtain rfl:l=[]:=List.eq_nil_of_length_eq_zero hl
  refine Calls.mono (qC BO (by intro s hs;cases hs)) (fun r w' ⟨hr,hf⟩=>⟨hr,⟨by simp[wC,ss],.inl ⟨rfl,rfl⟩⟩,hf.mono (fun _ _ e=>e.elim)⟩)
 ·cases hv
  subst hl
  have hB:fe w g e cur:=⟨fr,hh,hf,hfl⟩
  have hH:Holds encStr w g o l.toArray:=by
   intro j hj
   have hj' :j<l.length:=by simpa using hj
   have h3:((cur.drop o).take (l.length*1))[j]? =(ss l)[j]? :=by rw[hcs]
   rw[List.getElem?_take_of_lt (by omega),List.getElem?_drop,yJ hj']at h3
   refine⟨?_,hB.frozen (by omega)⟩
   rw[hB.cell h3]
   simp[List.getD,List.getElem?_eq_getElem hj',hj',SV,strOf]
  refine Calls.mono (Any.slices_Sort_string Tryz.AV g o c l w hH hB.lt (by omega)) ?_
  rintro r w' ⟨hr,k,os,rfl⟩
  refine⟨hr,⟨by simp[ss,rk],.inr ⟨g,o,c,(putCells encStr o (wC l).toArray cur.toArray).toList,rfl,hb, ?_,hnc,hcm,by simp[putCells];omega, ?_⟩⟩,Dj _⟩
  ·have:=zG (n:=k) (o:=o) (os:=os) (wC l).toArray hh
   exact⟨fr,by simpa[wC]using this,fun i hi=>hf i (by simpa[putCells]using hi),by simpa[putCells]using hfl⟩
  ·have:=xC cur o (wC l) (by rw[rk];omega)
   rw[rk]at this
   rw[Nat.mul_one];exact this
theorem Fl{A:Option Addr}{n c:Nat}{e:TypeId}{l:List (List UInt8)}(hn:n≤1000000):cf Tryz.prog 165 [.slice A n c] [aG e 1 (.slice A n c) n (ss l)] [] (fun v_ X_ S_=>v_=(.tuple #[])∧X_=[aG e 1 (.slice A n c) n (ss (wC l))]∧S_=[]):=by
 refine fun w m=>Calls.mono (DG (m.own 0 rfl) hn) ?_
 rintro r w' ⟨hr,ho,hf⟩
 exact⟨_,_,_,hr,⟨rfl,rfl,rfl⟩,m.change (r' :=aG e 1 (.slice A n c) n (ss (wC l))) hf ho (fun k hk=>.inl hk)⟩
end Go.Proofs.YtmibdabdlgmafaaGreatDoor
end
section
set_option maxRecDepth 20000
namespace Go.Proofs.YtmibdabdlgmafaaGreatDoor
open Go.Eng Go.Hx
theorem lz{α:Type}:∀{l:List α} {j:Nat} {x:α},l[j]? =some x→l.Perm (x::l.eraseIdx j)
 | [],j,x,h=>by simp at h
 |a::r,0,x,h=>by
  simp only[List.getElem?_cons_zero,Option.some.injEq]at h
  subst h;exact List.Perm.refl _
 |a::r,j+1,x,h=>by
  have:=lz (l:=r) (j:=j) (x:=x) (by simpa using h)
  exact(List.Perm.cons a this).trans (List.Perm.swap x a _)
def pre(p s:List UInt8):Bool:=decide (s.take p.length=p)
theorem rV{s p:List UInt8}:cf Tryz.prog 222 [.string (strOf s),.string (strOf p)] [] [] (fun v_ X_ S_=>v_=(.bool (pre p s))∧X_=[]∧S_=[]):=by
 have hs1:=cV s
 have hs2:=cV p
 refine aO (N:=18) Tryz.func222 rfl rfl (by simp) fun b=> ?_
 by_cases h:p.length≤s.length
 ·refine ah<|aj<|hy (fun _=>ab rfl)<|ai<|ag<|ah<|aj<|hy (fun _=>aa rfl)<|hy (fun _=>cS rfl Tryz.underlying9)<|hy (fun _=>aa rfl)<|hy (fun _=>cS rfl Tryz.underlying9)<|hy (fun _=>yT (jS rfl rfl) ((decide_eq_true (by omega))))<|hy (fun _=>aa rfl)<|de (o:=_) rfl rfl rfl (fun _=>aa rfl)<|de (o:=_) rfl rfl rfl (fun _=>aa rfl)<|de (o:=_) rfl rfl rfl (fun _=>cS rfl Tryz.underlying9)<|de (o:=_) rfl rfl rfl (fun _=>yV (ry rfl rfl Tryz.underlying9 (show((p.length:Nat):Int)=_ by omega) (by rw[pS];exact h)) ((rfl:Value.string _= .string (strOf (s.take p.length)))))<|de (o:=_) rfl rfl rfl (fun _=>aa rfl)<|de (o:=_) rfl rfl rfl (fun _=>sO rfl rfl)<|hy (fun _=>bK rfl rfl)<|hy (fun _=>ab rfl)<|ai<|al (ρ' :=[(4,_),(0,_),(1,_)]) ⟨rfl,rfl,rfl,trivial⟩<|ag<|aV<| ?_
  exact bh trivial rfl rfl [] rfl [] rfl ⟨(congrArg Value.bool (decide_eq_decide.2 cz)),rfl,rfl⟩
 ·refine ah<|aj<|hy (fun _=>ab rfl)<|ai<|ag<|ah<|aj<|hy (fun _=>aa rfl)<|hy (fun _=>cS rfl Tryz.underlying9)<|hy (fun _=>aa rfl)<|hy (fun _=>cS rfl Tryz.underlying9)<|hy (fun _=>yF (jS rfl rfl) ((decide_eq_false (by omega))))<|hy (fun _=>aa rfl)<|bu rfl rfl rfl (by decide)<|bu rfl rfl rfl (by decide)<|bu rfl rfl rfl (by decide)<|bu rfl rfl rfl (by decide)<|bu rfl rfl rfl (by decide)<|bu rfl rfl rfl (by decide)<|hy (fun _=>bN rfl rfl)<|hy (fun _=>ab rfl)<|ai<|al (ρ' :=[(4,_),(0,_),(1,_)]) ⟨rfl,rfl,rfl,trivial⟩<|ag<|aV<| ?_
  exact bh trivial rfl rfl [] rfl [] rfl ⟨(congrArg Value.bool (decide_eq_false (fun e=>h (by rw[←e,List.length_take];omega))).symm),rfl,rfl⟩
theorem tM{s p:List UInt8}:cf Tryz.prog 164 [.string (strOf s),.string (strOf p)] [] [] (fun v_ X_ S_=>v_=(.bool (pre p s))∧X_=[]∧S_=[]):=by
 refine aO (N:=8) Tryz.func164 rfl rfl (by simp) fun b=> ?_
 refine ah<|aj<|hy (fun _=>ab rfl)<|ai<|ag<|ah<|aj<|hy (fun _=>aa rfl)<|hy (fun _=>aa rfl)<| ?_
 refine hx (aq rfl Tryz.call222 (rV) [] rfl [] rfl ?_)
 rintro _ _ _ ⟨rfl,rfl,rfl⟩
 refine hy (fun _=>ab rfl)<|ai<|al (ρ' :=[(4,_),(0,_),(1,_)]) ⟨rfl,rfl,rfl,trivial⟩<|ak (X' :=[]) (S' :=[]) (fun _ m=>m)<|ag<|aV<| ?_
 exact bh trivial rfl rfl [] rfl [] rfl ⟨rfl,rfl,rfl⟩
theorem Fx{g:Nat}{st:cF}{p:List UInt8}(hk:st.seen.length≤100000):cf Tryz.prog 86 [.pointer (some ⟨g,0,none⟩),.string (strOf p)] [bn g st] [] (fun v_ X_ S_=>∃v n ks,v_=v∧X_=[bn g st,aG 9 1 v n (ss (wC ks))]∧S_=[]∧(n=ks.length∧ks.Perm ((b7 st.seen).filter (pre p)))):=by
 refine aO (N:=26) Tryz.func86 rfl rfl (by simp) fun b=> ?_
 refine bw (fun w m=>(m.perm (ar [0] _ [_] _ rfl)).unpack) ?_
 refine ah<|aj<|hy (fun _=>ab rfl)<|ai<|ag<|ah<|aj<|hy (fun _=>ab rfl)<|ai<|ag<|ah<|ah<|aj<|hy (fun _=>aa rfl)<|hy (fun _=>bd rfl)<|hy (fun _=>aL rfl gF (by decide))<|hy (fun m=>aw rfl mi (aA (m.aX 0 rfl) rfl))<| ?_
 refine hx (oy 1 rfl rfl Tryz.underlying174 (fun r11=> ?_))
 refine ai<|al (ρ' :=[(11,_),(5,_),(4,_),(0,_),(1,_)]) ⟨rfl,rfl,rfl,rfl,rfl,trivial⟩<|ak (X' :=[_,_,_,_,_]) (S' :=[]) (fun _ m=>m)<|ag<|aK<| ?_
 refine bw (fun w m=>m.dy (r' :=aG 9 1 (.slice none 0 0) 0 []) (.refl _ _) (Own.nil _ _ _ _) (fun k hk=>hk.elim)) ?_
 refine oU (fun left cur A1 k c1 ks=>left.length) (fun left cur A1 k c1 ks=>[(5,.slice A1 k c1)]) (fun left cur A1 k c1 ks=>[aG 9 1 (.slice A1 k c1) k (ss ks),jj SV r11 st.gs (dK st.seen) (dK left) cur]) (fun left cur A1 k c1 ks=>[]) (fun left cur A1 k c1 ks=>k=ks.length∧k+left.length≤st.seen.length∧(ks++(b7 left).filter (pre p)).Perm ((b7 st.seen).filter (pre p))) st.seen none none 0 0 [] [(11,_),(4,_),(0,_),(1,_)] ⟨rfl,rfl,rfl,rfl,trivial⟩ [0,0] rfl [] rfl (⟨rfl,by omega,List.Perm.refl _⟩) ⟨rfl,trivial⟩ (fun left cur A1 k c1 ks ⟨hkn,hkl,hpm⟩=> ?_)
 refine ah<|aj<| ?_
 refine hx (rX 1 rfl rfl (fun h0=> ?_) (fun j x hx1=> ?_))
 ·obtain rfl:left=[]:=List.map_eq_nil_iff.1 h0
  refine hy (fun _=>au rfl rfl)<|ai<|al (ρ' :=[(13,_),(5,_),(11,_),(4,_),(0,_),(1,_)]) ⟨rfl,rfl,rfl,rfl,rfl,rfl,trivial⟩<|ag<|ah<| ?_
  refine dO rfl (rfl) ?_
  refine bL<|ao<|ao<|aC<|ag<|ah<|aj<|hy (fun _=>aa rfl)<| ?_
  refine hx (aq rfl Tryz.call165 (Fl (by omega)) [0] rfl [] rfl ?_)
  rintro _ _ _ ⟨rfl,rfl,rfl⟩
  refine ai<|al (ρ' :=[(13,_),(5,_),(11,_),(4,_),(0,_),(1,_)]) ⟨rfl,rfl,rfl,rfl,rfl,rfl,trivial⟩<|ak (X' :=[_,_,_,_,_,_]) (S' :=[]) (fun _ m=>m)<|ag<|ah<|aj<|hy (fun _=>aa rfl)<|hy (fun _=>ab rfl)<|ai<|al (ρ' :=[(4,_),(13,_),(5,_),(11,_),(0,_),(1,_)]) ⟨rfl,rfl,rfl,rfl,rfl,rfl,trivial⟩<|ag<|aV<| ?_
  refine ak (fun w m=>m.ub 1 rfl) ?_
  refine ak (X' :=bn g st::_) (fun w m=>(m.perm (ar [2,0,1,1,1] _ [_,_,_,_,_] _ rfl)).pack) ?_
  exact bh trivial rfl rfl [0,0] rfl [] rfl ⟨_,_,_,rfl,rfl,rfl,⟨hkn,by simpa[b7]using hpm⟩⟩
 ·obtain⟨key,v⟩:=x
  obtain⟨r,hr,e⟩:=vh hx1
  obtain rfl:v=r.val:=e
  have hlt:=(List.getElem?_eq_some_iff.1 hr).1
  simp only at hr
  have hpe:=lz hr
  have hpa:(b7 left).Perm (key::b7 (left.eraseIdx j)):=by simpa[b7]using hpe.map Prod.fst
  have hpf:=hpa.filter (pre p)
  refine hy (fun _=>au rfl rfl)<|ai<|al (ρ' :=[(13,_),(5,_),(11,_),(4,_),(0,_),(1,_)]) ⟨rfl,rfl,rfl,rfl,rfl,rfl,trivial⟩<|ag<|ah<| ?_
  refine gY rfl (rfl) ?_
  refine aD<|ag<|aK<|ah<|aj<|hy (fun m=>oM rfl (m.Ed 0 rfl))<|hy (fun _=>au rfl rfl)<|hy (fun _=>ab rfl)<|ai<|al (ρ' :=[(6,_),(13,_),(5,_),(11,_),(4,_),(0,_),(1,_)]) ⟨rfl,rfl,rfl,rfl,rfl,rfl,rfl,trivial⟩<|ag<|ah<|aj<|hy (fun _=>aa rfl)<|hy (fun _=>aa rfl)<| ?_
  refine hx (aq rfl Tryz.call164 (tM) [] rfl [] rfl ?_)
  rintro _ _ _ ⟨rfl,rfl,rfl⟩
  refine ai<|al (ρ' :=[(18,_),(6,_),(13,_),(5,_),(11,_),(4,_),(0,_),(1,_)]) ⟨rfl,rfl,rfl,rfl,rfl,rfl,rfl,rfl,trivial⟩<|ak (X' :=[_,_,_,_,_,_]) (S' :=[]) (fun _ m=>m)<|ag<| ?_
  refine Bj rfl (fun hpr=> ?_) (fun hpr=> ?_)
  ·have hp2:(ks++[key]++(b7 (left.eraseIdx j)).filter (pre p)).Perm ((b7 st.seen).filter (pre p)):=by
    rw[List.filter_cons,if_pos hpr]at hpf
    rw[List.append_assoc]
    exact((List.Perm.append_left ks hpf).symm.trans hpm)
   refine aj<|hy (fun _=>aa rfl)<|hy (fun _=>aa rfl)<| ?_
   refine hx (b4 Tryz.underlying152 FV rfl rfl rfl (by simp[Value.cells,SV]) (by decide) (by decide) (fun g21=> ?_))
   have hA_b21:0<1→(some (⟨g21,0,none⟩:Addr))≠none:=fun _ h=>by cases h
   refine aU (fun w m=>m.bU 0 rfl (show _=aG 9 1 (.slice (some ⟨g21,0,none⟩) 1 1) 1 (ss [key])from rfl)) ?_
   refine hx (bI 2 rfl rfl rfl Tryz.underlying152 Tryz.underlying152 (by exact .inl rfl) FV rfl (fun m=>Src.bZ (m.ord 0 rfl)) CB (by unfold maxLen;omega) (by omega) (fun u=> ?_))
   refine aB (fun m=>(m.own 0 rfl).slice) ?_
   rintro⟨A_o,c_o,rfl,hc_o⟩
   refine aB (fun m=>(m.ord 0 rfl).2.1) fun hA_o=> ?_
   refine aU (fun w m=>m.bU 0 rfl (show _=aG 9 1 (.slice A_o (k+1) c_o) (k+1) (ss (ks++[key]))from by simp[ss])) ?_
   refine hy (fun _=>ab rfl)<|ai<|al (ρ' :=[(5,_),(18,_),(6,_),(13,_),(11,_),(4,_),(0,_),(1,_)]) ⟨rfl,rfl,rfl,rfl,rfl,rfl,rfl,rfl,trivial⟩<|ak (X' :=[_,_,_,_,_,_,_]) (S' :=[]) (fun _ m=>m)<|aS<| ?_
   refine ak (fun w m=>m.bU 2 rfl (show _=jj SV r11 st.gs (dK st.seen) (dK (left.eraseIdx j)) (some (key,r.val))from congrArg (fun q=>jj SV r11 st.gs (dK st.seen) q (some (key,r.val))) (lr left j))) ?_
   refine gy (left.eraseIdx j) (some (key,r.val)) A_o (k+1) c_o (ks++[key]) ⟨rfl,rfl,rfl,rfl,rfl,trivial⟩ [1,0,1,1,1,1] rfl [] rfl (⟨by rw[List.length_append,hkn];rfl,by rw[List.length_eraseIdx,if_pos hlt];omega,hp2⟩) (by rw[List.length_eraseIdx,if_pos hlt];omega)
  ·have hp2:(ks++(b7 (left.eraseIdx j)).filter (pre p)).Perm ((b7 st.seen).filter (pre p)):=by
    rw[List.filter_cons,if_neg (by rw[show pre p key=false from hpr];decide)]at hpf
    exact((List.Perm.append_left ks hpf).symm.trans hpm)
   refine aD<|aS<| ?_
   refine ak (fun w m=>m.bU 0 rfl (show _=jj SV r11 st.gs (dK st.seen) (dK (left.eraseIdx j)) (some (key,r.val))from congrArg (fun q=>jj SV r11 st.gs (dK st.seen) q (some (key,r.val))) (lr left j))) ?_
   refine gy (left.eraseIdx j) (some (key,r.val)) A1 k c1 ks ⟨rfl,rfl,rfl,rfl,rfl,trivial⟩ [1,0,0,0,0,0] rfl [] rfl (⟨hkn,by rw[List.length_eraseIdx,if_pos hlt];omega,hp2⟩) (by rw[List.length_eraseIdx,if_pos hlt];omega)
end Go.Proofs.YtmibdabdlgmafaaGreatDoor
end
section
set_option maxRecDepth 20000
namespace Go.Proofs.YtmibdabdlgmafaaGreatDoor
open Go.Eng Go.Hx
theorem yC{g:Nat}{st:cF}{d:RD}{kk:Nat}{p:List UInt8}(hD:DS st d kk)(hkk:kk≤99000):cf Tryz.prog 79 [.pointer (some ⟨g,0,none⟩),.string (strOf p)] [bn g st] [] (fun v_ X_ S_=>∃st1,v_=(.int .i64 (d.ca p))∧X_=[bn g st1]∧S_=[]∧(DS st1 (d.remove p) (kk+1))):=by
 exact cf.mono (A7 hD.ok (by omega)) (fun v X S h=>by
  obtain⟨st1,A,j,h1,h2,h3,hw⟩:=h
  exact⟨st1,by rw[hD.ca];exact h1,h2,h3,hD.remove hw⟩)
def gx(d:RD)(p:List UInt8):List (List UInt8):=(d.seen.map (·.1)).filter (pre p)
theorem fS.gx{fs:dz}{l:List FP}(h:fS fs l){q:List UInt8→Bool}{ks:List (List UInt8)}(hk:ks.Perm ((b7 fs).filter q)):wC ks=(l.map (·.1)).filter q:=by
 have h1:(wC ks).Perm ((l.map (·.1)).filter q):=(List.mergeSort_perm _ _).trans (hk.trans (h.keys.filter q))
 have h2:(wC ks).Pairwise (· ≤·):=by
  have:=List.pairwise_mergeSort (le:=fun x y:List UInt8=>decide (x≤y)) (fun a b c hab hbc=>by simpa using List.le_trans (by simpa using hab) (by simpa using hbc)) (fun a b=>by simpa using List.le_total a b) ks
  exact this.imp (fun hab=>by simpa using hab)
 have h3:((l.map (·.1)).filter q).Pairwise (· ≤·):=(h.ord.imp (fun hlt=>List.le_of_lt hlt)).filter q
 exact h1.eq_of_pairwise (fun a b _ _ hab hba=>List.le_antisymm hab hba) h2 h3
theorem CQ{g:Nat}{st:cF}{d:RD}{kk:Nat}{p:List UInt8}(hD:DS st d kk)(hkk:kk≤99000):cf Tryz.prog 86 [.pointer (some ⟨g,0,none⟩),.string (strOf p)] [bn g st] [] (fun v_ X_ S_=>∃v,v_=v∧X_=[bn g st,aG 9 1 v (gx d p).length (ss (gx d p))]∧S_=[]∧((gx d p).length≤kk)):=by
 have h1:st.seen.length≤kk:=hD.ok.seen
 have h2:d.seen.length≤kk:=hD.ug.seen
 have h3:(gx d p).length≤kk:=Nat.le_trans (List.length_filter_le _ _) (by rw[List.length_map];exact h2)
 exact cf.mono (Fx (p:=p) (by omega)) (fun v X S h=>by
  obtain⟨v1,n,ks,h1,h2,h3',h4,h5⟩:=h
  have e:=hD.mH.files.gx h5
  have hl:n=(gx d p).length:=by
   unfold gx
   rw[←e,h4]
   exact(List.mergeSort_perm _ _).length_eq.symm
  subst hl
  refine⟨v1,h1, ?_,h3',h3⟩
  rw[h2,e]
  rfl)
end Go.Proofs.YtmibdabdlgmafaaGreatDoor
end
section
namespace Go.Hx
open Go.Eng
end Go.Hx
end
section
namespace Go.Proofs.YtmibdabdlgmafaaGreatDoor
open Go.Eng Go.Hx
end Go.Proofs.YtmibdabdlgmafaaGreatDoor
end
section
namespace Go.Proofs.YtmibdabdlgmafaaGreatDoor
open Go.Eng Go.Hx
theorem nE(q:FP→Bool)(l:List FP):dm (l.filter q)≤dm l:=by
 induction l with
 |nil=>exact Nat.le_refl _
 |cons x r ih=>
  rw[List.filter_cons]
  have e:dm (x::r)=x.2.length+dm r:=by simp[dm]
  split
  ·have e2:dm (x::r.filter q)=x.2.length+dm (r.filter q):=by simp[dm]
   omega
  ·omega
theorem nZ{q:FP→Bool}{l:List FP}{x:FP}(hx:x∈l)(hq:q x=false):dm (l.filter q)+x.2.length≤dm l:=by
 induction l with
 |nil=>cases hx
 |cons y r ih=>
  rw[List.filter_cons]
  have e:dm (y::r)=y.2.length+dm r:=by simp[dm]
  rcases List.mem_cons.1 hx with rfl|hm
  ·rw[hq]
   have:=nE q r
   simp only[Bool.false_eq_true,if_false]
   omega
  ·have h1:=ih hm
   split
   ·have e2:dm (y::r.filter q)=y.2.length+dm (r.filter q):=by simp[dm]
    omega
   ·omega
theorem tk(l:List FP)(f:FP):dm (gJ l f)≤dm l+f.2.length:=by
 induction l with
 |nil=>simp[gJ,dm]
 |cons x r ih=>
  have e:dm (x::r)=x.2.length+dm r:=by simp[dm]
  rw[gJ]
  split
  ·have e2:dm (x::gJ r f)=x.2.length+dm (gJ r f):=by simp[dm]
   omega
  ·have e2:dm (f::(x::r).filter fun y=>decide (y.1≠f.1))=f.2.length+dm ((x::r).filter fun y=>decide (y.1≠f.1)):=by simp[dm]
   have:=nE (fun y=>decide (y.1≠f.1)) (x::r)
   omega
structure At(d:RD)(F:List UInt8→Option (List UInt8))(T:Nat)(room:Int):Prop where
 pw:d.pw=-1
 room:d.room=room
 look:∀p,lk d.seen p=F p
 lp:dm d.seen≤T
def rC(F:List UInt8→Option (List UInt8))(p:List UInt8)(v:Option (List UInt8)):List UInt8→Option (List UInt8):=fun q=>if q=p then v else F q
theorem At.ca{d:RD}{F:List UInt8→Option (List UInt8)}{T:Nat}{room:Int}(h:At d F T room)(p:List UInt8):d.ca p=if F p=none then 4 else 0:=by
 have h1:=h.look p
 rw[←fu]at h1
 rw[RD.ca,if_neg (by rw[h.pw];decide)]
 cases hq:d.seen[cr d.seen p]? with
 |none=>rw[hq]at h1;rw[if_pos rfl,if_pos (by rw[←h1];rfl)]
 |some x=>rw[hq]at h1;rw[if_neg (by simp),if_neg (by rw[←h1];simp)]
theorem At.ct{d:RD}{F:List UInt8→Option (List UInt8)}{T:Nat}{room:Int}(h:At d F T room)(p:List UInt8):d.ct p=(F p).getD []:=by
 have h1:=h.look p
 rw[←fu]at h1
 rw[RD.ct,if_neg (by rw[h.pw];decide),h1]
theorem At.bD{d:RD}{F:List UInt8→Option (List UInt8)}{T:Nat}{room:Int}(h:At d F T room){p l:List UInt8}(hp:fF p)(hr:(T:Int)+(l.length:Nat)≤room):d.bD p l=0:=by
 have h1:=h.lp
 have h2:=h.room
 rw[RD.bD,if_neg (fun h=>h hp),if_neg (by rw[h.pw];decide),if_neg (by omega)]
theorem At.write{d:RD}{F:List UInt8→Option (List UInt8)}{T:Nat}{room:Int}(h:At d F T room){p l:List UInt8}(hp:fF p)(hr:(T:Int)+(l.length:Nat)≤room):At (d.write p l) (rC F p (some l)) (T+l.length) room:=by
 have hs:(d.write p l).seen=gJ d.seen (p,l):=by
  rw[RD.write,if_pos (h.bD hp hr)]
  show dw d.seen 0 p [] l=_
  rw[dw,if_pos rfl,iY]
 refine⟨?_, ?_,fun q=> ?_, ?_⟩
 ·rw[RD.write,if_pos (h.bD hp hr)]
  show dG d.pw=-1
  rw[h.pw];rfl
 ·rw[RD.write,if_pos (h.bD hp hr)];exact h.room
 ·rw[hs,rK]
  unfold rC
  split
  ·rfl
  ·exact h.look q
 ·rw[hs]
  have:=tk d.seen (p,l)
  have:=h.lp
  have e:(p,l).2.length=l.length:=rfl
  omega
theorem At.cR{d:RD}{F:List UInt8→Option (List UInt8)}{T:Nat}{room:Int}(h:At d F T room):d.cR=0:=by rw[RD.cR,if_neg (by rw[h.pw];decide)]
theorem At.sync{d:RD}{F:List UInt8→Option (List UInt8)}{T:Nat}{room:Int}(h:At d F T room):At d.sync F T room:=by
 have e:d.sync={d with cp:=d.seen,waits:=[],pw:=dG d.pw}:=by rw[RD.sync,if_neg (by rw[h.pw];decide)]
 rw[e]
 exact⟨by show dG d.pw=-1;rw[h.pw];rfl,h.room,h.look,h.lp⟩
theorem At.bQ{d:RD}{F:List UInt8→Option (List UInt8)}{T:Nat}{room:Int}(h:At d F T room){a c x:List UInt8}(hc:fF c)(hx:F a=some x):d.bQ a c=0:=by
 rw[RD.bQ,if_neg (fun h=>h hc),h.ca,if_neg (by rw[hx];simp)]
theorem At.rename{d:RD}{F:List UInt8→Option (List UInt8)}{T:Nat}{room:Int}(h:At d F T room){a c x:List UInt8}(hc:fF c)(hx:F a=some x):At (d.rename a c) (rC (rC F a none) c (some x)) T room:=by
 have h1:=h.look a
 rw[←fu,hx]at h1
 obtain⟨y,hy,hyx⟩:∃y,d.seen[cr d.seen a]? =some y∧y.2=x:=by
  cases hq:d.seen[cr d.seen a]? with
  |none=>rw[hq]at h1;cases h1
  |some y=>rw[hq]at h1;exact⟨y,rfl,by simpa using h1⟩
 have hya:y.1=a:=by
  obtain⟨hi,he⟩:=List.getElem?_eq_some_iff.1 hy
  have:=List.findIdx_getElem (p:=fun x:FP=>decide (x.1=a)) (xs:=d.seen) (w:=hi)
  rw[←he]
  exact of_decide_eq_true this
 have hs:(d.rename a c).seen=gJ (cU d.seen a) (c,x):=by
  rw[RD.rename,if_pos (h.bQ hc hx)]
  show dw d.seen 1 a c []=_
  rw[dw,if_neg (by decide),hy]
  show(if(1:Int)=2 then _ else _)=_
  rw[if_neg (by decide),iY,hyx]
 refine⟨?_, ?_,fun q=> ?_, ?_⟩
 ·rw[RD.rename,if_pos (h.bQ hc hx)]
  show dG d.pw=-1
  rw[h.pw];rfl
 ·rw[RD.rename,if_pos (h.bQ hc hx)];exact h.room
 ·rw[hs,rK]
  unfold rC cU
  split
  ·rfl
  ·rw[gM]
   split
   ·rfl
   ·exact h.look q
 ·rw[hs]
  have h2:=tk (cU d.seen a) (c,x)
  have h3:dm (cU d.seen a)+y.2.length≤dm d.seen:=nZ (List.mem_of_getElem? hy) (by simp[hya])
  have:=h.lp
  have e:(c,x).2.length=x.length:=rfl
  rw[hyx]at h3
  omega
end Go.Proofs.YtmibdabdlgmafaaGreatDoor
end
section
namespace Go.Proofs.YtmibdabdlgmafaaGreatDoor
open Go.Eng Go.Hx
theorem sM:∀i:Nat,i<16→jL.getD i 0≠0:=by decide
theorem oI(l:List UInt8):¬(0:UInt8)∈bV l:=by
 intro h
 unfold bV at h
 obtain⟨x,hx,hc⟩:=List.mem_flatMap.1 h
 have hb:=x.toNat_lt
 simp only[py,List.mem_cons,List.not_mem_nil,or_false]at hc
 rcases hc with hc|hc
 ·exact sM _ (by omega) hc.symm
 ·exact sM _ (by omega) hc.symm
theorem yy{nm:List UInt8}(h:nm.length=32):fF (aF nm):=by
 refine⟨by simp[aF],by rw[dP h];decide,fun hz=> ?_⟩
 unfold aF at hz
 simp only[List.mem_append,List.mem_cons,List.not_mem_nil,or_false]at hz
 rcases hz with((hz|hz)|hz)|hz
 ·rcases hz with hz|hz <;> exact absurd hz (by decide)
 ·exact oI nm (List.mem_of_mem_take hz)
 ·exact absurd hz (by decide)
 ·exact oI nm hz
theorem zT{nm:List UInt8}(h:nm.length=32):fF (bJ nm):=by
 refine⟨by simp[bJ],by rw[iC h];decide,fun hz=> ?_⟩
 unfold bJ at hz
 simp only[List.mem_append,List.mem_cons,List.not_mem_nil,or_false]at hz
 rcases hz with hz|hz
 ·rcases hz with hz|hz <;> exact absurd hz (by decide)
 ·exact oI nm hz
theorem dZ(a b:List UInt8):aF a≠bJ b:=by
 intro h
 unfold aF bJ at h
 simp only[List.cons_append,List.nil_append,List.cons.injEq]at h
 exact absurd h.1 (by decide)
theorem uo{d:RD}(h:d.pw=-1):d.sync.cp=d.sync.seen∧d.sync.waits=[]:=by
 have e:d.sync={d with cp:=d.seen,waits:=[],pw:=dG d.pw}:=by rw[RD.sync,if_neg (by rw[h];decide)]
 rw[e]
 exact⟨rfl,rfl⟩
structure SD(d:RD)(F:List UInt8→Option (List UInt8))(T:Nat)(room:Int):Prop where
 at_:At d F T room
 same:d.cp=d.seen
 waits:d.waits=[]
theorem SD.new(room:Int):SD (RD.new room) (fun _=>none) 0 room:=⟨⟨rfl,rfl,fun p=>rfl,Nat.le_refl _⟩,rfl,rfl⟩
theorem uT{d:RD}{F:List UInt8→Option (List UInt8)}{T:Nat}{room:Int}(h:At d F T room){nm:List UInt8}(hF:F (aF nm)=none):d.eI nm=4:=by
 have e:d.ca (aF nm)=4:=by rw[h.ca,if_pos hF]
 rw[iX (by rw[e];decide),e]
theorem get_at{d:RD}{F:List UInt8→Option (List UInt8)}{T:Nat}{room:Int}(h:At d F T room){b:List UInt8}(hb:b.length≤4096)(hF:F (aF (ba b))=some (bx b)):d.eI (ba b)=0∧d.o6 (ba b)=b:=by
 have e:d.ca (aF (ba b))=0:=by rw[h.ca,if_neg (by rw[hF];simp)]
 have eB:d.ct (aF (ba b))=bx b:=by rw[h.ct,hF];rfl
 have eo:d.wh (ba b)=(b,0):=by unfold RD.wh;rw[eB];exact wg (by omega) (by omega)
 have e0:d.eI (ba b)=0:=rJ e (by rw[eo];simp)
 exact⟨e0,by rw[rl e0,eo]⟩
def nQ(F:List UInt8→Option (List UInt8))(b:List UInt8):List UInt8→Option (List UInt8):=rC (rC (rC F (bJ (ba b)) (some (bx b))) (bJ (ba b)) none) (aF (ba b)) (some (bx b))
theorem pB(F:List UInt8→Option (List UInt8))(b:List UInt8):nQ F b (aF (ba b))=some (bx b):=if_pos rfl
theorem SD.gQ{d:RD}{F:List UInt8→Option (List UInt8)}{T:Nat}{room:Int}(h:SD d F T room){b:List UInt8}(hr:(T:Int)+(bx b).length≤room):
  ∃d',d.gQ b=(d',0)∧SD d' (nQ F b) (T+(bx b).length) room:=by
 have hn:=zT (nm:=ba b) (bj b)
 have hp:=yy (nm:=ba b) (bj b)
 have h1:=h.at_.write (p:=bJ (ba b)) (l:=bx b) hn (by omega)
 have h2:=h1.sync
 have hx:rC F (bJ (ba b)) (some (bx b)) (bJ (ba b))=some (bx b):=if_pos rfl
 have h3:=h2.rename hp hx
 obtain⟨c1,c2⟩:=uo h3.pw
 refine⟨_, ?_,⟨h3.sync,c1,c2⟩⟩
 unfold RD.gQ
 rw[b6,if_neg (by show¬d.bD _ _≠0;rw[h.at_.bD hn (by omega)];decide)]
 rw[b6,if_neg (by show¬(d.write _ _).cR≠0;rw[h1.cR];decide)]
 rw[b6,if_neg (by show¬(d.write _ _).sync.bQ _ _≠0;rw[h2.bQ hp hx];decide)]
 rw[b6,if_neg (by show¬((d.write _ _).sync.rename _ _).cR≠0;rw[h3.cR];decide)]
 rfl
theorem SD.put{d:RD}{F:List UInt8→Option (List UInt8)}{T:Nat}{room:Int}(h:SD d F T room){b:List UInt8}(hb:b.length≤4096)(hF:F (aF (ba b))=none)(hr:(T:Int)+(bx b).length≤room):
  ∃d',d.put b=(d',ba b,0)∧SD d' (nQ F b) (T+(bx b).length) room:=by
 have e4:=uT h.at_ hF
 obtain⟨d',e,hd⟩:=h.gQ hr
 refine⟨d', ?_,hd⟩
 unfold RD.put
 rw[if_neg (by omega),if_neg (by rw[e4];decide),if_neg (by rw[e4];decide),e]
 rfl
end Go.Proofs.YtmibdabdlgmafaaGreatDoor
end
section
set_option maxRecDepth 20000
set_option maxHeartbeats 4000000
namespace Go.Proofs.YtmibdabdlgmafaaGreatDoor
open Go.Eng Go.Hx
def eT(c:UInt8):List UInt8→Nat
 | []=>0
 |x::r=>if 0<eT c r then eT c r+1 else if x=c then 1 else 0
theorem jk{c:UInt8}:∀{s:List UInt8} {k:Nat},k≤s.length→(0<k→s.getD (k-1) 0=c)→(∀j,k≤j→j<s.length→s.getD j 0≠c)→eT c s=k
 | [],k,hk,_,_=>by
  have:k=0:=by simpa using hk
  subst this;rfl
 |x::r,0,hk,h1,h2=>by
  have ih:=jk (c:=c) (s:=r) (k:=0) (Nat.zero_le _) (fun h=>absurd h (by decide)) (fun j _ hj=>by
   have:=h2 (j+1) (Nat.zero_le _) (by rw[List.length_cons];omega)
   simpa using this)
  have hx:x≠c:=by
   have:=h2 0 (Nat.le_refl _) (by simp)
   simpa using this
  unfold eT
  rw[ih,if_neg (by decide),if_neg hx]
 |x::r,1,hk,h1,h2=>by
  have ih:=jk (c:=c) (s:=r) (k:=0) (Nat.zero_le _) (fun h=>absurd h (by decide)) (fun j _ hj=>by
   have:=h2 (j+1) (by omega) (by rw[List.length_cons];omega)
   simpa using this)
  have hx:x=c:=by simpa using h1 (by decide)
  unfold eT
  rw[ih,if_neg (by decide),if_pos hx]
 |x::r,k+2,hk,h1,h2=>by
  have ih:=jk (c:=c) (s:=r) (k:=k+1) (by rw[List.length_cons]at hk;omega) (fun _=>by
   have:=h1 (by omega)
   simpa using this) (fun j hj hl=>by
   have:=h2 (j+1) (by omega) (by rw[List.length_cons];omega)
   simpa using this)
  unfold eT
  rw[ih,if_pos (by omega)]
theorem wR{s:List UInt8}{c:UInt8}(hs:s.length≤1000000000):cf Tryz.prog 167 [.string (strOf s),B8 c] [] [] (fun v_ X_ S_=>v_=(.int .i64 ((eT c s:Nat)-1))∧X_=[]∧S_=[]):=by
 have hsz:=cV s
 refine aO (N:=19) Tryz.func167 rfl rfl (by simp) fun b=> ?_
 refine ah<|aj<|hy (fun _=>ab rfl)<|ai<|ag<|ah<|ah<|aj<|hy (fun _=>aa rfl)<|hy (fun _=>cS rfl Tryz.underlying9)<|hy (fun _=>cg rfl rfl (bE (by omega) (by omega)))<|hy (fun _=>ab rfl)<|ai<|al (ρ' :=[(5,_),(4,_),(0,_),(1,_)]) ⟨rfl,rfl,rfl,rfl,trivial⟩<|ag<|aK<| ?_
 refine dD (fun k=>k) (fun k=>[(5,.int .i64 ((k:Nat)-1))]) (fun k=>[]) (fun k=>[]) (fun k=>k≤s.length∧∀j,k≤j→j<s.length→s.getD j 0≠c) s.length [(0,_),(1,_)] ⟨rfl,rfl,trivial⟩ [] rfl [] rfl (⟨Nat.le_refl _,fun j h1 h2=>absurd h2 (by omega)⟩) ⟨rfl,trivial⟩ (fun k ⟨hk,hno⟩=> ?_)
 refine ah<|ah<|aj<|hy (fun _=>aa rfl)<|hy (fun _=>jS rfl rfl)<|ai<|al (ρ' :=[(10,_),(5,_),(0,_),(1,_)]) ⟨rfl,rfl,rfl,rfl,trivial⟩<|ag<| ?_
 refine cC rfl (fun h=> ?_) (fun h=> ?_)
 ·have hil:k-1<s.length:=by omega
  refine aD<|ag<|ah<|aK<|ah<|aj<|hy (fun _=>aa rfl)<|hy (fun _=>aa rfl)<|hy (fun _=>fw rfl rfl Tryz.underlying9 (show((k-1:Nat):Int)=_ by omega) (kf hil))<|hy (fun _=>aa rfl)<|hy (fun _=>cx rfl rfl)<|ai<|al (ρ' :=[(17,_),(10,_),(5,_),(0,_),(1,_)]) ⟨rfl,rfl,rfl,rfl,rfl,trivial⟩<|ag<| ?_
  refine cC rfl (fun h0=> ?_) (fun h0=> ?_)
  ·have h00:s.getD (k-1) 0=c:=UInt8.toNat_inj.1 (by omega)
   rw[jk hk (fun _=>h00) hno]
   refine ah<|aj<|hy (fun _=>aa rfl)<|hy (fun _=>ab rfl)<|ai<|al (ρ' :=[(4,_),(17,_),(10,_),(5,_),(0,_),(1,_)]) ⟨rfl,rfl,rfl,rfl,rfl,rfl,trivial⟩<|ag<|aV<|aY<|ax<|ax<|aY<|ax<| ?_
   exact bh trivial rfl rfl [] rfl [] rfl ⟨rfl,rfl,rfl⟩
  ·have h00:s.getD (k-1) 0≠c:=fun e=>h0 (by rw[e])
   have hno2:∀j,k-1≤j→j<s.length→s.getD j 0≠c:=fun j h1 h2=>by
    rcases Nat.lt_or_ge j k with hlt|hge
    ·rw[show j=k-1 by omega];exact h00
    ·exact hno j hge h2
   refine aD<|aS<|ag<|aj<|hy (fun _=>aa rfl)<|hy (fun _=>yV (cg rfl rfl (bE (by omega) (by omega))) ((show Value.int .i64 _= .int .i64 (((k-1:Nat):Int)-1) by congr 1;omega)))<|hy (fun _=>ab rfl)<|ai<|al (ρ' :=[(5,_),(17,_),(10,_),(0,_),(1,_)]) ⟨rfl,rfl,rfl,rfl,rfl,trivial⟩<| ?_
   refine cM (k-1) ⟨rfl,rfl,rfl,trivial⟩ [] rfl [] rfl (⟨by omega,hno2⟩) (by omega)
 ·obtain rfl:k=0:=by omega
  rw[jk (Nat.zero_le _) (fun h=>absurd h (by decide)) hno]
  refine bL<|ao<|ao<|aC<|ag<|ah<|aj<|hy (fun _=>ab rfl)<|ai<|ag<|aV<| ?_
  exact bh trivial rfl rfl [] rfl [] rfl ⟨rfl,rfl,rfl⟩
theorem uE{s:List UInt8}(hs:s.length≤1000000000):cf Tryz.prog 93 [.string (strOf s),.string (strOf [47])] [] [] (fun v_ X_ S_=>v_=(.int .i64 ((eT 47 s:Nat)-1))∧X_=[]∧S_=[]):=by
 refine aO (N:=36) Tryz.func93 rfl rfl (by simp) fun b=> ?_
 refine ah<|aj<|hy (fun _=>ab rfl)<|ai<|ag<|ah<|aj<|hy (fun _=>aa rfl)<|hy (fun _=>cS rfl Tryz.underlying9)<|hy (fun _=>ab rfl)<|ai<|al (ρ' :=[(5,_),(4,_),(0,_),(1,_)]) ⟨rfl,rfl,rfl,rfl,trivial⟩<|ag<|ah<|aK<|ah<|aj<|hy (fun _=>aa rfl)<|hy (fun _=>cx rfl rfl)<|hy (fun _=>ab rfl)<|ai<|al (ρ' :=[(8,_),(5,_),(4,_),(0,_),(1,_)]) ⟨rfl,rfl,rfl,rfl,rfl,trivial⟩<|ag<| ?_
 refine dO rfl ((decide_eq_false (by decide))) ?_
 refine ah<|aj<|hy (fun _=>aa rfl)<|hy (fun _=>cx rfl rfl)<|hy (fun _=>ab rfl)<|ai<|al (ρ' :=[(13,_),(8,_),(5,_),(4,_),(0,_),(1,_)]) ⟨rfl,rfl,rfl,rfl,rfl,rfl,trivial⟩<|ag<| ?_
 refine gY rfl ((decide_eq_true (by decide))) ?_
 refine ah<|aj<|hy (fun _=>aa rfl)<|hy (fun _=>aa rfl)<|hy (fun _=>fw rfl rfl Tryz.underlying9 rfl (show(strOf [47]).data[0]? =some 47 from rfl))<| ?_
 refine hx (aq rfl Tryz.call167 (wR hs (c:=47)) [] rfl [] rfl ?_)
 rintro _ _ _ ⟨rfl,rfl,rfl⟩
 refine hy (fun _=>ab rfl)<|ai<|al (ρ' :=[(4,_),(13,_),(8,_),(5,_),(0,_),(1,_)]) ⟨rfl,rfl,rfl,rfl,rfl,rfl,trivial⟩<|ak (X' :=[]) (S' :=[]) (fun _ m=>m)<|ag<|aV<|aY<|ax<| ?_
 exact bh trivial rfl rfl [] rfl [] rfl ⟨rfl,rfl,rfl⟩
theorem wx(l:List UInt8):¬(47:UInt8)∈bV l:=by
 have hd:∀i:Nat,i<16→jL.getD i 0≠47:=by decide
 intro h
 unfold bV at h
 obtain⟨x,hx,hc⟩:=List.mem_flatMap.1 h
 have hb:=x.toNat_lt
 simp only[py,List.mem_cons,List.not_mem_nil,or_false]at hc
 rcases hc with hc|hc
 ·exact hd _ (by omega) hc.symm
 ·exact hd _ (by omega) hc.symm
theorem r8{nm:List UInt8}(h:nm.length=32):eT 47 (aF nm)=5:=by
 have h64:(bV nm).length=64:=by rw[dB,h]
 obtain⟨a,b,r,hr⟩:∃a b r,bV nm=a::b::r:=by
  match hq:bV nm with
  | []=>rw[hq]at h64;cases h64
  | [_]=>rw[hq]at h64;cases h64
  |a::b::r=>exact⟨a,b,r,rfl⟩
 have hp:aF nm=[99,47,a,b,47]++bV nm:=by unfold aF;rw[hr];rfl
 refine jk (by rw[dP h];decide) (fun _=>by rw[hp];rfl) (fun j h1 h2 e=> ?_)
 rw[hp]at e h2
 rw[List.getD_eq_getElem?_getD,List.getElem?_append_right (by exact h1)]at e
 have hj:j-5<(bV nm).length:=by simp at h2;omega
 have e2:(bV nm)[j-5]?.getD 0=47:=e
 rw[List.getElem?_eq_getElem hj]at e2
 exact wx nm (by rw[←show(bV nm)[j-5]=47 from e2];exact List.getElem_mem hj)
def ln(p q:List UInt8):Option (List UInt8):=if(cO q).2=0∧aF (cO q).1=p then some (cO q).1 else none
theorem ew{p q nm:List UInt8}(h:ln p q=some nm):nm.length=32∧p=aF nm:=by
 unfold ln at h
 split at h
 ·rename_i hq
  cases h
  exact⟨jT _,hq.2.symm⟩
 ·cases h
theorem oA{nm:List UInt8}(h:nm.length=32):ln (aF nm) (bV nm)=some nm:=by
 unfold ln
 rw[pT nm h,if_pos ⟨rfl,rfl⟩]
def gD(p:List UInt8):Option (List UInt8):=ln p (p.drop (eT 47 p))
def lW(p:List UInt8):Option (List UInt8):=if p.length=69 then ln p (p.drop 5)else none
theorem j7(p:List UInt8):gD p=lW p:=by
 have h1:∀{nm:List UInt8},nm.length=32→gD (aF nm)=some nm∧lW (aF nm)=some nm:=fun{nm} h=>by
  unfold gD lW
  rw[r8 h,ik h,dP h,if_pos rfl]
  exact⟨oA h,oA h⟩
 cases h:gD p with
 |some nm=>
  obtain⟨h2,rfl⟩:=ew h
  exact(h1 h2).2.symm
 |none=>
  cases h3:lW p with
  |none=>rfl
  |some nm=>
   have h4:ln p (p.drop 5)=some nm:=by
    unfold lW at h3
    split at h3
    ·exact h3
    ·cases h3
   obtain⟨h2,rfl⟩:=ew h4
   rw[(h1 h2).1]at h
   cases h
def bq(d:RD):List (List UInt8):=(d.seen.map (·.1)).filterMap lW
end Go.Proofs.YtmibdabdlgmafaaGreatDoor
end
section
set_option maxRecDepth 20000
set_option maxHeartbeats 4000000
namespace Go.Proofs.YtmibdabdlgmafaaGreatDoor
open Go.Eng Go.Hx
def xv:List UInt8:=[99,47]
theorem sa(c:UInt8):∀s:List UInt8,eT c s≤s.length
 | []=>Nat.le_refl _
 |x::r=>by
  have:=sa c r
  unfold eT
  split
  ·rw[List.length_cons];omega
  ·split <;> (rw[List.length_cons];omega)
theorem zi{p nm:List UInt8}(h:gD p=some nm):pre xv p=true:=by
 obtain⟨h1,rfl⟩:=ew h
 unfold pre
 exact decide_eq_true rfl
theorem rF(d:RD):(gx d xv).filterMap gD=bq d:=by
 unfold gx bq
 rw[show lW=gD from funext fun p=>(j7 p).symm]
 generalize d.seen.map (·.1)=l
 induction l with
 |nil=>rfl
 |cons p r ih=>
  rw[List.filter_cons]
  cases h:gD p with
  |some nm=>rw[if_pos (zi h),List.filterMap_cons,List.filterMap_cons,h,ih]
  |none=>
   rw[List.filterMap_cons,h]
   split
   ·rw[List.filterMap_cons,h];exact ih
   ·exact ih
theorem wi{ns:List (List UInt8)}{i:Nat}(h:i<ns.length):(ns.take (i+1)).filterMap gD=(ns.take i).filterMap gD++(gD (ns.getD i [])).toList:=by
 have h1:ns.take (i+1)=ns.take i++[ns.getD i []]:=by
  rw[List.take_add_one,List.getElem?_eq_getElem h]
  simp[List.getD,List.getElem?_eq_getElem h]
 rw[h1,List.filterMap_append]
 generalize ns.getD i []=x
 cases hq:gD x <;> simp[hq]
theorem uc{g:Nat}{st:cF}{d:RD}{kk:Nat}(hD:DS st d kk)(hkk:kk≤99000)(hnl:∀x∈d.seen,x.1.length≤1000000):cf Tryz.prog 20 [.pointer (some ⟨g,0,none⟩)] [bn g st] [] (fun v_ X_ S_=>∃v k,v_=v∧X_=[bn g st,aG 53 32 v k (dc (bq d))]∧S_=[]∧(k=(bq d).length)):=by
 have hcn:=rF d
 have hnl2:∀p∈gx d xv,p.length≤1000000:=fun p hp=>by
  obtain⟨x,hx,rfl⟩:=List.mem_map.1 (List.mem_filter.1 hp).1
  exact hnl x hx
 refine aO (N:=38) Tryz.func20 rfl rfl (by simp) fun b=> ?_
 refine ah<|aj<|hy (fun _=>ab rfl)<|ai<|ag<|ah<|aj<|hy (fun _=>ab rfl)<|ai<|ag<|ah<|ah<|aj<|hy (fun _=>aa rfl)<| ?_
 refine hx (aq rfl Tryz.call86 (CQ hD hkk (p:=xv)) [0] rfl [] rfl ?_)
 rintro _ _ _ ⟨v,rfl,rfl,rfl,hn⟩
 refine aB (fun m=>(m.own 1 rfl).slice) ?_
 rintro⟨A_x,c_x,rfl,hc_x⟩
 refine aB (fun m=>(m.ord 1 rfl).2.1) fun hA_x=> ?_
 generalize gx d xv=ns at hn hcn hnl2 hc_x hA_x ⊢
 refine hy (fun _=>aW rfl Tryz.underlying152)<|hy (fun _=>aa rfl)<|ai<|al (ρ' :=[(11,_),(10,_),(9,_),(3,_),(2,_),(0,_)]) ⟨rfl,rfl,rfl,rfl,rfl,rfl,trivial⟩<|ak (X' :=[_,_]) (S' :=[]) (fun _ m=>m)<|ag<|aK<| ?_
 refine bw (fun w m=>m.dy (r' :=aG 53 32 (.slice none 0 0) 0 []) (.refl _ _) (Own.nil _ _ _ _) (fun k hk=>hk.elim)) ?_
 refine lD (fun i k A1 c1=>ns.length-i) (fun i k A1 c1=>[(3,.slice A1 k c1),(11,.int .i64 (i:Nat))]) (fun i k A1 c1=>[aG 53 32 (.slice A1 k c1) k (dc ((ns.take i).filterMap gD))]) (fun i k A1 c1=>[]) (fun i k A1 c1=>i≤ns.length∧k=((ns.take i).filterMap gD).length∧k≤i) 0 0 none 0 [(10,_),(9,_),(2,_),(0,_)] ⟨rfl,rfl,rfl,rfl,trivial⟩ [0] rfl [] rfl (⟨Nat.zero_le _,rfl,Nat.le_refl _⟩) ⟨rfl,rfl,trivial⟩ (fun i k A1 c1 ⟨hin,hk,hki⟩=> ?_)
 refine ah<|aj<|hy (fun _=>bA rfl rfl)<|ai<|ag<|ah<| ?_
 refine cC rfl (fun hlt=> ?_) (fun hlt=> ?_)
 ·have hi2:i<ns.length:=by omega
  have hsn:=wi hi2
  have hpl:=hnl2 (ns.getD i []) (by rw[List.getD,List.getElem?_eq_getElem hi2];exact List.getElem_mem hi2)
  refine aD<|ag<|ah<|aK<|ah<|aj<|hy (fun _=>aM rfl rfl Tryz.underlying152 GD hA_x rfl (by omega))<|hy (fun m=>aw rfl lH ((m.ord 2 rfl).cell (yJ hi2)))<|hy (fun _=>ab rfl)<|ai<|al (ρ' :=[(5,_),(12,_),(3,_),(11,_),(10,_),(9,_),(2,_),(0,_)]) ⟨rfl,rfl,rfl,rfl,rfl,rfl,rfl,rfl,trivial⟩<|ag<|ah<|aj<|hy (fun _=>aa rfl)<|hy (fun _=>aa rfl)<| ?_
  generalize ns.getD i []=p at hsn hpl ⊢
  have hlp:=sa 47 p
  have hdl:=jT (p.drop (eT 47 p))
  have h32:(aQ (cO (p.drop (eT 47 p))).1).length=32:=by rw[ay,hdl]
  have hql:(p.drop (eT 47 p)).length≤1000000:=by rw[List.length_drop];omega
  have ho1:gD p=if(cO (p.drop (eT 47 p))).2=0∧aF (cO (p.drop (eT 47 p))).1=p then some (cO (p.drop (eT 47 p))).1 else none:=rfl
  refine hx (aq rfl Tryz.call93 (uE (by omega) (s:=p)) [] rfl [] rfl ?_)
  rintro _ _ _ ⟨rfl,rfl,rfl⟩
  refine hy (fun _=>aN rfl rfl (bE (by omega) (by omega)))<|hy (fun _=>wz rfl rfl Tryz.underlying9 (show((eT 47 p:Nat):Int)=_ by omega) hlp)<| ?_
  refine hx (aq rfl Tryz.call92 (zD hql (s:=(p.drop (eT 47 p)))) [] rfl [] rfl ?_)
  rintro _ _ _ ⟨rfl,rfl,rfl⟩
  refine hy (fun _=>aa rfl)<|hy (fun _=>au rfl rfl)<|hy (fun _=>au rfl rfl)<| ?_
  refine hx (aP dQ (fun g6=> ?_))
  refine cH (aI 0 rfl rfl rfl bp h32 aR rfl ?_)
  generalize hdo:cO (p.drop (eT 47 p))=dq at hdl h32 ho1 ⊢
  by_cases hE:dq.2=0
  ·refine hy (fun _=>ab rfl)<|ai<|al (ρ' :=[(7,_),(6,_),(5,_),(12,_),(3,_),(11,_),(10,_),(9,_),(2,_),(0,_)]) ⟨rfl,rfl,rfl,rfl,rfl,rfl,rfl,rfl,rfl,rfl,trivial⟩<|ak (X' :=[_,_,_,_]) (S' :=[]) (fun _ m=>m)<|ag<|ah<|aj<|hy (fun _=>aa rfl)<|hy (fun _=>yT (cx rfl rfl) ((decide_eq_true hE)))<|hy (fun _=>aa rfl)<|de (o:=_) rfl rfl rfl (fun m=>a7 rfl cy bp h32 ((m.aX 0 rfl).az))<| ?_
   refine EO (o:=_) rfl rfl rfl (aq rfl Tryz.call94 (rH hdl) [] rfl [] rfl ?_)
   rintro _ _ _ ⟨rfl,rfl,rfl⟩
   refine de (o:=_) rfl rfl rfl (fun _=>aa rfl)<|de (o:=_) rfl rfl rfl (fun _=>sO rfl rfl)<|hy (fun _=>bK rfl rfl)<|ai<|al (ρ' :=[(31,_),(7,_),(6,_),(5,_),(12,_),(3,_),(11,_),(10,_),(9,_),(2,_),(0,_)]) ⟨rfl,rfl,rfl,rfl,rfl,rfl,rfl,rfl,rfl,rfl,rfl,trivial⟩<|ak (X' :=[_,_,_,_]) (S' :=[]) (fun _ m=>m)<|ag<| ?_
   refine Bj rfl (fun hp=> ?_) (fun hp=> ?_)
   ·have hp:=cz.1 (of_decide_eq_true hp)
    rw[ho1,if_pos ⟨hE,hp⟩]at hsn
    have hsn:(ns.take (i+1)).filterMap gD=(ns.take i).filterMap gD++[dq.1]:=hsn
    refine aj<|hy (fun _=>aa rfl)<|hy (fun m=>a7 rfl cy bp h32 ((m.aX 0 rfl).az))<| ?_
    refine hx (b4 Tryz.underlying33 dQ rfl rfl rfl (by simpa[Value.cells,B8]using h32) (by decide) (by decide) (fun g34=> ?_))
    have hA_b34:0<1→(some (⟨g34,0,none⟩:Addr))≠none:=fun _ h=>by cases h
    refine aU (fun w m=>m.bU 0 rfl (show _=aG 53 32 (.slice (some ⟨g34,0,none⟩) 1 1) 1 (dc [dq.1])from rfl)) ?_
    refine hx (bI 2 rfl rfl rfl Tryz.underlying33 Tryz.underlying33 (by exact .inl rfl) dQ rfl (fun m=>Src.bZ (m.ord 0 rfl)) lq (by unfold maxLen;omega) (by omega) (fun u=> ?_))
    refine aB (fun m=>(m.own 0 rfl).slice) ?_
    rintro⟨A_o,c_o,rfl,hc_o⟩
    refine aB (fun m=>(m.ord 0 rfl).2.1) fun hA_o=> ?_
    refine aU (fun w m=>m.bU 0 rfl (show _=aG 53 32 (.slice A_o (k+1) c_o) (k+1) (dc ((ns.take (i+1)).filterMap gD))from congrArg (aG _ _ _ _) (by rw[hsn,fR]))) ?_
    refine hy (fun _=>ab rfl)<|ai<|al (ρ' :=[(3,_),(31,_),(7,_),(6,_),(5,_),(12,_),(11,_),(10,_),(9,_),(2,_),(0,_)]) ⟨rfl,rfl,rfl,rfl,rfl,rfl,rfl,rfl,rfl,rfl,rfl,trivial⟩<|ak (X' :=[_,_,_,_,_]) (S' :=[]) (fun _ m=>m)<|aS<|ag<|aj<|hy (fun _=>aN rfl rfl (bE (by omega) (by omega)))<|hy (fun _=>aa rfl)<|ai<|al (ρ' :=[(11,_),(3,_),(31,_),(7,_),(6,_),(5,_),(12,_),(10,_),(9,_),(2,_),(0,_)]) ⟨rfl,rfl,rfl,rfl,rfl,rfl,rfl,rfl,rfl,rfl,rfl,trivial⟩<| ?_
    refine iB (i+1) (k+1) A_o c_o ⟨rfl,rfl,rfl,rfl,rfl,rfl,trivial⟩ [0,2,2] rfl [] rfl (⟨by omega,by rw[hsn,hk,List.length_append];rfl,by omega⟩) (by omega)
   ·have hp:=of_decide_eq_false hp
    rw[ho1,if_neg (fun h=>hp (by rw[h.2]))]at hsn
    have hsn:(ns.take (i+1)).filterMap gD=(ns.take i).filterMap gD:=hsn.trans (List.append_nil _)
    refine bw (fun w m=>m.bU 1 rfl (show _=aG 53 32 (.slice A1 k c1) k (dc ((ns.take (i+1)).filterMap gD))from by rw[hsn])) ?_
    refine aD<|aS<|ag<|aj<|hy (fun _=>aN rfl rfl (bE (by omega) (by omega)))<|hy (fun _=>aa rfl)<|ai<|al (ρ' :=[(11,_),(31,_),(7,_),(6,_),(5,_),(12,_),(3,_),(10,_),(9,_),(2,_),(0,_)]) ⟨rfl,rfl,rfl,rfl,rfl,rfl,rfl,rfl,rfl,rfl,rfl,trivial⟩<| ?_
    refine iB (i+1) k A1 c1 ⟨rfl,rfl,rfl,rfl,rfl,rfl,trivial⟩ [0,1,1] rfl [] rfl (⟨by omega,by rw[hsn,hk],by omega⟩) (by omega)
  ·refine hy (fun _=>ab rfl)<|ai<|al (ρ' :=[(7,_),(6,_),(5,_),(12,_),(3,_),(11,_),(10,_),(9,_),(2,_),(0,_)]) ⟨rfl,rfl,rfl,rfl,rfl,rfl,rfl,rfl,rfl,rfl,trivial⟩<|ag<|ah<|aj<|hy (fun _=>aa rfl)<|hy (fun _=>yF (cx rfl rfl) ((decide_eq_false hE)))<|hy (fun _=>aa rfl)<|bu rfl rfl rfl (by decide)<|bu rfl rfl rfl (by decide)<|bu rfl rfl rfl (by decide)<|bu rfl rfl rfl (by decide)<|hy (fun _=>bN rfl rfl)<|ai<|al (ρ' :=[(31,_),(7,_),(6,_),(5,_),(12,_),(3,_),(11,_),(10,_),(9,_),(2,_),(0,_)]) ⟨rfl,rfl,rfl,rfl,rfl,rfl,rfl,rfl,rfl,rfl,rfl,trivial⟩<|ag<| ?_
   refine dO rfl (rfl) ?_
   rw[ho1,if_neg (fun h=>hE h.1)]at hsn
   have hsn:(ns.take (i+1)).filterMap gD=(ns.take i).filterMap gD:=hsn.trans (List.append_nil _)
   refine bw (fun w m=>m.bU 1 rfl (show _=aG 53 32 (.slice A1 k c1) k (dc ((ns.take (i+1)).filterMap gD))from by rw[hsn])) ?_
   refine aD<|aS<|ag<|aj<|hy (fun _=>aN rfl rfl (bE (by omega) (by omega)))<|hy (fun _=>aa rfl)<|ai<|al (ρ' :=[(11,_),(31,_),(7,_),(6,_),(5,_),(12,_),(3,_),(10,_),(9,_),(2,_),(0,_)]) ⟨rfl,rfl,rfl,rfl,rfl,rfl,rfl,rfl,rfl,rfl,rfl,trivial⟩<| ?_
   refine iB (i+1) k A1 c1 ⟨rfl,rfl,rfl,rfl,rfl,rfl,trivial⟩ [0,1,1] rfl [] rfl (⟨by omega,by rw[hsn,hk],by omega⟩) (by omega)
 ·obtain rfl:i=ns.length:=by omega
  rw[List.take_length,hcn]at hk ⊢
  refine bL<|ao<|ao<|aC<|ag<|ah<|aj<|hy (fun _=>aa rfl)<|hy (fun _=>ab rfl)<|ai<|al (ρ' :=[(2,_),(12,_),(3,_),(11,_),(10,_),(9,_),(0,_)]) ⟨rfl,rfl,rfl,rfl,rfl,rfl,rfl,trivial⟩<|ag<|aV<| ?_
  exact bh trivial rfl rfl [1,0] rfl [] rfl ⟨_,_,rfl,rfl,rfl,hk⟩
end Go.Proofs.YtmibdabdlgmafaaGreatDoor
end
section
namespace Go.Eng
open Go.RowKit
section
variable{P:Program}{fn:Func}{R:Value→List bg→List bg→Prop}{N:Nat}{ρ:Env}{b:cw}{X X' Xz S S' :List bg}{e:Exit}
theorem eV{t t2 t' sz sz2:Nat}{ty ty2:TypeId}{p p2:Addr}{cs cs2:List Value}{v' :Value}(he:Leaves e)(hr:fn.results= #[.cell t ty,.cell t2 ty2,.tmp t'])(hv:get ρ t=some (.pointer (some p)))(hv2:get ρ t2=some (.pointer (some p2)))(hv' :get ρ t' =some v')(ha:dp P ty=some true)(hs:fo P ty=some sz)(hl:cs.length=sz)
  (hc:∀{w},Mem b X S w→∀j u,cs[j]? =some u→w.cell? (p.add j)=some u) (ha2:dp P ty2=some true) (hs2:fo P ty2=some sz2) (hl2:cs2.length=sz2)
  (hc2:∀{w},Mem b X S w→∀j u,cs2[j]? =some u→w.cell? (p2.add j)=some u) (is:List Nat) (hX:bR is X=some (X',Xz)) (js:List Nat) (hS:dJ js S=some S') (hR:R (.tuple #[.agg cs.toArray,.agg cs2.toArray,v']) X' S'):HQ (bodyPost P fn (RB b R)) N [] e ρ b X S:=
 fun w m=>gU he (fun a hA=>by have h1:=hA.getD hv;have h2:=hA.getD hv2;have h3:=hA.getD hv';simp at h1 h2 h3;simp[results,hr,h1,h2,h3,asAddr,kO ha hs hl (hc m),kO ha2 hs2 hl2 (hc2 m)]) ⟨_,_,_,rfl,hR,m.out is hX js hS⟩
end
end Go.Eng
end
