/- Part. -/
import Derived.Test.YtmibdabdlgmafaaGreatDoorSWP3
import Derived.OrdersIn
import Derived.RangeFuncNested
import Derived.RangeFuncLeaves
import Derived.RangeFuncCalls
import Derived.RangeFuncBox
import Derived.Shelf.Abstract
import Derived.WalkKit
import Derived.OwnWalkIn
import Derived.TacticsInMore
import Derived.LoopNIn
import Derived.LoopIn
import Derived.ScopeJumps
import Derived.Shelf.Sort.Plain
import Derived.Test.YtmibdabdlgmafaaGreatDoorProg
import Derived.Sort.OwnSorted
set_option linter.all false
section
set_option maxRecDepth 20000
set_option maxHeartbeats 2000000
namespace Go.Proofs.YtmibdabdlgmafaaGreatDoor
open Go.Eng Go.Hx
theorem Df{A:Option Addr}{n c i k:Nat}{l:List UInt8}(hn:n≤1000000000)(hl:l.length=n)(hi:i≤n)(hk:k≤i):ck Tryz.prog 272 [.slice A n c,.int .i64 (i:Nat),.int .i64 (k:Nat)] [] [dr 1 A n (aV l)] (fun v_ X_ S_=>v_=(.int .i64 (l9 l i k:Nat))∧X_=[]∧S_=[]):=by
 refine aP (N:=36) Tryz.func272 rfl rfl (by simp) fun b=> ?_
 refine aY (fun m=>gY (m.rd 0 rfl)) ?_
 rintro⟨hl_r,hA_r⟩
 refine ah<|aj<|hy (fun _=>ab rfl)<|ai<|ag<|ah<|aj<|hy (fun _=>ab rfl)<|ai<|ag<|ah<|aI<| ?_
 refine dx (fun m=>131-m) (fun m=>[(7,.int .i64 (m:Nat))]) (fun m=>[]) (fun m=>[]) (fun m=>m≤131∧i+m≤n∧lR l i k (131-m) m=l9 l i k) 0 [(6,_),(0,_),(1,_),(2,_)] ⟨rfl,rfl,rfl,rfl,trivial⟩ [] rfl [] rfl (⟨by decide,hi,rfl⟩) ⟨rfl,trivial⟩ (fun m ⟨hm,him,hL⟩=> ?_)
 refine ah<|ah<|c5 [] [(0,some 0),(1,some 0),(2,some 0),(3,some 0),(4,some 0),(5,some 0),(6,some 0),(7,some 0),(8,some 0),(9,some 0),(10,some 0),(11,some 0),(12,some 0),(13,some 0),(14,some 0),(15,some 0),(16,some 0),(17,some 0),(18,some 0),(19,some 0),(20,some 0),(21,some 0),(22,some 0),(23,some 0),(24,some 0)] (by kernel_rfl) (by kernel_rfl) rfl 99<|an (aa rfl)<|an (bq rfl rfl)<|an (aa rfl)<| ?_
 refine hZ 10 rfl (fun h1=> ?_) (fun h1=> ?_)
 ·refine bj (o:=_) rfl rfl rfl (aa rfl)<|bj (o:=_) rfl rfl rfl (aa rfl)<|bj (o:=_) rfl rfl rfl (aM rfl rfl (bG (by omega) (by omega)))<|bj (o:=_) rfl rfl rfl (aa rfl)<|bj (o:=_) rfl rfl rfl (aS rfl Tryz.underlying27)<|bj (o:=_) rfl rfl rfl (bq rfl rfl)<|an (bM rfl rfl)<|an (aa rfl)<| ?_
  refine hZ 18 rfl (fun h2=> ?_) (fun h2=> ?_)
  ·refine bj (o:=_) rfl rfl rfl (aa rfl)<|bj (o:=_) rfl rfl rfl (aa rfl)<|bj (o:=_) rfl rfl rfl (aa rfl)<|bj (o:=_) rfl rfl rfl (aM rfl rfl (bG (by omega) (by omega)))<|bj (o:=_) rfl rfl rfl (aT rfl rfl Tryz.underlying27 ea hA_r (show((i+m:Nat):Int)=_ by omega) (by omega))<|iS (o:=_) rfl rfl rfl (fun m=>ay rfl iX ((m.rd 0 rfl).cell (bL (by omega))))<|bj (o:=_) rfl rfl rfl (aa rfl)<|bj (o:=_) rfl rfl rfl (aa rfl)<|bj (o:=_) rfl rfl rfl (aa rfl)<|bj (o:=_) rfl rfl rfl (aM rfl rfl (bG (by omega) (by omega)))<|bj (o:=_) rfl rfl rfl (aT rfl rfl Tryz.underlying27 ea hA_r (show((k+m:Nat):Int)=_ by omega) (by omega))<|iS (o:=_) rfl rfl rfl (fun m=>ay rfl iX ((m.rd 0 rfl).cell (bL (by omega))))<|bj (o:=_) rfl rfl rfl (cJ rfl rfl)<|an (bM rfl rfl)<|bD<|al (ρ' :=[(32,_),(7,_),(6,_),(0,_),(1,_),(2,_)]) ⟨rfl,rfl,rfl,rfl,rfl,rfl,trivial⟩<|ag<| ?_
   refine cD rfl (fun h3=> ?_) (fun h3=> ?_)
   ·have e3:l.getD (i+m) 0=l.getD (k+m) 0:=UInt8.toNat_inj.1 (by omega)
    rw[iu (by omega) ⟨by omega,e3⟩]at hL
    refine aD<|ag<|aI<|aj<|hy (fun _=>aa rfl)<|hy (fun _=>aM rfl rfl (bG (by omega) (by omega)))<|hy (fun _=>ab rfl)<|ai<|al (ρ' :=[(7,_),(32,_),(6,_),(0,_),(1,_),(2,_)]) ⟨rfl,rfl,rfl,rfl,rfl,rfl,trivial⟩<|aQ<| ?_
    refine cR (m+1) ⟨rfl,rfl,rfl,rfl,rfl,trivial⟩ [] rfl [0] rfl (⟨by omega,by omega,by rw[←hL];rfl⟩) (by omega)
   ·rw[lJ (fun q=>h3 (by rw[q.2]))]at hL
    rw[←hL]
    refine bJ<|ao<|ao<|aB<|ag<|ah<|aj<|hy (fun _=>aa rfl)<|hy (fun _=>ab rfl)<|ai<|al (ρ' :=[(6,_),(32,_),(7,_),(0,_),(1,_),(2,_)]) ⟨rfl,rfl,rfl,rfl,rfl,rfl,trivial⟩<|ag<|aX<| ?_
    exact bg trivial rfl rfl [] rfl [] rfl ⟨rfl,rfl,rfl⟩
  ·rw[lJ (fun q=>h2 (by omega))]at hL
   rw[←hL]
   refine aR rfl rfl rfl (by decide)<|aR rfl rfl rfl (by decide)<|aR rfl rfl rfl (by decide)<|aR rfl rfl rfl (by decide)<|aR rfl rfl rfl (by decide)<|aR rfl rfl rfl (by decide)<|aR rfl rfl rfl (by decide)<|aR rfl rfl rfl (by decide)<|aR rfl rfl rfl (by decide)<|aR rfl rfl rfl (by decide)<|aR rfl rfl rfl (by decide)<|aR rfl rfl rfl (by decide)<|aR rfl rfl rfl (by decide)<|an (bC rfl rfl)<|bD<|al (ρ' :=[(32,_),(7,_),(6,_),(0,_),(1,_),(2,_)]) ⟨rfl,rfl,rfl,rfl,rfl,rfl,trivial⟩<|ag<| ?_
   refine dB rfl (rfl) ?_
   refine bJ<|ao<|ao<|aB<|ag<|ah<|aj<|hy (fun _=>aa rfl)<|hy (fun _=>ab rfl)<|ai<|al (ρ' :=[(6,_),(32,_),(7,_),(0,_),(1,_),(2,_)]) ⟨rfl,rfl,rfl,rfl,rfl,rfl,trivial⟩<|ag<|aX<| ?_
   exact bg trivial rfl rfl [] rfl [] rfl ⟨rfl,rfl,rfl⟩
 ·obtain rfl:m=131:=by omega
  have hL:131=l9 l i k:=hL
  rw[←hL]
  refine aR rfl rfl rfl (by decide)<|aR rfl rfl rfl (by decide)<|aR rfl rfl rfl (by decide)<|aR rfl rfl rfl (by decide)<|aR rfl rfl rfl (by decide)<|aR rfl rfl rfl (by decide)<|an (bC rfl rfl)<|an (aa rfl)<| ?_
  refine aR rfl rfl rfl (by decide)<|aR rfl rfl rfl (by decide)<|aR rfl rfl rfl (by decide)<|aR rfl rfl rfl (by decide)<|aR rfl rfl rfl (by decide)<|aR rfl rfl rfl (by decide)<|aR rfl rfl rfl (by decide)<|aR rfl rfl rfl (by decide)<|aR rfl rfl rfl (by decide)<|aR rfl rfl rfl (by decide)<|aR rfl rfl rfl (by decide)<|aR rfl rfl rfl (by decide)<|aR rfl rfl rfl (by decide)<|an (bC rfl rfl)<|bD<|al (ρ' :=[(32,_),(7,_),(6,_),(0,_),(1,_),(2,_)]) ⟨rfl,rfl,rfl,rfl,rfl,rfl,trivial⟩<|ag<| ?_
  refine dB rfl (rfl) ?_
  refine bJ<|ao<|ao<|aB<|ag<|ah<|aj<|hy (fun _=>aa rfl)<|hy (fun _=>ab rfl)<|ai<|al (ρ' :=[(6,_),(32,_),(7,_),(0,_),(1,_),(2,_)]) ⟨rfl,rfl,rfl,rfl,rfl,rfl,trivial⟩<|ag<|aX<| ?_
  exact bg trivial rfl rfl [] rfl [] rfl ⟨rfl,rfl,rfl⟩
structure k9 where
 A:Option Addr
 c:Nat
 l:List Nat
def k9.val(r:k9):Value:=.slice r.A r.l.length r.c
def CI(l:List Nat):List Value:=l.map fun n=>Value.int .i64 (n:Nat)
theorem w0{l:List Nat}:∀u∈CI l,u.oneCell' =true:=by
 intro u hu
 obtain⟨n,_,rfl⟩:=List.mem_map.1 hu
 rfl
def k9.res(r:k9):bn:=aG 3 1 (.slice r.A r.l.length r.c) r.l.length (CI r.l)
abbrev uY:=List (Bn 4×k9)
def jN(es:uY):List (Bn 4×Value):=es.map fun x=>(x.1,x.2.val)
def fW(es:uY):List bn:=es.map fun x=>x.2.res
abbrev nM(g gm:Nat)(A:Option Addr)(n c m:Nat)(es:uY):bn:=fJ [aL g 359 [.slice A n c,.map (some gm),.int .i64 (m:Nat)],dC (KN (n:=4)) gm (jN es),fJ (fW es)]
def yw(l:List UInt8)(m:Nat)(es:uY):Prop:=∀k:Bn 4,((cm es k).map k9.l).getD []=kR l m k.1
theorem lC(k:Bn 4):∀es:uY,cm (jN es) k=(cm es k).map k9.val
 | []=>rfl
 |(q,r)::t=>by
  have ih:=lC k t
  unfold jN at ih ⊢
  simp only[List.map_cons,cm]
  split
  ·rfl
  ·exact ih
theorem nJ(k:Bn 4)(r:k9):∀es:uY,c9 (jN es) k r.val=jN (c9 es k r)
 | []=>rfl
 |(q,x)::t=>by
  have ih:=nJ k r t
  unfold jN at ih ⊢
  simp only[List.map_cons,c9]
  split
  ·rfl
  ·rw[ih];rfl
theorem pG{k:Bn 4}(r:k9):∀{es:uY},cm es k=none→fW (c9 es k r)=fW es++[r.res]
 | [],_=>rfl
 |(q,x)::t,h=>by
  simp only[cm]at h
  split at h
  ·cases h
  ·rename_i hq
   have ih:=pG r h
   unfold fW at ih ⊢
   simp only[c9,if_neg hq,List.map_cons,ih,List.cons_append]
theorem kJ{k:Bn 4}:∀{es:uY} {x:k9},cm es k=some x→∃i,(fW es)[i]? =some x.res∧∀r:k9,fW (c9 es k r)=(fW es).set i r.res
 | [],_,h=>by cases h
 |(q,y)::t,x,h=>by
  simp only[cm]at h
  split at h
  ·rename_i hq
   cases h
   exact⟨0,rfl,fun r=>by simp[fW,c9,hq]⟩
  ·rename_i hq
   obtain⟨i,h1,h2⟩:=kJ h
   refine⟨i+1,by simpa[fW]using h1,fun r=> ?_⟩
   have h2:=h2 r
   unfold fW at h2 ⊢
   simp only[c9,if_neg hq,List.map_cons,h2,List.set_cons_succ]
theorem set_perm{α:Type}:∀(l:List α) (i:Nat) (x:α),i<l.length→(l.set i x).Perm (x::l.eraseIdx i)
 | [],i,x,h=>by simp at h
 |a::t,0,x,h=>by simp
 |a::t,i+1,x,h=>by
  have:=set_perm t i x (by simpa using h)
  simp only[List.set_cons_succ,List.eraseIdx_cons_succ]
  exact(this.cons a).trans (List.Perm.swap ..)
theorem wS{l:List UInt8}{m:Nat}{es:uY}{A:Option Addr}{c:Nat}(h:yw l m es)(hm:m+4≤l.length):yw l (m+1) (c9 es ⟨eE l m,bN hm⟩ ⟨A,c,kR l m (eE l m)++[m]⟩):=by
 intro k
 rw[rJ,xF]
 by_cases hk:eE l m=k.1
 ·rw[if_pos (Subtype.ext hk),if_pos hk,←hk];rfl
 ·rw[if_neg (fun e=>hk (congrArg Subtype.val e)),if_neg hk,List.append_nil]
  exact h k
theorem Cl(l:List UInt8):yw l 0 []:=fun k=>rfl
theorem uM{es:uY}{l:List UInt8}{m:Nat}{k:Bn 4}{r:k9}(h:yw l m es)(hr:cm es k=some r):r.l=kR l m k.1:=by
 have:=h k
 rw[hr]at this
 exact this
theorem rC{es:uY}{l:List UInt8}{m:Nat}{k:Bn 4}(h:yw l m es)(hr:cm es k=none):kR l m k.1=[]:=by
 have:=h k
 rw[hr]at this
 exact this.symm
theorem GJ{g gm:Nat}{A:Option Addr}{n c p i:Nat}{l:List UInt8}{es:uY}(hc:n≤c)(hn:n≤1000000000)(hl:l.length=n)(hpi:p≤i)(hi:i+4≤n)(hF:yw l p es):ck Tryz.prog 270 [.pointer (some ⟨g,0,none⟩),.int .i64 (i:Nat)] [nM g gm A n c p es] [dr 1 A n (aV l)] (fun v_ X_ S_=>∃es1,v_=(.tuple #[])∧X_=[nM g gm A n c i es1]∧S_=[]∧(yw l i es1)):=by
 refine aP (N:=61) Tryz.func270 rfl rfl (by simp) fun b=> ?_
 refine aY (fun m=>gY (m.rd 0 rfl)) ?_
 rintro⟨hl_r,hA_r⟩
 refine bx (fun w m=>(m.perm (au [0] _ [_] _ rfl)).unpack) ?_
 refine aI<| ?_
 refine uZ (fun p es=>i-p) (fun p es=>[]) (fun p es=>[aL g 359 [.slice A n c,.map (some gm),.int .i64 (p:Nat)],dC (KN (n:=4)) gm (jN es),fJ (fW es)]) (fun p es=>[]) (fun p es=>p≤i∧yw l p es) p es [(0,_),(1,_)] ⟨rfl,rfl,trivial⟩ [0,0,0] rfl [] rfl (⟨hpi,hF⟩) trivial (fun p es ⟨hpi,hF⟩=> ?_)
 refine ah<|ah<|c5 [] [(0,some 0),(1,some 0),(2,some 0),(3,some 0),(4,some 0),(5,some 0),(6,some 0),(7,some 0),(8,some 0),(9,some 0),(10,some 0),(11,some 0),(12,some 0),(13,some 0),(14,some 0),(15,some 0),(16,some 0),(17,some 0),(18,some 0)] (by kernel_rfl) (by kernel_rfl) rfl 99<|an (aa rfl)<|an (bd rfl)<|an (aK rfl ij (by decide))<|cr (fun m=>ay rfl fS (aE (m.a6 0 rfl) rfl))<|an (aa rfl)<|an (bq rfl rfl)<|an (aa rfl)<| ?_
 refine hZ 11 rfl (fun h1=> ?_) (fun h1=> ?_)
 ·refine bj (o:=_) rfl rfl rfl (aa rfl)<|bj (o:=_) rfl rfl rfl (bd rfl)<|bj (o:=_) rfl rfl rfl (aK rfl ij (by decide))<|iS (o:=_) rfl rfl rfl (fun m=>ay rfl fS (aE (m.a6 0 rfl) rfl))<|bj (o:=_) rfl rfl rfl (aM rfl rfl (bG (by omega) (by omega)))<|bj (o:=_) rfl rfl rfl (aa rfl)<|bj (o:=_) rfl rfl rfl (bd rfl)<|bj (o:=_) rfl rfl rfl (aK rfl j9 (by decide))<|iS (o:=_) rfl rfl rfl (fun m=>ay rfl ek (aE (m.a6 0 rfl) rfl))<|bj (o:=_) rfl rfl rfl (aS rfl Tryz.underlying27)<|bj (o:=_) rfl rfl rfl (oD rfl rfl)<|an (bM rfl rfl)<|bD<|al (ρ' :=[(23,_),(0,_),(1,_)]) ⟨rfl,rfl,rfl,trivial⟩<|ag<| ?_
  refine ia rfl ((decide_eq_true (by omega))) ?_
  refine aY (fun m=>(m.rd 0 rfl).some (by omega)) fun h_=> ?_
  obtain⟨a,rfl⟩:∃a_,A=some a_:=⟨_,h_⟩
  clear h_
  refine aD<|ag<|ah<|aI<|ah<|c5 [16,17] [(0,some 1),(1,some 1),(2,some 1),(3,some 1),(4,some 1),(5,some 1),(6,some 1),(7,some 1),(8,some 1),(9,some 1),(10,some 1),(11,some 1),(12,some 1),(13,some 1),(14,some 1),(15,some 1),(16,none),(17,none)] (by kernel_rfl) (by kernel_rfl) rfl 1<|an (aa rfl)<|an (bd rfl)<|an (aK rfl j9 (by decide))<|cr (fun m=>ay rfl ek (aE (m.a6 0 rfl) rfl))<|an (aa rfl)<|an (bd rfl)<|an (aK rfl ij (by decide))<|cr (fun m=>ay rfl fS (aE (m.a6 0 rfl) rfl))<|an (aa rfl)<|an (bd rfl)<|an (aK rfl ij (by decide))<|cr (fun m=>ay rfl fS (aE (m.a6 0 rfl) rfl))<|an (aM rfl rfl (bG (by omega) (by omega)))<|an (yV (eS rfl rfl rfl Tryz.underlying27 ea rfl (show((p+4:Nat):Int)=_ by omega) (by omega) (by omega)) ((show Value.slice (if c=p then some a else(some a).map (·.add (p*1))) (p+4-p) (c-p)= .slice (some (a.add p)) 4 (c-p) by rw[if_neg (by omega),Nat.mul_one,Nat.add_sub_cancel_left];rfl)))<|an (o3 rfl Tryz.underlying364 (by omega))<|cr (fun m=>yV (aU rfl vR uF (by rw[az];exact bN (by omega)) (Rd.part (m.rd 0 rfl))) ((rfl:Value.agg _= .agg (aV (eE l p)).toArray)))<| ?_
  refine ew (aN Fv (fun g4=>⟨(fun _=>wk [1,1,1] [0] rfl rfl), ?_⟩))
  refine kE (aJ 0 rfl rfl rfl uF (by rw[az];exact bN (by omega)) aZ rfl ⟨(fun h=>absurd h (by decide)), ?_⟩)
  refine bD<|al (ρ' :=[(4,_),(23,_),(0,_),(1,_)]) ⟨rfl,rfl,rfl,rfl,trivial⟩<|ak (X' :=[_,_,_,_]) (S' :=[_]) (fun _ m=>m)<|ag<| ?_
  refine c5 [9,10,12,14] [(0,some 1),(1,some 1),(2,some 1),(3,some 1),(4,some 1),(5,some 0),(6,some 0),(7,some 0),(8,some 0),(9,none),(10,none),(11,some 2),(13,some 3),(12,none),(14,none)] (by kernel_rfl) (by kernel_rfl) rfl 1<|an (aa rfl)<|an (bd rfl)<|an (aK rfl sC (by decide))<|cr (fun m=>ay rfl y6 (aE (m.a6 1 rfl) rfl))<|cr (fun m=>yV (aU rfl vR uF (by rw[az];exact bN (by omega)) ((m.a6 0 rfl).ax)) ((rfl:Value.agg _=KN ⟨eE l p,bN (by omega)⟩)))<|an (aa rfl)<|an (bd rfl)<|an (aK rfl ij (by decide))<|cr (fun m=>ay rfl fS (aE (m.a6 1 rfl) rfl))<| ?_
  refine ew (b5 Tryz.underlying44 Fi rfl rfl rfl (by simp[Value.cells,B8]) (by decide) (by decide) (fun g57=>⟨(fun _=>wk [1,1,1,1] [0] rfl rfl), ?_⟩))
  have hA_b57:0<1→(some (⟨g57,0,none⟩:Addr))≠none:=fun _ h=>by cases h
  refine gP (fun w m=>m.bQ 0 rfl (show _=aG 3 1 (.slice (some ⟨g57,0,none⟩) 1 1) 1 (CI [p])from rfl)) ?_
  refine ew (zn (enc:=(KN (n:=4))) (k:=⟨eE l p,bN (by omega)⟩) 3 rfl rfl rfl Tryz.underlying357 Ev (Bl Tryz.underlying364 Tryz.underlying5 (by kernel_rfl) (by kernel_rfl) (by kernel_rfl)) (fun st58=>⟨(fun h=>absurd h (by decide)), ?_⟩))
  rw[lC]
  rcases hq:cm es ⟨eE l p,bN (by omega)⟩with _|x
  ·have e0:=rC hF hq
   refine gP (fun w m=>m.dm (r' :=aG 3 1 (.slice none 0 0) 0 []) (.refl _ _) (Own.nil _ _ _ _) (fun k hk=>hk.elim)) ?_
   refine an (ar rfl rfl)<|an (ar rfl rfl)<| ?_
   refine ew (bu 0 rfl rfl rfl Tryz.underlying44 Tryz.underlying44 (by exact .inl rfl) Fi rfl (fun m=>Src.bP (m.ord 2 rfl)) (w0 (l:=[p])) (by unfold maxLen;omega) (by omega) (fun u=>⟨(fun h=>absurd h (by decide)), ?_⟩))
   refine cA (fun m=>(m.own 0 rfl).slice) ?_
   rintro⟨A_x,c_x,rfl,hc_x⟩
   refine cA (fun m=>(m.ord 0 rfl).2.1) fun hA_x=> ?_
   refine kE (rM (enc:=(KN (n:=4))) 1 rfl rfl rfl rfl ⟨(fun h=>absurd h (by decide)), ?_⟩)
   refine bD<|al (ρ' :=[(4,_),(23,_),(0,_),(1,_)]) ⟨rfl,rfl,rfl,rfl,trivial⟩<|ak (X' :=[_,_,_,_,_,_]) (S' :=[_]) (fun _ m=>m)<|aQ<|ag<|aj<|hy (fun _=>aa rfl)<|hy (fun _=>bd rfl)<|hy (fun _=>aK rfl ij (by decide))<|hy (fun m=>ay rfl fS (aE (m.a6 4 rfl) rfl))<|hy (fun _=>aM rfl rfl (bG (by omega) (by omega)))<|hy (fun _=>bd rfl)<|hy (fun _=>aK rfl ij (by decide))<| ?_
   refine cL (cG 4 rfl rfl rfl s8 rfl (by first|exact Nat.le_of_ble_eq_true rfl|simp) ?_)
   refine ai<|al (ρ' :=[(4,_),(23,_),(0,_),(1,_)]) ⟨rfl,rfl,rfl,rfl,trivial⟩<|ak (X' :=[_,_,_,_,_,_]) (S' :=[_]) (fun _ m=>m)<| ?_
   refine ak (fun w m=>m.bQ 0 rfl (show _=aL g 359 [.slice (some a) n c,.map (some gm),.int .i64 ((p+1:Nat):Int)]from rfl)) ?_
   refine ak (fun w m=>m.bQ 1 rfl (show _=dC (KN (n:=4)) gm (jN (c9 es ⟨eE l p,bN (by omega)⟩ ⟨A_x,c_x,[p]⟩))from congrArg (dC _ _) (q6.trans (nJ _ ⟨A_x,c_x,[p]⟩ es)))) ?_
   refine ak (X' :=fJ (fW (c9 es ⟨eE l p,bN (by omega)⟩ ⟨A_x,c_x,[p]⟩))::_) (fun w m=>(Mem.sR (m.perm (au [2,4] _ [_,_] _ rfl))).mz (by rw[pG _ hq];exact(List.perm_append_singleton _ _).symm)) ?_
   refine sw (p+1) (c9 es ⟨eE l p,bN (by omega)⟩ ⟨A_x,c_x,[p]⟩) ⟨rfl,rfl,trivial⟩ [2,1,0] rfl [0] rfl (⟨by omega,by have:=wS (A:=A_x) (c:=c_x) hF (by omega);rw[e0]at this;exact this⟩) (by omega)
  ·obtain⟨j,hj1,hj2⟩:=kJ hq
   have e0:=uM hF hq
   have hxl:x.l.length≤n:=by rw[e0];exact Nat.le_trans (om _ _ _) (by omega)
   refine gP (X' :=aG 3 1 (.slice x.A x.l.length x.c) x.l.length (CI x.l)::_) (fun w m=>(m.perm (au [4] _ [_] _ rfl)).tl j hj1) ?_
   refine an (ar rfl rfl)<|an (ar rfl rfl)<| ?_
   refine ew (bu 0 rfl rfl rfl Tryz.underlying44 Tryz.underlying44 (by exact .inl rfl) Fi rfl (fun m=>Src.bP (m.ord 3 rfl)) (w0 (l:=[p])) (by unfold maxLen;omega) (by omega) (fun u=>⟨(fun h=>absurd h (by decide)), ?_⟩))
   refine cA (fun m=>(m.own 0 rfl).slice) ?_
   rintro⟨A_y,c_y,rfl,hc_y⟩
   refine cA (fun m=>(m.ord 0 rfl).2.1) fun hA_y=> ?_
   refine kE (rM (enc:=(KN (n:=4))) 2 rfl rfl rfl rfl ⟨(fun h=>absurd h (by decide)), ?_⟩)
   refine bD<|al (ρ' :=[(4,_),(23,_),(0,_),(1,_)]) ⟨rfl,rfl,rfl,rfl,trivial⟩<|ak (X' :=[_,_,_,_,_,_]) (S' :=[_]) (fun _ m=>m)<|aQ<|ag<|aj<|hy (fun _=>aa rfl)<|hy (fun _=>bd rfl)<|hy (fun _=>aK rfl ij (by decide))<|hy (fun m=>ay rfl fS (aE (m.a6 5 rfl) rfl))<|hy (fun _=>aM rfl rfl (bG (by omega) (by omega)))<|hy (fun _=>bd rfl)<|hy (fun _=>aK rfl ij (by decide))<| ?_
   refine cL (cG 5 rfl rfl rfl s8 rfl (by first|exact Nat.le_of_ble_eq_true rfl|simp) ?_)
   refine ai<|al (ρ' :=[(4,_),(23,_),(0,_),(1,_)]) ⟨rfl,rfl,rfl,rfl,trivial⟩<|ak (X' :=[_,_,_,_,_,_]) (S' :=[_]) (fun _ m=>m)<| ?_
   refine ak (fun w m=>m.bQ 0 rfl (show _=aL g 359 [.slice (some a) n c,.map (some gm),.int .i64 ((p+1:Nat):Int)]from rfl)) ?_
   have h1e:c9 (jN es) ⟨eE l p,bN (by omega)⟩ (.slice A_y (x.l.length+1) c_y)=jN (c9 es ⟨eE l p,bN (by omega)⟩ ⟨A_y,c_y,x.l++[p]⟩):=by rw[←nJ];simp[k9.val]
   refine ak (fun w m=>m.bQ 1 rfl (show _=dC (KN (n:=4)) gm (jN (c9 es ⟨eE l p,bN (by omega)⟩ ⟨A_y,c_y,x.l++[p]⟩))from congrArg (dC _ _) (q6.trans h1e))) ?_
   have h2e:aG 3 1 (.slice A_y (x.l.length+1) c_y) (x.l.length+1) (CI x.l++CI [p])=(⟨A_y,c_y,x.l++[p]⟩:k9).res:=by simp[k9.res,CI]
   refine ak (fun w m=>m.bQ 2 rfl (show _=(⟨A_y,c_y,x.l++[p]⟩:k9).res from h2e)) ?_
   have hjl:=(List.getElem?_eq_some_iff.1 hj1).1
   refine ak (X' :=fJ (fW (c9 es ⟨eE l p,bN (by omega)⟩ ⟨A_y,c_y,x.l++[p]⟩))::_) (fun w m=>(Mem.sR (m.perm (au [0,2] _ [_,_] _ rfl))).mz (by rw[hj2];exact(set_perm _ _ _ hjl).symm)) ?_
   refine sw (p+1) (c9 es ⟨eE l p,bN (by omega)⟩ ⟨A_y,c_y,x.l++[p]⟩) ⟨rfl,rfl,trivial⟩ [2,1,0] rfl [0] rfl (⟨by omega,by have:=wS (A:=A_y) (c:=c_y) hF (by omega);rw[←e0]at this;exact this⟩) (by omega)
 ·obtain rfl:p=i:=by omega
  refine aR rfl rfl rfl (by decide)<|aR rfl rfl rfl (by decide)<|aR rfl rfl rfl (by decide)<|aR rfl rfl rfl (by decide)<|aR rfl rfl rfl (by decide)<|aR rfl rfl rfl (by decide)<|aR rfl rfl rfl (by decide)<|aR rfl rfl rfl (by decide)<|aR rfl rfl rfl (by decide)<|aR rfl rfl rfl (by decide)<|aR rfl rfl rfl (by decide)<|an (bC rfl rfl)<|bD<|al (ρ' :=[(23,_),(0,_),(1,_)]) ⟨rfl,rfl,rfl,trivial⟩<|ag<| ?_
  refine dB rfl (rfl) ?_
  refine bJ<|ao<|ao<|aB<| ?_
  refine ak (X' :=nM g gm A n c p es::_) (fun w m=>(m.perm (au [0,0,0] _ [_,_,_] _ rfl)).pack) ?_
  exact fO trivial rfl [0] rfl [] rfl ⟨es,rfl,rfl,rfl,hF⟩
end Go.Proofs.YtmibdabdlgmafaaGreatDoor
end
section
namespace Go.Eng
open Go.RowKit
def q8:Op→Bool
 | .defer _=>true
 |_=>false
abbrev ob(l:Nat):Fence:=Fence.wide.inRound l
section
variable{P:Program}{Q:Exit→Act→World→Prop}{a:Act}{w:World}{l n:Nat}
theorem FZ{o:Oper}{next next' :Act→World→Prop}(h:o.wp P a w next Q)(hd:q8 o.op=false)(hn:∀a w,next a w→next' a w):o.wpIn (ob l) n P a w next' Q:=by
 refine⟨fun _ _=>trivial, ?_⟩
 have e:o.semAt (ob l).round a.eval=execOp a.eval o:=Oper.semAt_eq _ _ _ (fun c hc=>by rw[hc]at hd;cases hd)
 rw[e]
 unfold Oper.wp at h
 generalize(execOp a.eval o).run P w=r at h
 match r,h with
 | .ok (.value v) w',h=>exact hn _ _ h
 | .ok .skip w',h=>exact hn _ _ h
 | .ok (.defer d) w',h=>exact hn _ _ h
 | .ok (.enter f args) w',h=>
  refine⟨fun h=>by simp[Fence.wide]at h,CallsIn.inRound l (callsIn_wide.2 (Calls.mono h ?_))⟩
  intro e w'' q
  cases e with
  |returned v=>exact hn _ _ q
  |panicked c=>exact q
  |outgrown=>exact q
 | .ok (.row row args) w',h=>exact⟨fun h=>by simp[Fence.wide]at h,fun c cs _=>let⟨v,w'',r,s⟩:=h c cs;⟨v,w'',hn _ _ r,stepsIn_wide.2 s⟩⟩
 | .halt (.panic v) w',h=>exact h
theorem nR{ops:Array Oper}(hQ:¬LetsOut Q)(hd:ops.toList.all (fun o=> !q8 o.op)=true):∀(il:List Nat) (a:Act) (w:World),wpOps P ops Q il a w→wpOpsIn (ob l) n P ops Q il a w
 | [],a,w,h=>h
 |i::rest,a,w,h=>by
  unfold wpOps at h
  unfold wpOpsIn
  cases ho:ops[i]? with
  |none=>simp only[ho]at h ⊢;exact nR hQ hd rest a w h
  |some o=>
   simp only[ho]at h ⊢
   have hod:q8 o.op=false:=by
    have h1:=List.all_eq_true.1 hd o (by obtain⟨hi,he⟩:=Array.getElem?_eq_some_iff.1 ho;rw[←he];exact Array.getElem_mem_toList ..)
    simpa using h1
   split
   ·rename_i hw
    rw[if_pos hw]at h
    rcases h with h|⟨_,h⟩
    ·exact FZ h hod (fun a w h=>nR hQ hd rest a w h)
    ·exact absurd h hQ
   ·rename_i hw
    rw[if_neg hw]at h
    exact⟨fun _ _=>trivial,nR hQ hd rest _ w h⟩
end
def uX(l n:Nat)(P:Program)(Q:Exit→Act→World→Prop)(N:Nat)(D:List Deferred)(c:Code)(ρ:Env)(b:cK)(X S:List bn):Prop:=
 ¬LetsOut Q→∀w,Mem b X S w→∀a,Ag N D ρ a→c.wpIn (ob l) n P Q a w
section
variable{P:Program}{Q:Exit→Act→World→Prop}{N:Nat}{D:List Deferred}{ρ ρ' :Env}{b:cK}{X X' X1 Xr S S' S1:List bn}{c c' :Code}{l n:Nat}{ops:Array Oper}
theorem sX{K:Act→World→Prop}:LetsOut (Exit.then K Q)→LetsOut Q:=fun⟨a,w,h⟩=>⟨a,w,h⟩
theorem qV{id:Nat}:LetsOut (Exit.inBlock id Q)→LetsOut Q:=fun⟨a,w,h⟩=>⟨a,w,h⟩
theorem lW:LetsOut (e7 Q)→LetsOut Q:=fun⟨a,w,h⟩=>⟨a,w,by first|exact h|exact h.elim⟩
theorem oJ(h:uX l n P (Exit.then (fun a w=>¬LetsOut Q→c'.wpIn (ob l) n P Q a w) Q) N D c ρ b X S):uX l n P Q N D (.seq c c') ρ b X S:=fun hQ w m a ha=>
 wpIn_seq (wpIn_mono (h (fun k=>hQ (sX k)) w m a ha) (fun e a w q=>by cases e <;> first|exact q hQ|exact q))
theorem rX{id:Nat}{il:List Oper}(h:HL P il.toArray Q N D il ρ b X S)(hd:il.all (fun o=> !q8 o.op)=true:=by rfl):uX l n P Q N D (.region id il.toArray false) ρ b X S:=fun hQ w m a ha=>by
 refine wpIn_region (nR hQ (by simpa using hd) _ _ _ ?_)
 have h1:=h w m a ha
 rw[List.range_eq_range',←Array.length_toList,wpOps_eq_wpList il.toArray.toList 0 (by simp)]
 simpa using h1
theorem o7(h:HQ Q N D .normal ρ b X S):uX l n P Q N D .skip ρ b X S:=fun hQ w m a ha=>wpIn_skip (h w m a ha)
theorem zf{id:Nat}(h:HQ Q N D (.exit id) ρ b X S):uX l n P Q N D (.exit id) ρ b X S:=fun hQ w m a ha=>wpIn_exit (h w m a ha)
theorem xj{id:Nat}(h:uX l n P (Exit.inBlock id Q) N D c ρ b X S):uX l n P Q N D (.block id c) ρ b X S:=fun hQ w m a ha=>wpIn_block (h (fun k=>hQ (qV k)) w m a ha)
theorem C0{p:Prop}[Decidable p]{x:Operand}(hc:ev ρ x=some (.bool (decide p)))(ht:p→uX l n P Q N D c ρ b X S)(he:¬p→uX l n P Q N D c' ρ b X S):uX l n P Q N D (.cond x c c') ρ b X S:=
 fun hQ w m a ha=>wpIn_cond_split (ha.eval hc) (fun h=>ht (of_decide_eq_true h) hQ w m a ha) (fun h=>he (of_decide_eq_false h) hQ w m a ha)
theorem kG(h:uX l n P Q N D c ρ b X S):HQ (Exit.then (fun a w=>¬LetsOut Q→c.wpIn (ob l) n P Q a w) Q) N D .normal ρ b X S:=fun w m a ha hQ=>h hQ w m a ha
theorem Dp{id:Nat}{il:List (Option Nat×Oper)}(Xs:List Nat)(L:List (Nat×Option Nat))(hm:P.follows .mixedOrders=true)(hk:(Region.noSelect ops && eH ops Xs L (Array.replicate ops.size false) && decide (L.length≤ops.size))=true)
  (hp:iI ops L=some il) (cc:Nat) (h:HT P ops (e7 Q) (TT b X S cc) N D 0 il ρ b X S) (hd:ops.toList.all (fun o=> !q8 o.op)=true:=by rfl):uX l n P Q N D (.region id ops true) ρ b X S:=fun hQ w m a ha=>by
 simp only[Bool.and_eq_true,decide_eq_true_eq]at hk
 refine wpIn_mono (Q:=e7 Q) ?_ (fun e a w q=>by cases e <;> first|exact q|exact q.elim)
 refine wpIn_region_draw fun t=>nR (fun k=>hQ (lW k)) hd _ _ _ ?_
 simp only[Region.schedule,hm,Bool.true_or,if_true]
 refine wpAny_sound ops.size t _ a _ ?_
 refine eX _ _ _ _ (fY (X:=Xs) hk.1.1 (fun c a d v w q=>q.elim) L il _ a _ _ 0 hp hk.1.2 hk.2 ?_ ?_ (T:=TT b X S cc) (fun _=>m.lift (Fr.drew w)) (h _ (m.lift (Fr.drew w)) a ha))
 ·intro j hj
  simp[Array.getElem?_replicate]at hj
  split at hj <;> cases hj
 ·unfold jv
  rw[List.countP_eq_zero]
  intro x _
  simp[Array.getElem?_replicate]
  split <;> rfl
theorem yy{id:Nat}{il:List (Option Nat×Oper)}(is js:List Nat)(hX:bW is X=some (X1,Xr))(hS:dT js S=some S1)(Xs:List Nat)(L:List (Nat×Option Nat))(hm:P.follows .mixedOrders=true)(hk:(Region.noSelect ops && eH ops Xs L (Array.replicate ops.size false) && decide (L.length≤ops.size))=true)
  (hp:iI ops L=some il) (cc:Nat) (h:HT P ops (e7 Q) (TT b X1 S1 cc) N D 0 il ρ b X S) (hd:ops.toList.all (fun o=> !q8 o.op)=true:=by rfl):uX l n P Q N D (.region id ops true) ρ b X S:=fun hQ w m a ha=>by
 simp only[Bool.and_eq_true,decide_eq_true_eq]at hk
 refine wpIn_mono (Q:=e7 Q) ?_ (fun e a w q=>by cases e <;> first|exact q|exact q.elim)
 refine wpIn_region_draw fun t=>nR (fun k=>hQ (lW k)) hd _ _ _ ?_
 simp only[Region.schedule,hm,Bool.true_or,if_true]
 refine wpAny_sound ops.size t _ a _ ?_
 refine eX _ _ _ _ (fY (X:=Xs) hk.1.1 (fun c a d v w q=>q.elim) L il _ a _ _ 0 hp hk.1.2 hk.2 ?_ ?_ (T:=TT b X1 S1 cc) (fun _=>(wk is js hX hS).mem (m.lift (Fr.drew w))) (h _ (m.lift (Fr.drew w)) a ha))
 ·intro j hj
  simp[Array.getElem?_replicate]at hj
  split at hj <;> cases hj
 ·unfold jv
  rw[List.countP_eq_zero]
  intro x _
  simp[Array.getElem?_replicate]
  split <;> rfl
end
end Go.Eng
end
section
namespace Go.Eng
open Go.RowKit
def xo(D:Nat):bn where
 dy k:=k=D
 holds w:=w.heap[D]? =some (.deferred (some []))
 iF:=fun{S w w'} f h e=>by
  have hlt:=(Array.getElem?_eq_some_iff.1 e).1
  exact(f.block D hlt (h D rfl)).trans e
 low:=fun{w k} e hk=>by
  have hk' :k=D:=hk
  rw[hk'];exact(Array.getElem?_eq_some_iff.1 e).1
theorem Mem.grown{b:cK}{X S:List bn}{w w' :World}{R:Nat→Prop}(m:Mem b X S w)(f:Fr R w w')(h1:∀k,R k→b.w.heap.size≤k)(h2:∀k,R k→∀x∈X,¬x.dy k)(h3:∀k,R k→∀s∈S,¬s.dy k):Mem b X S w' :=
 ⟨m.fr.trans f (fun _ e=>e) (fun i hi e=>absurd (h1 i e) (by omega)),m.xx,m.xs,fun x hx=>x.iF f (fun k hk hr=>h2 k hr x hx hk) (m.hx x hx),fun s hs=>s.iF f (fun k hk hr=>h3 k hr s hs hk) (m.hs s hs),m.nx,m.ns⟩
theorem uh{w w' :World}{row:Option Nat}(h:w.grownBy w' row):Fr (fun k=>row=some k) w w' :=⟨h.os,h.tape,h.output,h.size,fun k hk hn=>h.block k hk (fun e=>hn e.symm)⟩
def FY(B:Nat)(M:Nat→Prop)(W W' :World):Prop:=∀k,k<B→¬M k→W'.heap[k]? =W.heap[k]?
def BD(ps:Array Tmp)(vs:List Value):Env:=(ps.toList.zip vs)
theorem Mem.AM{b:cK}{X S:List bn}{w:World}{D B:Nat}(m:Mem b X S w)(hb:b.w.heap.size≤B)(hD:B≤D)(hx:∀x∈X,∀k,x.dy k→k<B)(hs:∀s∈S,∀k,s.dy k→k<B)(h:w.heap[D]? =some (.deferred (some []))):Mem b (xo D::X) S w:=by
 refine⟨m.fr,List.pairwise_cons.2 ⟨fun y hy k hk hy' => ?_,m.xx⟩,fun x hx' s hs' k hk hk' => ?_,fun x hx' => ?_,m.hs,fun x hx' k hk=> ?_,m.ns⟩
 ·have hk' :k=D:=hk
  have:=hx y hy k hy'
  omega
 ·rcases List.mem_cons.1 hx' with rfl|hx'
  ·have h1:k=D:=hk
   have:=hs s hs' k hk'
   omega
  ·exact m.xs x hx' s hs' k hk hk'
 ·rcases List.mem_cons.1 hx' with rfl|hx'
  ·exact h
  ·exact m.hx x hx'
 ·rcases List.mem_cons.1 hx' with rfl|hx'
  ·have h1:k=D:=hk
   exact .inr (by omega)
  ·exact m.nx x hx' k hk
theorem Mem.off{b:cK}{X S X1 Xr:List bn}{w:World}{is:List Nat}(m:Mem b X S w)(hX:bW is X=some (X1,Xr))(j:Nat){r:bn}(hj:Xr[j]? =some r){k:Nat}(hk:r.dy k):¬dJ X1 k:=by
 have m1:=m.perm (au _ _ _ _ hX)
 rintro⟨x,hx,hxk⟩
 exact(List.pairwise_append.1 m1.xx).2.2 x hx r (List.mem_of_getElem? hj) k hxk hk
def RQ{α σ:Type}(b:cK)(X1:σ→List bn)(Sb:List bn)(id:Nat)(step:σ→α→σ)(brk:σ→α→Prop)(s:σ)(x:α):Exit→Act→World→Prop
 | .normal,_,w=>Mem b (X1 (step s x)) Sb w
 | .exit i,_,w=>i=id∧Mem b (X1 s) Sb w∧brk s x
 |_,_,_=>False
theorem lA{α σ:Type}{b:cK}{X1:σ→List bn}{Sb:List bn}{id:Nat}{step:σ→α→σ}{brk:σ→α→Prop}{s:σ}{x:α}{N:Nat}{D:List Deferred}{ρ:Env}{X S Xz:List bn}(s' :σ)(he:step s x=s')(is:List Nat)(hX:bW is X=some (X1 s',Xz))(js:List Nat)(hS:dT js S=some Sb):
  HQ (RQ b X1 Sb id step brk s x) N D .normal ρ b X S:=fun w m a ha=>by
 show Mem b (X1 (step s x)) Sb w
 rw[he]
 exact m.out is hX js hS
theorem ry{α σ:Type}{b:cK}{X1:σ→List bn}{Sb:List bn}{id:Nat}{step:σ→α→σ}{brk:σ→α→Prop}{s:σ}{x:α}{N:Nat}{D:List Deferred}{ρ:Env}{X S Xz:List bn}(is:List Nat)(hX:bW is X=some (X1 s,Xz))(js:List Nat)(hS:dT js S=some Sb)(hb:brk s x):
  HQ (RQ b X1 Sb id step brk s x) N D (.exit id) ρ b X S:=fun w m a ha=>⟨rfl,m.out is hX js hS,hb⟩
section
variable{P:Program}{Q:Exit→Act→World→Prop}{N:Nat}{D:List Deferred}{ρ ρ' :Env}{b:cK}{X X' Xr S S' Sb:List bn}
theorem AR{α σ:Type}{g gf id:Nat}{ps:Array Tmp}{assign body:Code}{lb:List Value}(X1:σ→List bn)(s0:σ)(step:σ→α→σ)(brk:σ→α→Prop)(encs:α→List Value)(xs:List α)(ρx:α→Env)(ρk:Env)(hk:fe ρk ρ)
  (hv:get ρ g=some (.func (.func gf) #[] lb.toArray)) (heg:∀args w,(callFunc gf args).run P w= .ok (.enter gf args) w)
  (is:List Nat) (hX:bW is X=some (X1 s0,Xr)) (hft:∀s k,dJ (X1 s) k↔dJ (X1 s0) k) (js:List Nat) (hS:dT js S=some Sb)
  (ah:∀w,Mem b X S w→SeqStopsK Fence.wide 2 P gf lb.toArray (fun x=>(encs x).toArray) (FY w.heap.size (dJ (X1 s0))) (fun ys=>ys=xs) (fun pre=>pre<+:xs) xs.length w)
  (hps:∀x,(encs x).length=ps.size) (hpn:∀p∈ps.toList,p<N) (hnd:∀x (a:Act),Ag N D ρ a→Ag N [] (ρ' ++BD ps (encs x)++ρ) {tmps:=(ps.zip (encs x).toArray).foldl (fun t (p,v)=>t.setIfInBounds p v) a.tmps,defers:=[]})
  (hasg:∀(l:Nat) (b' :cK) (s:σ) (x:α) (Q' :Exit→Act→World→Prop),HQ Q' N [] .normal (ρx x++ρk) b' (X1 s) Sb→uX l 1 P Q' N [] assign (ρ' ++BD ps (encs x)++ρ) b' (X1 s) Sb)
  (hbody:∀(l:Nat) (b' :cK) (s:σ) (x:α),uX l 1 P (RQ b' X1 Sb id step brk s x) N [] body (ρx x++ρk) b' (X1 s) Sb)
  (k:∀(Dk:Nat) (s:σ),(s=xs.foldl step s0∨∃pre x rest,xs=pre++x::rest∧s=pre.foldl step s0∧brk s x)→HQ Q N (⟨.collected Dk, #[]⟩::D) .normal ρ b (xo Dk::(X1 s++Xr)) S):
  HC P Q N D (.block id (.rangeFunc (.tmp g) ps assign body)) ρ b X S:=by
 intro w m a ha
 have m1:=m.perm (au _ _ _ _ hX)
 have hSb:=cx _ _ _ hS
 obtain⟨M,hM⟩:∃M,M=dJ (X1 s0):=⟨_,rfl⟩
 have hbz:b.w.heap.size≤w.heap.size:=m.fr.size
 have lowM:∀k,M k→k<w.heap.size:=by
  rw[hM]
  rintro k ⟨x,hx,hk⟩
  exact x.low (m1.hx x (List.mem_append_left _ hx)) hk
 have lowX:∀s x,x∈X1 s++Xr→∀k,x.dy k→k<w.heap.size:=by
  intro s x hx k hk
  rcases List.mem_append.1 hx with hx|hx
  ·exact lowM k (by rw[hM];exact(hft s k).1 ⟨x,hx,hk⟩)
  ·exact x.low (m1.hx x (List.mem_append_right _ hx)) hk
 have lowS:∀s∈S,∀k,s.dy k→k<w.heap.size:=fun s hs k hk=>s.low (m.hs s hs) hk
 refine wpIn_wide (n:=3).1 (wpIn_block ?_)
 have hown:∀{s:σ} {W W' :World} {row:Option Nat},Mem b (X1 s++Xr) S W→W.grownBy W' row→(∀r,row=some r→w.heap.size≤r∧∃o:Obj,W.heap[r]? =some o∧o.isCells=false)→Mem b (X1 s++Xr) S W' :=by
  intro s W W' row mW hg hr
  refine mW.grown (uh hg) (fun k e=>Nat.le_trans hbz (hr k e).1) (fun k e x hx hk=> ?_) (fun k e x hx hk=> ?_)
  ·have h1:=lowX s x hx k hk
   have h2:=(hr k e).1
   omega
  ·have h1:=lowS x hx k hk
   have h2:=(hr k e).1
   omega
 have hround:∀{s:σ} {W W' :World} {Y:List bn},Mem b (X1 s++Xr) S W→w.heap.size≤W.heap.size→Mem ⟨W,dJ (X1 s),dJ Sb⟩ Y Sb W' →KeepsFrom w.heap.size W W' ∧FY w.heap.size M W W' ∧Mem b (Y++Xr) S W' :=by
  intro s W W' Y mW hsz mY
  have e:∀k,dJ (X1 s) k↔M k:=fun k=>by rw[hM];exact hft s k
  refine⟨⟨mY.fr.size,fun k o hk ho _=> ?_⟩,fun k hk hn=> ?_,(mW.frame hSb mY).mh (fun x hx=>List.mem_append_right _ hx)⟩
  ·have hlt:=(Array.getElem?_eq_some_iff.1 ho).1
   exact(mY.fr.block k hlt (fun q=>by have:=lowM k ((e k).1 q);omega)).trans ho
  ·exact mY.fr.block k (by show k<W.heap.size;omega) (fun q=>hn ((e k).1 q))
 refine wpIn_rangeFunc_ownH (n:=3) (α:=α) (gf:=gf) (lb:=lb.toArray) rfl (by decide) (ha.eval hv) trivial heg (ah w m)
  (fun{A B C} h1 h2 k hk hn=>(h2 k hk hn).trans (h1 k hk hn)) (fun W l o o' hl ho _ _ k hk hn=>World.putObj_heap_other (by omega)) (Below.refl _ w) (fun x=>by simpa using hps x)
  (fun pre W=>w.heap.size≤W.heap.size∧Mem b (X1 (pre.foldl step s0)++Xr) S W) (fun c pre W=>c= .exit id∧∃pre' x,pre=pre' ++[x]∧Mem b (X1 (pre'.foldl step s0)++Xr) S W∧brk (pre'.foldl step s0) x)
  (fun pre W W' row h hg hr=>⟨Nat.le_trans h.1 hg.size,hown h.2 hg hr⟩)
  (fun c pre W W' row h hg hr=>by
   obtain⟨hc,pre',x,e,h1,h2⟩:=h
   exact⟨hc,pre',x,e,hown h1 hg hr,h2⟩)
  ⟨Nat.le_refl _,m1⟩ (fun x a' _=>Ag N [] (ρx x++ρk) a') (fun x a' =>ownFrom_pure _ (fun _=>Ag N [] (ρx x++ρk) a')) ?_ ?_ ?_ ?_
 ·rintro l pre x W K ⟨hsz,mW⟩ hK
  refine hasg l ⟨W,dJ (X1 (pre.foldl step s0)),dJ Sb⟩ (pre.foldl step s0) x _ (fun W' m' a' ha' => ?_) (fun⟨_,_,h⟩=>h) W (mW.part hSb) _ (hnd x a ha)
  obtain⟨h1,h2,h3⟩:=hround mW hsz m'
  exact hK a' W' h1 (by rw[←hM];exact h2) ⟨Nat.le_trans hsz h1.size,h3⟩ ha'
 ·rintro l pre x a' W _ _ ⟨hsz,mW⟩ hax _
  refine wpIn_mono (hbody l ⟨W,dJ (X1 (pre.foldl step s0)),dJ Sb⟩ (pre.foldl step s0) x (fun⟨_,_,h⟩=>h) W (mW.part hSb) a' hax) ?_
  intro e a2 W2 q
  cases e with
  |normal=>
   have q' :Mem _ (X1 (step (pre.foldl step s0) x)) Sb W2:=q
   obtain⟨h1,h2,h3⟩:=hround mW hsz q'
   refine⟨h1,by rw[←hM];exact h2,Nat.le_trans hsz h1.size, ?_⟩
   rw[List.foldl_append]
   exact h3
  |exit i=>
   obtain⟨rfl,q1,q2⟩:=q
   obtain⟨h1,h2,h3⟩:=hround mW hsz q1
   exact⟨h1,rfl,pre,x,rfl,h3,q2⟩
  |ret=>exact q.elim
  |goto t=>exact q.elim
  |panic c=>exact q.elim
  |outgrown=>exact q.elim
 ·rintro Dk ys W hD rfl ⟨hsz,mW⟩ hdef
  exact k Dk _ (.inl rfl) W (mW.AM hbz hD (lowX _) lowS hdef) _ ⟨ha.sz,by rw[ha.df],ha.gt⟩
 ·rintro Dk c pre W hD hpre ⟨rfl,pre',x,rfl,mW,hb⟩ hdef
  obtain⟨rest,hr⟩:=hpre
  refine wpIn_exit ?_
  have hq:=k Dk _ (.inr ⟨pre',x,rest,by rw[←hr];simp,rfl,hb⟩) W (mW.AM hbz hD (lowX _) lowS hdef) {a with defers:=⟨.collected Dk, #[]⟩::a.defers} ⟨ha.sz,by show _::a.defers=_;rw[ha.df],ha.gt⟩
  show(Exit.inBlock id Q) (.exit id) _ W
  simp only[Exit.inBlock,if_pos]
  exact hq
end
theorem zI{N p q:Nat}{D:List Deferred}{ρ:Env}{a:Act}{u v:Value}(hpq:(p == q)=false)(hp:p<N)(hq:q<N)(ha:Ag N D ρ a):
  Ag N [] ([]++BD #[p,q] [u,v]++ρ) {tmps:=((#[p,q]:Array Tmp).zip [u,v].toArray).foldl (fun t (p,v)=>t.setIfInBounds p v) a.tmps,defers:=[]}:=by
 have hne:p≠q:=by simpa using hpq
 have e:(((#[p,q]:Array Tmp).zip [u,v].toArray).foldl (fun t (p,v)=>t.setIfInBounds p v) a.tmps)=(a.tmps.setIfInBounds p u).setIfInBounds q v:=by simp
 rw[e]
 have hsz:=ha.sz
 refine⟨by simpa using hsz,rfl,fun t z ht=> ?_⟩
 simp only[BD,List.nil_append,List.zip_cons_cons,List.zip_nil_right,List.cons_append,get]at ht
 show((a.tmps.setIfInBounds p u).setIfInBounds q v)[t]? =some z
 cases h1:Nat.beq p t with
 |true=>
  rw[h1]at ht
  have h1' :p=t:=Nat.eq_of_beq_eq_true h1
  simp only[cond_true,Option.some.injEq]at ht
  subst h1';subst ht
  rw[Array.getElem?_setIfInBounds_ne (Ne.symm hne),Array.getElem?_setIfInBounds_self_of_lt (by omega)]
 |false=>
  rw[h1]at ht
  simp only[cond_false]at ht
  have h1' :p≠t:=Nat.ne_of_beq_eq_false h1
  cases h2:Nat.beq q t with
  |true=>
   rw[h2]at ht
   have h2' :q=t:=Nat.eq_of_beq_eq_true h2
   simp only[cond_true,Option.some.injEq]at ht
   subst h2';subst ht
   rw[Array.getElem?_setIfInBounds_self_of_lt (by simp;omega)]
  |false=>
   rw[h2]at ht
   have h2' :q≠t:=Nat.ne_of_beq_eq_false h2
   rw[Array.getElem?_setIfInBounds_ne h2',Array.getElem?_setIfInBounds_ne h1']
   exact ha.gt t z (by simpa using ht)
theorem B5{P:Program}{f:Nat}{fn:Func}{c:Code}{vs:List Value}{R:Value→List bn→List bn→Prop}{N:Nat}{X0 S0:List bn}(hf:P.funcs[f]? =some fn)(hb:fn.body=some c)(hN:fn.ntmps=N)(hl:vs.length≤N)
  (h:∀b,HC P (bodyPostM Fence.wide 3 P fn (RB b R)) N [] c (gy vs 0) b X0 S0):ck P f vs X0 S0 R:=fun w m=>by
 refine callsIn_wide (n:=3).1 (callsIn_of_wp_marks hf hb trivial (wpIn_wide.2 (h _ w m _ ⟨?_,rfl,fun t v ht=> ?_⟩)))
 ·simp[hN];omega
 ·obtain⟨_,h2⟩:=gK vs 0 t v ht
  have hlt:=(List.getElem?_eq_some_iff.1 h2).1
  rw[Array.getElem?_append_left (by simpa using hlt)]
  simpa using h2
section
variable{P:Program}{fn:Func}{R:Value→List bn→List bn→Prop}{N n:Nat}{D:List Deferred}{ρ:Env}{b:cK}{X X' Xz S S' :List bn}{e:Exit}
theorem FJ{Dk:Nat}(he:Leaves e)(is:List Nat)(hX:bW is X=some ([xo Dk],X'))(k:HQ (bodyPostM Fence.wide n P fn (RB b R)) N D e ρ b X' S):HQ (bodyPostM Fence.wide n P fn (RB b R)) N (⟨.collected Dk, #[]⟩::D) e ρ b X S:=by
 intro w m a ha
 have m1:=m.perm (au _ _ _ _ hX)
 have hc:w.heap[Dk]? =some (.deferred (some [])):=m1.hx (xo Dk) (by simp)
 have hx1:=(List.pairwise_cons.1 m1.xx).1
 have hr:=run_takeDeferred (P:=P) hc
 have hf:Fr (fun k=>k=Dk) w (w.putObj Dk (.deferred none)):=⟨rfl,rfl,rfl,by simp,fun k _ hk=>World.putObj_heap_other hk⟩
 have hbz:b.w.heap.size≤Dk∨b.M Dk:=(m1.nx (xo Dk) (by simp) Dk rfl).symm
 have m2:Mem b X' S (w.putObj Dk (.deferred none)):=by
  refine⟨m1.fr.trans hf (fun _ e=>e) (fun i hi e=> ?_),(List.pairwise_cons.1 m1.xx).2,fun x hx=>m1.xs x (List.mem_cons_of_mem _ hx),fun x hx=>x.iF hf (fun k hk e=> ?_) (m1.hx x (List.mem_cons_of_mem _ hx)),fun s hs=>s.iF hf (fun k hk e=> ?_) (m1.hs s hs),fun x hx=>m1.nx x (List.mem_cons_of_mem _ hx),m1.ns⟩
  ·subst e
   rcases hbz with h|h
   ·omega
   ·exact h
  ·exact hx1 x hx k e hk
  ·exact m1.xs (xo Dk) (by simp) s hs k e hk
 have hk:=k _ m2 {a with defers:=D} ⟨ha.sz,rfl,ha.gt⟩
 cases e with
 |normal=>
  show LeavesInM Fence.wide n P fn a.tmps _ a.defers .returning w
  rw[ha.df]
  exact⟨by simp,.inl ⟨Dk,_,rfl,hr,hk⟩⟩
 |ret=>
  show LeavesInM Fence.wide n P fn a.tmps _ a.defers .returning w
  rw[ha.df]
  exact⟨by simp,.inl ⟨Dk,_,rfl,hr,hk⟩⟩
 |_=>exact he.elim
theorem GB{v:Value}(he:Leaves e)(h:∀a,Ag N [] ρ a→∀w,(results fn a.tmps).run P w= .ok v w)(is:List Nat)(hX:bW is X=some (X',Xz))(js:List Nat)(hS:dT js S=some S')(hR:R v X' S'):HQ (bodyPostM Fence.wide n P fn (RB b R)) N [] e ρ b X S:=by
 intro w m a ha
 have hm:=m.out is hX js hS
 cases e with
 |normal=>
  show LeavesInM Fence.wide n P fn a.tmps _ a.defers .returning w
  rw[ha.df]
  exact⟨v,h a ha w,_,_,_,rfl,hR,hm⟩
 |ret=>
  show LeavesInM Fence.wide n P fn a.tmps _ a.defers .returning w
  rw[ha.df]
  exact⟨v,h a ha w,_,_,_,rfl,hR,hm⟩
 |_=>exact he.elim
theorem vn{t t' :Nat}{v v' :Value}(he:Leaves e)(hr:fn.results= #[.tmp t,.tmp t'])(hv:get ρ t=some v)(hv' :get ρ t' =some v')(is:List Nat)(hX:bW is X=some (X',Xz))(js:List Nat)(hS:dT js S=some S')(hR:R (.tuple #[v,v']) X' S'):HQ (bodyPostM Fence.wide n P fn (RB b R)) N [] e ρ b X S:=
 GB he (fun a ha w=>by have h1:=ha.getD hv;have h2:=ha.getD hv';simp at h1 h2;simp[results,hr,h1,h2]) is hX js hS hR
end
end Go.Eng
end
section
namespace Go.Proofs.YtmibdabdlgmafaaGreatDoor
open Go.Eng Go.RowKit Go.Shelf
attribute [local go_sem] Oper.semAt_some
set_option maxRecDepth 100000 in
set_option maxHeartbeats 4000000 in
theorem yQ(F:Fence)(n:Nat)(h7:F.fn 297)(hro:F.round=none)(hn:1≤n)(l Bs B b off cap:Nat)(M:Nat→Prop)(zs:List Int){α:Type}(L:List α)(encs:α→List Value)(hL:L.length=zs.length)(henc:∀(k:Nat) (x:α),L[k]? =some x→encs x=[.int .i64 ((zs.length-1-k:Nat):Int),.int .i64 (zs[zs.length-1-k]?.getD 0)])(hreach:zs.length*8≤140737488351232)(hbs:Bs<B∧¬M Bs)(hb:b<B∧¬M b)(J Jx:List α→World→Prop)
  (hY:∀pre x W,J pre W→pre.length<L.length→YieldAt F (n-1) Tryz.prog l (encs x).toArray W fun e W' =>
   (e= .returned (.bool true)∧J (pre++[x]) W' ∧FY B M W W')∨(e= .returned (.bool false)∧Jx (pre++[x]) W'))
  (W:World) (hBs:W.cell? ⟨Bs,0,none⟩=some (.slice (some ⟨b,off,none⟩) zs.length cap)) (hc:∀j,j<zs.length→W.cell? ⟨b,off+j,none⟩=some (.int .i64 (zs[j]?.getD 0))) (h0:J [] W):
  CallsIn F n Tryz.prog 297 #[.func (.yield l) #[] #[],.pointer (some ⟨Bs,0,none⟩)] W fun e W' =>(∃v,e= .returned v)∧
   ((∃ys,ys=L∧J ys W')∨(∃pre,pre<+:L∧Jx pre W')):=by
 refine callsIn_of_wp Tryz.func297 rfl h7 ?_ hro
 simp only[Tryz.ntmps297,List.size_toArray,List.length_cons,List.length_nil,Nat.reduceAdd,Nat.reduceSub,Array.replicate_succ,Array.replicate_zero,List.push_toArray,List.append_toArray,List.nil_append,List.cons_append]
 gi_wp2
 gi_loopw [3] (fun i wr=>∃k:Nat,k≤zs.length∧i= .int .i64 ((zs.length:Int)-1-(k:Int))∧J (L.take k) wr∧FY B M W wr)
  (fun i _=>(intOf i+1).toNat)
 case atStart=>exact⟨0,Nat.zero_le _,by simp,h0,fun _ _ _=>rfl⟩
 case round=>
  obtain⟨k,hk,rfl,hJs,hnx⟩:=hrel
  have hBs' :wr.cell? ⟨Bs,0,none⟩=some (.slice (some ⟨b,off,none⟩) zs.length cap):=by rw[←hBs];simp only[World.cell?,hnx Bs hbs.1 hbs.2]
  have hcx:∀j,j<zs.length→wr.cell? ⟨b,off+j,none⟩=some (.int .i64 (zs[j]?.getD 0)):=fun j h=>by rw[←hc j h];simp only[World.cell?,hnx b hb.1 hb.2]
  by_cases hlt:k<zs.length
  ·obtain⟨j,hj⟩:∃j:Nat,j+1+k=zs.length:=⟨zs.length-1-k,by omega⟩
   have hjk:zs.length-1-k=j:=by omega
   have hji:(zs.length:Int)-1-(k:Int)=(j:Int):=by omega
   obtain⟨x,hx⟩:∃x,L[k]? =some x:=⟨_,List.getElem?_eq_getElem (by omega)⟩
   have htk:L.take (k+1)=L.take k++[x]:=by rw[List.take_add_one,hx];rfl
   obtain⟨fn,tmps,assign,body,hy,hR⟩:=hY _ x wr hJs (by rw[List.length_take];omega)
   rw[henc k x hx,hjk]at hy
   have hcx' :=hcx j (by omega)
   obtain⟨z,hz⟩:∃z,zs[j]?.getD 0=z:=⟨_,rfl⟩
   rw[hz]at hcx' hy
   clear hcx hz hc
   rw[hji]
   have hge:¬((j:Int)<0):=by omega
   have hjl:j<zs.length:=by omega
   gi_wp2
   refine hR.mono ?_
   rintro e W3 (⟨rfl,hJ3,hk3⟩|⟨rfl,hJx3⟩)
   ·gi_wp2
    go_roundw
    case rel=>exact⟨k+1,by omega,by congr 1 <;> omega,by rw[htk];exact hJ3,fun q h1 h2=>(hk3 q h1 h2).trans (hnx q h1 h2)⟩
    case measure=>simp[intOf] <;> omega
   ·gi_wp2
    refine bodyPost_ret (results_none rfl _ _ _) rfl ?_
    exact⟨⟨_,rfl⟩,.inr ⟨_,by rw[←htk];exact List.take_prefix _ _,hJx3⟩⟩
  ·obtain rfl:k=zs.length:=by omega
   have hge:¬((zs.length:Int)-1-(zs.length:Int)≥0):=by omega
   gi_wp2
   go_end0
   exact⟨⟨_,rfl⟩,.inl (by rw[←hL,List.take_length]at hJs;exact hJs)⟩
set_option maxRecDepth 100000 in
set_option maxHeartbeats 4000000 in
theorem um(F:Fence)(n:Nat)(h7:F.fn 297)(hro:F.round=none)(l Bs cap:Nat)(A:Option Addr)(J:World→Prop)
  (W:World) (hBs:W.cell? ⟨Bs,0,none⟩=some (.slice A 0 cap)) (h0:J W):
  CallsIn F n Tryz.prog 297 #[.func (.yield l) #[] #[],.pointer (some ⟨Bs,0,none⟩)] W fun e W' =>(∃v,e= .returned v)∧J W' :=by
 refine callsIn_of_wp Tryz.func297 rfl h7 ?_ hro
 simp only[Tryz.ntmps297,List.size_toArray,List.length_cons,List.length_nil,Nat.reduceAdd,Nat.reduceSub,Array.replicate_succ,Array.replicate_zero,List.push_toArray,List.append_toArray,List.nil_append,List.cons_append]
 gi_wp2
 gi_loopw [3] (fun i wr=>i= .int .i64 (-1)∧J wr) (fun _ _=>0)
 case atStart=>exact⟨by simp,h0⟩
 case round=>
  obtain⟨rfl,hJs⟩:=hrel
  gi_wp2
  go_end0
  exact⟨⟨_,rfl⟩,hJs⟩
theorem qL(F:Fence)(n:Nat)(h7:F.fn 297)(hro:F.round=none)(hn:1≤n){w:World}{Bs e:Nat}{v:Value}{zs:List Int}{M:Nat→Prop}{α:Type}(L:List α)(encs:α→List Value)(hL:L.length=zs.length)(henc:∀(k:Nat) (x:α),L[k]? =some x→encs x=[.int .i64 ((zs.length-1-k:Nat):Int),.int .i64 (zs[zs.length-1-k]?.getD 0)])(hreach:zs.length*8≤140737488351232)
  (hBs:w.cell? ⟨Bs,0,none⟩=some v) (hMB:¬M Bs) (h:Go.Eng.Own w 0 e 1 v zs.length (zs.map (Value.int .i64))) (hMA:∀k,jD v k→¬M k):
  SeqStopsK F n Tryz.prog 297 #[.pointer (some ⟨Bs,0,none⟩)] (fun x=>(encs x).toArray) (FY w.heap.size M) (fun ys=>ys=L) (fun pre=>pre<+:L) L.length w:=by
 intro l J Jx W hW _ _ hY h0
 have hlt:=ma hBs
 have hc' :W.cell? ⟨Bs,0,none⟩=some v:=(hW.cell (p:=⟨Bs,0,none⟩) hlt).trans hBs
 obtain⟨hl,⟨rfl,hz⟩|⟨g,o,cap,cur,rfl,_,hb,hcap,hml,hcl,hx⟩⟩:=h
 ·have hL0:L=[]:=List.eq_nil_of_length_eq_zero (by omega)
  subst hL0
  exact(um F n h7 hro l Bs 0 none (J []) W hc' h0).mono fun e W' ⟨he,hj⟩=>⟨he,.inl ⟨_,rfl,hj⟩⟩
 ·by_cases hz:zs.length=0
  ·have hL0:L=[]:=List.eq_nil_of_length_eq_zero (by omega)
   subst hL0
   rw[hz]at hc'
   exact(um F n h7 hro l Bs cap _ (J []) W hc' h0).mono fun e W' ⟨he,hj⟩=>⟨he,.inl ⟨_,rfl,hj⟩⟩
  ·have hcs:∀j,j<zs.length→W.cell? ⟨g,o+j,none⟩=some (.int .i64 (zs[j]?.getD 0)):=fun j hj=>by
    refine(hW.cell (p:=⟨g,o+j,none⟩) hb.lt).trans (hb.cell ?_)
    have h1:((cur.drop o).take (zs.length*1))[j]? =(zs.map (Value.int .i64))[j]? :=by rw[hx]
    rw[List.getElem?_take,if_pos (by omega),List.getElem?_drop,List.getElem?_map,List.getElem?_eq_getElem hj]at h1
    rw[h1,List.getElem?_eq_getElem hj]
    rfl
   have hsz:=hW.size
   have:=yQ F n h7 hro hn l Bs w.heap.size g o cap M zs L encs hL henc hreach ⟨hlt,hMB⟩ ⟨hb.lt,hMA g rfl⟩ J Jx hY W hc' hcs h0
   refine this.mono ?_
   rintro e W' ⟨he,⟨ys,rfl,hj⟩|⟨pre,hp,hj⟩⟩
   ·exact⟨he,.inl ⟨_,rfl,hj⟩⟩
   ·exact⟨he,.inr ⟨_,hp,hj⟩⟩
end Go.Proofs.YtmibdabdlgmafaaGreatDoor
end
section
set_option maxRecDepth 20000
set_option maxHeartbeats 2000000
namespace Go.Proofs.YtmibdabdlgmafaaGreatDoor
open Go.Eng Go.Hx
def eZ(zs:List Nat)(i:Nat)(h:∀z∈zs,z<i):List {x:Nat×Nat//x.2<i}:=(zs.attach.zipIdx.map fun x=>(⟨(x.2,x.1.1),h _ x.1.2⟩:{x:Nat×Nat//x.2<i})).reverse
theorem iB(zs:List Nat)(i:Nat)(h:∀z∈zs,z<i):(eZ zs i h).length=zs.length:=by simp[eZ]
theorem oc(zs:List Nat)(i:Nat)(h:∀z∈zs,z<i):(eZ zs i h).map (fun x=>x.1.2)=zs.reverse:=by
 unfold eZ
 rw[List.map_reverse,List.map_map]
 congr 1
 apply List.ext_getElem
 ·simp
 ·intro j h1 h2
  simp
theorem tJ(zs:List Nat)(i:Nat)(h:∀z∈zs,z<i)(k:Nat)(x:{x:Nat×Nat//x.2<i})(hx:(eZ zs i h)[k]? =some x):k<zs.length∧x.1.1=zs.length-1-k∧zs[zs.length-1-k]? =some x.1.2:=by
 have hk:k<zs.length:=by rw[←iB zs i h];exact(List.getElem?_eq_some_iff.1 hx).1
 unfold eZ at hx
 rw[List.getElem?_reverse (by simpa using hk)]at hx
 simp only[List.length_map,List.length_zipIdx,List.length_attach,List.getElem?_map,List.getElem?_zipIdx,Nat.zero_add]at hx
 have hlt:zs.length-1-k<zs.attach.length:=by simp;omega
 rw[List.getElem?_eq_getElem hlt]at hx
 simp only[Option.map_some,Option.some.injEq]at hx
 subst hx
 refine⟨hk,rfl, ?_⟩
 rw[List.getElem?_eq_getElem (by simpa using hlt)]
 simp
theorem lZ(f:Nat×Nat→Nat→Nat×Nat)(s:Nat×Nat)(i:Nat)(L:List {x:Nat×Nat//x.2<i}):L.foldl (fun s x=>f s x.1.2) s=(L.map (fun x=>x.1.2)).foldl f s:=by rw[List.foldl_map]
theorem qq{l:List UInt8}{i:Nat}{zs:List Nat}(hz:zs=kR l i (eE l i))(hi:i+4≤l.length)(h:∀z∈zs,z<i){s:Nat×Nat}
  (hs:s=(eZ zs i h).foldl (fun s x=>fU l i s x.1.2) (0,0)∨∃pre x rest,eZ zs i h=pre++x::rest∧s=pre.foldl (fun s x=>fU l i s x.1.2) (0,0)∧1024<i-x.1.2):s=a7 l i:=by
 subst hz
 rcases hs with rfl|⟨pre,x,rest,e,rfl,hb⟩
 ·rw[lZ,oc,uc hi]
 ·have e2:=congrArg (List.map fun x=>x.1.2) e
  rw[oc,List.map_append,List.map_cons]at e2
  rw[lZ,←uc hi]
  exact(xR e2 hb).symm
def lX(l:List Nat):List Int:=l.map fun n:Nat=>(n:Int)
theorem eY(l:List Nat):(lX l).length=l.length:=List.length_map ..
theorem y9{w:World}{e:TypeId}{v:Value}{l:List Nat}(h:Go.Eng.Own w 0 e 1 v l.length (CI l)):Go.Eng.Own w 0 e 1 v (lX l).length ((lX l).map (Value.int .i64)):=by
 rw[eY]
 unfold lX
 rw[List.map_map]
 exact h
theorem Fh{es:uY}{j:Nat}{x:k9}(h:(fW es)[j]? =some x.res):(x.res::(fW es).eraseIdx j).Perm (fW es):=by
 obtain⟨h1,h2⟩:=List.getElem?_eq_some_iff.1 h
 have:=gD (fW es) j h1
 rwa [h2]at this
theorem Dw{A:Option Addr}{n c:Nat}:ck Tryz.prog 271 [.slice A n c] [] [] (fun v_ X_ S_=>∃gB,v_=(.func (.func 297) #[] #[.pointer (some ⟨gB,0,none⟩)])∧X_=[aL gB 44 [.slice A n c]]∧S_=[]):=by
 refine aP (N:=4) Tryz.func271 rfl rfl (by simp) fun b=> ?_
 refine ah<|aj<| ?_
 refine hx (cw rfl (fun g1=> ?_))
 refine hy (fun _=>ab rfl)<|ai<|ak (X' :=[_]) (S' :=[]) (fun _ m=>m)<|ag<|ah<|aj<|hy (fun _=>kD rfl rfl)<|hy (fun _=>ab rfl)<|ai<|al (ρ' :=[(2,_),(1,_),(0,_)]) ⟨rfl,rfl,rfl,trivial⟩<|ag<|aX<| ?_
 refine ak (fun w m=>m.bQ 0 rfl (show _=aL g1 44 [.slice A n c]from rfl)) ?_
 exact bg trivial rfl rfl [0] rfl [] rfl ⟨_,rfl,rfl,rfl⟩
theorem FF{A:Option Addr}{n c:Nat}:ck Tryz.prog 229 [.slice A n c] [] [] (fun v_ X_ S_=>∃g gm,v_=(.pointer (some ⟨g,0,none⟩))∧X_=[nM g gm A n c 0 []]∧S_=[]):=by
 refine aP (N:=7) Tryz.func229 rfl rfl (by simp) fun b=> ?_
 refine ah<|aj<|hy (fun _=>ab rfl)<|ai<|ag<|ah<|aj<|hy (fun _=>aa rfl)<| ?_
 refine hx (nz (KN (n:=4)) (fun g4=> ?_))
 refine hy (fun _=>cC Fy rfl rfl (by kernel_rfl) (.cons (o:=0) (sz:=1) (by kernel_rfl) rfl rfl (Nat.le_of_ble_eq_true rfl) (.cons (o:=1) (sz:=1) (by kernel_rfl) rfl rfl (Nat.le_of_ble_eq_true rfl) .nil)))<| ?_
 refine hx (cw rfl (fun g6=> ?_))
 refine hy (fun _=>ab rfl)<|ai<|al (ρ' :=[(2,_),(0,_)]) ⟨rfl,rfl,trivial⟩<|ak (X' :=[_,_]) (S' :=[]) (fun _ m=>m)<|ag<|aX<| ?_
 refine ak (fun w m=>m.C2) ?_
 refine ak (fun w m=>m.bQ 1 rfl (show _=aL g6 359 [.slice A n c,.map (some g4),.int .i64 ((0:Nat):Int)]from rfl)) ?_
 refine ak (X' :=nM g6 g4 A n c 0 []::_) (fun w m=>(m.perm (au [0,1,0] _ [_,_,_] _ rfl)).pack) ?_
 exact bg trivial rfl rfl [0] rfl [] rfl ⟨_,_,rfl,rfl,rfl⟩
theorem y0(zs:List Nat)(i:Nat)(h:∀z∈zs,z<i)(k:Nat)(x:{x:Nat×Nat//x.2<i})(hx:(eZ zs i h)[k]? =some x):[Value.int .i64 (x.1.1:Nat),.int .i64 (x.1.2:Nat)]=[.int .i64 (((lX zs).length-1-k:Nat):Int),.int .i64 ((lX zs)[(lX zs).length-1-k]?.getD 0)]:=by
 obtain⟨h1,h2,h3⟩:=tJ zs i h k x hx
 rw[eY]
 unfold lX
 rw[List.getElem?_map,h3,h2]
 rfl
theorem EY{g gm:Nat}{A:Option Addr}{n c p i:Nat}{l:List UInt8}{es:uY}(hc:n≤c)(hn:n≤1000000000)(hl:l.length=n)(hpi:p≤i)(hi:i≤n)(hF:yw l p es):ck Tryz.prog 231 [.pointer (some ⟨g,0,none⟩),.int .i64 (i:Nat)] [nM g gm A n c p es] [dr 1 A n (aV l)] (fun v_ X_ S_=>∃p1 es1,v_=(.tuple #[.int .i64 ((a7 l i).1:Nat),.int .i64 ((a7 l i).2:Nat)])∧X_=[nM g gm A n c p1 es1]∧S_=[]∧(p1≤i∧yw l p1 es1)):=by
 refine B5 (N:=60) Tryz.func231 rfl rfl (by simp) fun b=> ?_
 refine aY (fun m=>gY (m.rd 0 rfl)) ?_
 rintro⟨hl_r,hA_r⟩
 refine bx (fun w m=>(m.perm (au [0] _ [_] _ rfl)).unpack) ?_
 refine ah<|aj<| ?_
 refine hx (cw rfl (fun g2=> ?_))
 refine hx (cw rfl (fun g3=> ?_))
 refine hy (fun _=>ab rfl)<|hy (fun _=>ab rfl)<|ai<|ak (X' :=[_,_,_,_,_]) (S' :=[_]) (fun _ m=>m)<|ag<|ah<|ah<|c5 [] [(0,some 0),(1,some 0),(2,some 0),(3,some 0),(4,some 0),(5,some 0),(6,some 0),(7,some 0)] (by kernel_rfl) (by kernel_rfl) rfl 99<|cr (fun m=>ay rfl fS (aE (m.a6 0 rfl) rfl))<|an (aM rfl rfl (bG (by omega) (by omega)))<|cr (fun m=>ay rfl ot (aE (m.a6 1 rfl) rfl))<|an (bd rfl)<|an (aK rfl j9 (by decide))<|cr (fun m=>ay rfl ek (aE (m.a6 2 rfl) rfl))<|an (aS rfl Tryz.underlying27)<|an (da rfl rfl)<|bD<|al (ρ' :=[(18,_),(5,_),(4,_),(3,_),(2,_),(0,_),(1,_)]) ⟨rfl,rfl,rfl,rfl,rfl,rfl,rfl,trivial⟩<|ag<| ?_
 refine cD rfl (fun h1=> ?_) (fun h1=> ?_)
 ·have e:=tT (b:=l) (i:=i) (by omega) (by omega)
  rw[e]
  refine ah<|aj<|hy (fun _=>ab rfl)<|hy (fun _=>ab rfl)<|ai<|ag<|aX<|aw<| ?_
  refine ak (X' :=nM g gm A n c p es::_) (fun w m=>(m.perm (au [2,2,2] _ [_,_,_] _ rfl)).pack) ?_
  exact vn trivial rfl rfl rfl [0] rfl [] rfl ⟨p,es,rfl,rfl,rfl,⟨hpi,hF⟩⟩
 ·have hi4:i+4≤n:=by omega
  refine aD<|ag<|ah<| ?_
  refine bx (X' :=nM g gm A n c p es::_) (fun w m=>(m.perm (au [2,2,2] _ [_,_,_] _ rfl)).pack) ?_
  refine aj<|hy (fun m=>ay rfl ot (aE (m.a6 2 rfl) rfl))<|hy (fun m=>ay rfl fS (aE (m.a6 1 rfl) rfl))<| ?_
  refine hx (aq rfl Tryz.call270 (GJ (by omega) (by omega) hl (by omega) (by omega) hF) [0] rfl [0] rfl ?_)
  rintro _ _ _ ⟨es1,rfl,rfl,rfl,hp⟩
  have hF1:=hp
  refine ai<|al (ρ' :=[(18,_),(5,_),(4,_),(3,_),(2,_),(0,_),(1,_)]) ⟨rfl,rfl,rfl,rfl,rfl,rfl,rfl,trivial⟩<|ak (X' :=[_,_,_]) (S' :=[_]) (fun _ m=>m)<|ag<|ah<|aj<| ?_
  refine hx (aN Fi (fun g6=> ?_))
  refine hx (aN Fi (fun g7=> ?_))
  refine cL (dV 1 rfl rfl rfl s8 rfl (by first|exact Nat.le_of_ble_eq_true rfl|simp) ?_)
  refine cL (dV 1 rfl rfl rfl s8 rfl (by first|exact Nat.le_of_ble_eq_true rfl|simp) ?_)
  refine ai<|ak (X' :=[_,_,_,_,_]) (S' :=[_]) (fun _ m=>m)<|ag<|ah<|ah<| ?_
  refine bx (fun w m=>(m.perm (au [2] _ [_] _ rfl)).unpack) ?_
  refine aY (fun m=>(m.rd 0 rfl).some (by omega)) fun h_=> ?_
  obtain⟨a,rfl⟩:∃a_,A=some a_:=⟨_,h_⟩
  clear h_
  rcases hq:cm es1 ⟨eE l i,bN (by omega)⟩with _|x
  ·have e0:=rC hF1 hq
   refine c5 [15] [(0,some 1),(1,some 0),(2,some 0),(3,some 0),(4,some 1),(5,some 1),(6,some 1),(7,some 1),(8,some 1),(9,some 1),(10,some 1),(11,some 0),(12,some 0),(13,some 0),(14,some 0),(15,none)] (by kernel_rfl) (by kernel_rfl) rfl 99<|cr (fun m=>ay rfl ot (aE (m.a6 6 rfl) rfl))<|an (bd rfl)<|an (aK rfl sC (by decide))<|cr (fun m=>ay rfl y6 (aE (m.a6 0 rfl) rfl))<|cr (fun m=>ay rfl ot (aE (m.a6 6 rfl) rfl))<|an (bd rfl)<|an (aK rfl j9 (by decide))<|cr (fun m=>ay rfl ek (aE (m.a6 0 rfl) rfl))<|cr (fun m=>ay rfl fS (aE (m.a6 5 rfl) rfl))<|cr (fun m=>ay rfl fS (aE (m.a6 5 rfl) rfl))<|an (aM rfl rfl (bG (by omega) (by omega)))<|an (yV (eS rfl rfl rfl Tryz.underlying27 ea rfl (show((i+4:Nat):Int)=_ by omega) (by omega) (by omega)) ((show Value.slice (if c=i then some a else(some a).map (·.add (i*1))) (i+4-i) (c-i)= .slice (some (a.add i)) 4 (c-i) by rw[if_neg (by omega),Nat.mul_one,Nat.add_sub_cancel_left];rfl)))<|an (o3 rfl Tryz.underlying364 (by omega))<|cr (fun m=>yV (aU rfl vR uF (by rw[az];exact bN (by omega)) (Rd.part (m.rd 0 rfl))) ((show Value.agg (aV ((l.drop i).take 4)).toArray=KN ⟨eE l i,bN (by omega)⟩from rfl)))<|cr (fun m=>yV (kb (enc:=(KN (n:=4))) (k:=⟨eE l i,bN (by omega)⟩) rfl rfl Tryz.underlying357 Ev (Bl Tryz.underlying364 Tryz.underlying5 (by kernel_rfl) (by kernel_rfl) (by kernel_rfl)) (m.qy 1 rfl)) ((show ig false (.slice none 0 0) (cm (jN es1) ⟨eE l i,bN (by omega)⟩)= .slice none 0 0 by rw[lC,hq];rfl)))<| ?_
   refine ew (aq rfl Tryz.call271 (Dw) [] rfl [] rfl ?_)
   rintro _ _ _ ⟨gB,rfl,rfl,rfl⟩
   refine⟨(fun _=>wk [1,1,1,1,1,1,1] [0] rfl rfl), ?_⟩
   refine bD<|al (ρ' :=[(37,_),(7,_),(6,_),(18,_),(5,_),(4,_),(3,_),(2,_),(0,_),(1,_)]) ⟨rfl,rfl,rfl,rfl,rfl,rfl,rfl,rfl,rfl,rfl,trivial⟩<|ak (X' :=[_,_,_,_,_,_,_,_]) (S' :=[_]) (fun _ m=>m)<|ag<| ?_
   have hlt:∀z∈([]:List Nat),z<i:=fun z hz=>by cases hz
   refine AR (σ:=Nat×Nat) (α:={x:Nat×Nat//x.2<i}) (ρ' :=[]) (fun s_:Nat×Nat=>[aL g6 3 [.int .i64 (s_.1:Nat)],aL g7 3 [.int .i64 (s_.2:Nat)],aL g3 3 [.int .i64 (i:Nat)],aL g2 322 [.pointer (some ⟨g,0,none⟩)],aL g 359 [.slice (some a) n c,.map (some gm),.int .i64 (i:Nat)]]) (0,0) (fun s_ x_=>fU l i s_ x_.1.2) (fun s_ x_=>1024<i-x_.1.2) (fun x_=>[.int .i64 (x_.1.1:Nat),.int .i64 (x_.1.2:Nat)]) (eZ (([]:List Nat)) i hlt) (fun x_=>[(9,.int .i64 (x_.1.2:Nat))]) [(37,_),(7,_),(6,_),(18,_),(5,_),(4,_),(3,_),(2,_),(0,_),(1,_)] ⟨rfl,rfl,rfl,rfl,rfl,rfl,rfl,rfl,rfl,rfl,trivial⟩ rfl Tryz.call297 [5,4,4,4,1] rfl (fun s_ k_=>by simp[dJ,aL]) [0] rfl (fun w m=>qL Fence.wide 2 trivial rfl (by decide) (zs:=lX (([]:List Nat))) (e:=3) (eZ (([]:List Nat)) i hlt) (fun x_=>[.int .i64 (x_.1.1:Nat),.int .i64 (x_.1.2:Nat)]) (by rw[iB,eY]) (y0 _ _ _) (by rw[eY];first|omega|simp) (aE (m.a6 0 rfl) rfl) (m.off (is:=[5,4,4,4,1]) rfl 0 rfl rfl) (Go.Eng.Own.nil _ _ _ _) (fun k hk=>hk.elim)) (fun _=>rfl) (by decide) (fun _ _ ha_=>zI rfl (by decide) (by decide) ha_) (fun l_ b_ s_ x_ Q_ h_=> ?_) (fun l_ b s_ x_=> ?_) (fun Dk_ s_ hs_=> ?_)
   ·exact rX (hy (fun _=>ab rfl) ((ai (by refine al ?_ h_;exact⟨rfl,rfl,rfl,rfl,rfl,rfl,rfl,rfl,rfl,rfl,rfl,trivial⟩))))
   ·obtain⟨u1,u2⟩:=s_
    obtain⟨⟨j,q⟩,hq2⟩:=x_
    try dsimp only
    have hq2:q<i:=hq2
    refine xj<|oJ<|oJ<|rX<|hy (fun m=>ay rfl fS (aE (m.a6 2 rfl) rfl))<|hy (fun _=>aa rfl)<|hy (fun _=>cn rfl rfl (bG (by omega) (by omega)))<|hy (fun _=>da rfl rfl)<|ai<|al (ρ' :=[(43,_),(9,_),(37,_),(7,_),(6,_),(18,_),(5,_),(4,_),(3,_),(2,_),(0,_),(1,_)]) ⟨rfl,rfl,rfl,rfl,rfl,rfl,rfl,rfl,rfl,rfl,rfl,rfl,trivial⟩<|kG<| ?_
    refine C0 rfl (fun hb=> ?_) (fun hb=> ?_)
    ·refine zf<|ao<|lU (by decide)<| ?_
     exact ry [0,0,0,0,0] rfl [0] rfl ((show 1024<i-q by omega))
    ·refine o7<|kG<|oJ<|Dp [6] [(0,some 0),(1,some 0),(2,some 0),(3,some 0),(4,some 0),(5,some 0),(6,none),(7,some 1)] (by kernel_rfl) (by kernel_rfl) rfl 99<|cr (fun m=>ay rfl ot (aE (m.a6 3 rfl) rfl))<|an (bd rfl)<|an (aK rfl j9 (by decide))<|cr (fun m=>ay rfl ek (aE (m.a6 4 rfl) rfl))<|cr (fun m=>ay rfl fS (aE (m.a6 2 rfl) rfl))<|an (aa rfl)<| ?_
     refine ew (aq rfl Tryz.call272 (Df (by omega) hl (by omega) (by omega)) [] rfl [0] rfl ?_)
     rintro _ _ _ ⟨rfl,rfl,rfl⟩
     refine⟨(fun _=>wk [0,0,0,0,0] [0] rfl rfl), ?_⟩
     refine an (ab rfl)<|bD<|al (ρ' :=[(10,_),(43,_),(9,_),(37,_),(7,_),(6,_),(18,_),(5,_),(4,_),(3,_),(2,_),(0,_),(1,_)]) ⟨rfl,rfl,rfl,rfl,rfl,rfl,rfl,rfl,rfl,rfl,rfl,rfl,rfl,trivial⟩<|ak (X' :=[_,_,_,_,_]) (S' :=[_]) (fun _ m=>m)<|kG<|oJ<|rX<|hy (fun _=>aa rfl)<|hy (fun m=>ay rfl fS (aE (m.a6 0 rfl) rfl))<|hy (fun _=>da rfl rfl)<|ai<|al (ρ' :=[(53,_),(10,_),(43,_),(9,_),(37,_),(7,_),(6,_),(18,_),(5,_),(4,_),(3,_),(2,_),(0,_),(1,_)]) ⟨rfl,rfl,rfl,rfl,rfl,rfl,rfl,rfl,rfl,rfl,rfl,rfl,rfl,rfl,trivial⟩<|kG<| ?_
     refine C0 rfl (fun hx1=> ?_) (fun hx1=> ?_)
     ·refine yy [2,2,2] [0] rfl rfl [4,5] [(0,some 0),(1,some 1),(2,some 1),(3,some 1),(4,none),(5,none)] (by kernel_rfl) (by kernel_rfl) rfl 99<|an (aa rfl)<|cr (fun m=>ay rfl fS (aE (m.a6 0 rfl) rfl))<|an (aa rfl)<|an (yV (cn rfl rfl (bG (by omega) (by omega))) ((show Value.int .i64 ((i:Int)-(q:Int))= .int .i64 ((i-q:Nat):Int) by congr 1;omega)))<| ?_
      refine kE (dV 0 rfl rfl rfl s8 rfl (by first|exact Nat.le_of_ble_eq_true rfl|simp) ⟨(fun _=>wk [2,2,2] [0] rfl rfl), ?_⟩)
      refine kE (dV 1 rfl rfl rfl s8 rfl (by first|exact Nat.le_of_ble_eq_true rfl|simp) ⟨(fun _=>wk [2,2,2] [0] rfl rfl), ?_⟩)
      refine bD<|al (ρ' :=[(53,_),(10,_),(43,_),(9,_),(37,_),(7,_),(6,_),(18,_),(5,_),(4,_),(3,_),(2,_),(0,_),(1,_)]) ⟨rfl,rfl,rfl,rfl,rfl,rfl,rfl,rfl,rfl,rfl,rfl,rfl,rfl,rfl,trivial⟩<|ak (X' :=[_,_,_,_,_]) (S' :=[_]) (fun _ m=>m)<|aQ<| ?_
      exact lA (l9 l i q,i-q) (by show fU l i (u1,u2) q=_;unfold fU;rw[if_neg (by omega),if_pos (by show u1<_;omega)]) [1,0,0,0,0] rfl [0] rfl
     ·refine o7<|aQ<| ?_
      exact lA (u1,u2) (by show fU l i (u1,u2) q=_;unfold fU;rw[if_neg (by omega),if_neg (by show¬u1<_;omega)]) [0,0,0,0,0] rfl [0] rfl
   ·obtain⟨u1,u2⟩:=s_
    have ai:=qq e0.symm (by omega) hlt hs_
    have hu1:u1=(a7 l i).1:=congrArg Prod.fst ai
    have hu2:u2=(a7 l i).2:=congrArg Prod.snd ai
    refine ag<|ah<|c5 [] [(0,some 0),(1,some 0),(2,some 0),(3,some 0)] (by kernel_rfl) (by kernel_rfl) rfl 99<|cr (fun m=>ay rfl fS (aE (m.a6 1 rfl) rfl))<|cr (fun m=>ay rfl fS (aE (m.a6 2 rfl) rfl))<|an (ab rfl)<|an (ab rfl)<|bD<|al (ρ' :=[(5,_),(4,_),(37,_),(7,_),(6,_),(18,_),(3,_),(2,_),(0,_),(1,_)]) ⟨rfl,rfl,rfl,rfl,rfl,rfl,rfl,rfl,rfl,rfl,trivial⟩<|ag<|aX<| ?_
    refine FJ trivial [0] rfl ?_
    skip
    refine ak (X' :=nM g gm (some a) n c i es1::_) (fun w m=>(m.perm (au [4,5,5] _ [_,_,_] _ rfl)).pack) ?_
    exact vn trivial rfl rfl rfl [0] rfl [] rfl ⟨i,es1,(by rw[←hu1,←hu2]),rfl,rfl,⟨Nat.le_refl _,hF1⟩⟩
  ·have e0:=uM hF1 hq
   refine c5 [15] [(0,some 1),(1,some 0),(2,some 0),(3,some 0),(4,some 1),(5,some 1),(6,some 1),(7,some 1),(8,some 1),(9,some 1),(10,some 1),(11,some 0),(12,some 0),(13,some 0),(14,some 0),(15,none)] (by kernel_rfl) (by kernel_rfl) rfl 99<|cr (fun m=>ay rfl ot (aE (m.a6 6 rfl) rfl))<|an (bd rfl)<|an (aK rfl sC (by decide))<|cr (fun m=>ay rfl y6 (aE (m.a6 0 rfl) rfl))<|cr (fun m=>ay rfl ot (aE (m.a6 6 rfl) rfl))<|an (bd rfl)<|an (aK rfl j9 (by decide))<|cr (fun m=>ay rfl ek (aE (m.a6 0 rfl) rfl))<|cr (fun m=>ay rfl fS (aE (m.a6 5 rfl) rfl))<|cr (fun m=>ay rfl fS (aE (m.a6 5 rfl) rfl))<|an (aM rfl rfl (bG (by omega) (by omega)))<|an (yV (eS rfl rfl rfl Tryz.underlying27 ea rfl (show((i+4:Nat):Int)=_ by omega) (by omega) (by omega)) ((show Value.slice (if c=i then some a else(some a).map (·.add (i*1))) (i+4-i) (c-i)= .slice (some (a.add i)) 4 (c-i) by rw[if_neg (by omega),Nat.mul_one,Nat.add_sub_cancel_left];rfl)))<|an (o3 rfl Tryz.underlying364 (by omega))<|cr (fun m=>yV (aU rfl vR uF (by rw[az];exact bN (by omega)) (Rd.part (m.rd 0 rfl))) ((show Value.agg (aV ((l.drop i).take 4)).toArray=KN ⟨eE l i,bN (by omega)⟩from rfl)))<|cr (fun m=>yV (kb (enc:=(KN (n:=4))) (k:=⟨eE l i,bN (by omega)⟩) rfl rfl Tryz.underlying357 Ev (Bl Tryz.underlying364 Tryz.underlying5 (by kernel_rfl) (by kernel_rfl) (by kernel_rfl)) (m.qy 1 rfl)) ((show ig false (.slice none 0 0) (cm (jN es1) ⟨eE l i,bN (by omega)⟩)= .slice x.A x.l.length x.c by rw[lC,hq];rfl)))<| ?_
   refine ew (aq rfl Tryz.call271 (Dw) [] rfl [] rfl ?_)
   rintro _ _ _ ⟨gB,rfl,rfl,rfl⟩
   refine⟨(fun _=>wk [1,1,1,1,1,1,1] [0] rfl rfl), ?_⟩
   refine bD<|al (ρ' :=[(37,_),(7,_),(6,_),(18,_),(5,_),(4,_),(3,_),(2,_),(0,_),(1,_)]) ⟨rfl,rfl,rfl,rfl,rfl,rfl,rfl,rfl,rfl,rfl,trivial⟩<|ak (X' :=[_,_,_,_,_,_,_,_]) (S' :=[_]) (fun _ m=>m)<|ag<| ?_
   have hlt:∀z∈x.l,z<i:=fun z hz=>(Ct (e0▸hz)).1
   have hxl:x.l.length≤n:=by rw[e0];exact Nat.le_trans (om _ _ _) (by omega)
   obtain⟨j,hj1,_⟩:=kJ hq
   refine bx (X' :=aG 3 1 (.slice x.A x.l.length x.c) x.l.length (CI x.l)::_) (fun w m=>(m.perm (au [3] _ [_] _ rfl)).tl j hj1) ?_
   refine AR (σ:=Nat×Nat) (α:={x:Nat×Nat//x.2<i}) (ρ' :=[]) (fun s_:Nat×Nat=>[aL g6 3 [.int .i64 (s_.1:Nat)],aL g7 3 [.int .i64 (s_.2:Nat)],aL g3 3 [.int .i64 (i:Nat)],aL g2 322 [.pointer (some ⟨g,0,none⟩)],aL g 359 [.slice (some a) n c,.map (some gm),.int .i64 (i:Nat)]]) (0,0) (fun s_ x_=>fU l i s_ x_.1.2) (fun s_ x_=>1024<i-x_.1.2) (fun x_=>[.int .i64 (x_.1.1:Nat),.int .i64 (x_.1.2:Nat)]) (eZ (x.l) i hlt) (fun x_=>[(9,.int .i64 (x_.1.2:Nat))]) [(37,_),(7,_),(6,_),(18,_),(5,_),(4,_),(3,_),(2,_),(0,_),(1,_)] ⟨rfl,rfl,rfl,rfl,rfl,rfl,rfl,rfl,rfl,rfl,trivial⟩ rfl Tryz.call297 [6,5,5,5,3] rfl (fun s_ k_=>by simp[dJ,aL]) [0] rfl (fun w m=>qL Fence.wide 2 trivial rfl (by decide) (zs:=lX (x.l)) (e:=3) (eZ (x.l) i hlt) (fun x_=>[.int .i64 (x_.1.1:Nat),.int .i64 (x_.1.2:Nat)]) (by rw[iB,eY]) (y0 _ _ _) (by rw[eY];first|omega|simp) (aE (m.a6 2 rfl) rfl) (m.off (is:=[6,5,5,5,3]) rfl 2 rfl rfl) (y9 (m.own 0 rfl)) (fun k hk=>m.off (is:=[6,5,5,5,3]) rfl 0 rfl hk)) (fun _=>rfl) (by decide) (fun _ _ ha_=>zI rfl (by decide) (by decide) ha_) (fun l_ b_ s_ x_ Q_ h_=> ?_) (fun l_ b s_ x_=> ?_) (fun Dk_ s_ hs_=> ?_)
   ·exact rX (hy (fun _=>ab rfl) ((ai (by refine al ?_ h_;exact⟨rfl,rfl,rfl,rfl,rfl,rfl,rfl,rfl,rfl,rfl,rfl,trivial⟩))))
   ·obtain⟨u1,u2⟩:=s_
    obtain⟨⟨j,q⟩,hq2⟩:=x_
    try dsimp only
    have hq2:q<i:=hq2
    refine xj<|oJ<|oJ<|rX<|hy (fun m=>ay rfl fS (aE (m.a6 2 rfl) rfl))<|hy (fun _=>aa rfl)<|hy (fun _=>cn rfl rfl (bG (by omega) (by omega)))<|hy (fun _=>da rfl rfl)<|ai<|al (ρ' :=[(43,_),(9,_),(37,_),(7,_),(6,_),(18,_),(5,_),(4,_),(3,_),(2,_),(0,_),(1,_)]) ⟨rfl,rfl,rfl,rfl,rfl,rfl,rfl,rfl,rfl,rfl,rfl,rfl,trivial⟩<|kG<| ?_
    refine C0 rfl (fun hb=> ?_) (fun hb=> ?_)
    ·refine zf<|ao<|lU (by decide)<| ?_
     exact ry [0,0,0,0,0] rfl [0] rfl ((show 1024<i-q by omega))
    ·refine o7<|kG<|oJ<|Dp [6] [(0,some 0),(1,some 0),(2,some 0),(3,some 0),(4,some 0),(5,some 0),(6,none),(7,some 1)] (by kernel_rfl) (by kernel_rfl) rfl 99<|cr (fun m=>ay rfl ot (aE (m.a6 3 rfl) rfl))<|an (bd rfl)<|an (aK rfl j9 (by decide))<|cr (fun m=>ay rfl ek (aE (m.a6 4 rfl) rfl))<|cr (fun m=>ay rfl fS (aE (m.a6 2 rfl) rfl))<|an (aa rfl)<| ?_
     refine ew (aq rfl Tryz.call272 (Df (by omega) hl (by omega) (by omega)) [] rfl [0] rfl ?_)
     rintro _ _ _ ⟨rfl,rfl,rfl⟩
     refine⟨(fun _=>wk [0,0,0,0,0] [0] rfl rfl), ?_⟩
     refine an (ab rfl)<|bD<|al (ρ' :=[(10,_),(43,_),(9,_),(37,_),(7,_),(6,_),(18,_),(5,_),(4,_),(3,_),(2,_),(0,_),(1,_)]) ⟨rfl,rfl,rfl,rfl,rfl,rfl,rfl,rfl,rfl,rfl,rfl,rfl,rfl,trivial⟩<|ak (X' :=[_,_,_,_,_]) (S' :=[_]) (fun _ m=>m)<|kG<|oJ<|rX<|hy (fun _=>aa rfl)<|hy (fun m=>ay rfl fS (aE (m.a6 0 rfl) rfl))<|hy (fun _=>da rfl rfl)<|ai<|al (ρ' :=[(53,_),(10,_),(43,_),(9,_),(37,_),(7,_),(6,_),(18,_),(5,_),(4,_),(3,_),(2,_),(0,_),(1,_)]) ⟨rfl,rfl,rfl,rfl,rfl,rfl,rfl,rfl,rfl,rfl,rfl,rfl,rfl,rfl,trivial⟩<|kG<| ?_
     refine C0 rfl (fun hx1=> ?_) (fun hx1=> ?_)
     ·refine yy [2,2,2] [0] rfl rfl [4,5] [(0,some 0),(1,some 1),(2,some 1),(3,some 1),(4,none),(5,none)] (by kernel_rfl) (by kernel_rfl) rfl 99<|an (aa rfl)<|cr (fun m=>ay rfl fS (aE (m.a6 0 rfl) rfl))<|an (aa rfl)<|an (yV (cn rfl rfl (bG (by omega) (by omega))) ((show Value.int .i64 ((i:Int)-(q:Int))= .int .i64 ((i-q:Nat):Int) by congr 1;omega)))<| ?_
      refine kE (dV 0 rfl rfl rfl s8 rfl (by first|exact Nat.le_of_ble_eq_true rfl|simp) ⟨(fun _=>wk [2,2,2] [0] rfl rfl), ?_⟩)
      refine kE (dV 1 rfl rfl rfl s8 rfl (by first|exact Nat.le_of_ble_eq_true rfl|simp) ⟨(fun _=>wk [2,2,2] [0] rfl rfl), ?_⟩)
      refine bD<|al (ρ' :=[(53,_),(10,_),(43,_),(9,_),(37,_),(7,_),(6,_),(18,_),(5,_),(4,_),(3,_),(2,_),(0,_),(1,_)]) ⟨rfl,rfl,rfl,rfl,rfl,rfl,rfl,rfl,rfl,rfl,rfl,rfl,rfl,rfl,trivial⟩<|ak (X' :=[_,_,_,_,_]) (S' :=[_]) (fun _ m=>m)<|aQ<| ?_
      exact lA (l9 l i q,i-q) (by show fU l i (u1,u2) q=_;unfold fU;rw[if_neg (by omega),if_pos (by show u1<_;omega)]) [1,0,0,0,0] rfl [0] rfl
     ·refine o7<|aQ<| ?_
      exact lA (u1,u2) (by show fU l i (u1,u2) q=_;unfold fU;rw[if_neg (by omega),if_neg (by show¬u1<_;omega)]) [0,0,0,0,0] rfl [0] rfl
   ·obtain⟨u1,u2⟩:=s_
    have ai:=qq e0 (by omega) hlt hs_
    have hu1:u1=(a7 l i).1:=congrArg Prod.fst ai
    have hu2:u2=(a7 l i).2:=congrArg Prod.snd ai
    refine ag<|ah<|c5 [] [(0,some 0),(1,some 0),(2,some 0),(3,some 0)] (by kernel_rfl) (by kernel_rfl) rfl 99<|cr (fun m=>ay rfl fS (aE (m.a6 1 rfl) rfl))<|cr (fun m=>ay rfl fS (aE (m.a6 2 rfl) rfl))<|an (ab rfl)<|an (ab rfl)<|bD<|al (ρ' :=[(5,_),(4,_),(37,_),(7,_),(6,_),(18,_),(3,_),(2,_),(0,_),(1,_)]) ⟨rfl,rfl,rfl,rfl,rfl,rfl,rfl,rfl,rfl,rfl,trivial⟩<|ag<|aX<| ?_
    refine FJ trivial [0] rfl ?_
    refine ak (X' :=fJ (fW es1)::_) (fun w m=>(Mem.sR (m.perm (au [5,5] _ [_,_] _ rfl))).mz (Fh hj1)) ?_
    refine ak (X' :=nM g gm (some a) n c i es1::_) (fun w m=>(m.perm (au [5,6,0] _ [_,_,_] _ rfl)).pack) ?_
    exact vn trivial rfl rfl rfl [0] rfl [] rfl ⟨i,es1,(by rw[←hu1,←hu2]),rfl,rfl,⟨Nat.le_refl _,hF1⟩⟩
end Go.Proofs.YtmibdabdlgmafaaGreatDoor
end
section
namespace Go.Eng
open Go.RowKit
theorem sy{P:Program}{Q:Exit→Act→World→Prop}{ι:Type}{c rest:Code}(l:Nat)(J:ι→Act→World→Prop)(μ:ι→Nat)(hf:findLabel c l=some rest){a:Act}{w:World}
  (first:c.wp P (Exit.jump l (fun a w=>∃j,J j a w) Q) a w)
  (pass:∀i a w,J i a w→rest.wp P (Exit.jump l (fun a' w' =>∃j,J j a' w' ∧μ j<μ i) Q) a w):(Code.scope c).wp P Q a w:=by
 intro b k cs
 have hg:gotoIn l (.inScope c::k)=some (.code rest:: .inScope c::k):=by simp[gotoIn,hf]
 have key:∀n i a w,μ i=n→J i a w→∃e a' w',Q e a' w' ∧Arrives P (lone (b.at a (.code rest:: .inScope c::k)) cs w) b k cs e a' w' :=by
  intro n
  induction n using Nat.strongRecOn with
  |_ n ih=>
   intro i a w hn hJ
   obtain⟨e,a₁,w₁,hq,harr⟩:=pass i a w hJ b (.inScope c::k) cs
   cases e with
   |normal=>exact⟨.normal,a₁,w₁,hq,Steps.trans harr (.one step_inScope)⟩
   |exit id=>exact⟨.exit id,a₁,w₁,hq,fun k' hk=>harr k' (by simp[exitTo,hk])⟩
   |goto l' =>
    obtain⟨rfl,j,hJ',hlt⟩:=hq
    obtain⟨e₂,a₂,w₂,hq₂,harr₂⟩:=ih _ (by omega) j a₁ w₁ rfl hJ'
    exact⟨e₂,a₂,w₂,hq₂,.of_steps (harr _ hg) harr₂⟩
   |ret=>exact⟨_,a₁,w₁,hq,harr⟩
   |panic ch=>exact⟨_,a₁,w₁,hq,harr⟩
   |outgrown=>exact⟨_,a₁,w₁,hq,harr⟩
 obtain⟨e,a₁,w₁,hq,harr⟩:=first b (.inScope c::k) cs
 cases e with
 |normal=>exact⟨.normal,a₁,w₁,hq,.head step_scope (Steps.trans harr (.one step_inScope))⟩
 |exit id=>exact⟨.exit id,a₁,w₁,hq,fun k' hk=>.head step_scope (harr k' (by simp[exitTo,hk]))⟩
 |goto l' =>
  obtain⟨rfl,j,hJ'⟩:=hq
  obtain⟨e₂,a₂,w₂,hq₂,harr₂⟩:=key _ j a₁ w₁ rfl hJ'
  exact⟨e₂,a₂,w₂,hq₂,.of_steps (.head step_scope (harr _ hg)) harr₂⟩
 |ret=>exact⟨_,a₁,w₁,hq,.of_steps (.one step_scope) harr⟩
 |panic ch=>exact⟨_,a₁,w₁,hq,.of_steps (.one step_scope) harr⟩
 |outgrown=>exact⟨_,a₁,w₁,hq,.of_steps (.one step_scope) harr⟩
section
variable{P:Program}{Q:Exit→Act→World→Prop}{N:Nat}{D:List Deferred}{ρ:Env}{b:cK}{X S:List bn}{c:Code}
theorem DO{ι:Type}{l:Nat}{rest:Code}(μ:ι→Nat)(R:ι→Env)(X1 S1:ι→List bn)(I:ι→Prop)(ρk:Env)(Xr Sr:List bn)(hf:findLabel c l=some rest)
  (first:HC P (Exit.jump l (fun a' w' =>∃j,Ag N D (R j++ρk) a' ∧Mem b (X1 j++Xr) (S1 j++Sr) w' ∧I j) Q) N D c ρ b X S)
  (pass:∀i,I i→HC P (Exit.jump l (fun a' w' =>∃j,Ag N D (R j++ρk) a' ∧Mem b (X1 j++Xr) (S1 j++Sr) w' ∧I j∧μ j<μ i) Q) N D rest (R i++ρk) b (X1 i++Xr) (S1 i++Sr)):HC P Q N D (.scope c) ρ b X S:=fun w m a ha=>
 sy l (fun j a' w' =>Ag N D (R j++ρk) a' ∧Mem b (X1 j++Xr) (S1 j++Sr) w' ∧I j) μ hf (first w m a ha)
  (fun i a' w' h=>Code.wp_mono (fun e a' w' q=>by
   cases e <;> first|exact q|(obtain⟨h0,j,h1,h2,h3,h4⟩:=q;exact⟨h0,j,⟨h1,h2,h3⟩,h4⟩)) (pass i h.2.2 w' h.2.1 a' h.1))
theorem y8{l:Nat}(h:HQ Q N D (.goto l) ρ b X S):HC P Q N D (.goto l) ρ b X S:=fun w m a ha=>wp_goto (h w m a ha)
theorem uU{K:Act→World→Prop}{l:Nat}(h:HQ Q N D (.goto l) ρ b X S):HQ (Exit.then K Q) N D (.goto l) ρ b X S:=h
theorem xy{l:Nat}{J:Act→World→Prop}(h:HQ Q N D .ret ρ b X S):HQ (Exit.jump l J Q) N D .ret ρ b X S:=h
theorem DT{l:Nat}{J:Act→World→Prop}{r:Code}(h:HQ (Exit.jump l J Q) N D (.goto l) ρ b X S)(k:∀a w,J a w→r.wp P (Exit.jump l J Q) a w):HC P (Exit.jump l J Q) N D (.seq (.label l) r) ρ b X S:=fun w m a ha=>wp_seq (wp_label (k a w (h w m a ha).2))
theorem CD{α:Type}{l:Nat}{rest:Code}(μ:α→Nat)(R:α→Env)(X1 S1:α→List bn)(I:α→Prop)(ρk:Env)(Xr Sr:List bn)(hf:findLabel c l=some rest)
  (first:HC P (Exit.jump l (fun a' w' =>∃x,Ag N D (R x++ρk) a' ∧Mem b (X1 x++Xr) (S1 x++Sr) w' ∧I x) Q) N D c ρ b X S)
  (pass:∀a,I a→HC P (Exit.jump l (fun a' w' =>∃x,Ag N D (R x++ρk) a' ∧Mem b (X1 x++Xr) (S1 x++Sr) w' ∧I x∧μ x<μ a) Q) N D rest (R a++ρk) b (X1 a++Xr) (S1 a++Sr)):HC P Q N D (.scope c) ρ b X S:=
 DO (ι:=α) (fun i=>μ i) (fun i=>R i) (fun i=>X1 i) (fun i=>S1 i) (fun i=>I i) ρk Xr Sr hf
  (fun w m a ha=>Code.wp_mono (fun e a' w' q=>by
   cases e <;> first|exact q|(obtain⟨h0,x,h⟩:=q;exact⟨h0,x,h⟩)) (first w m a ha))
  (fun i hi w m a ha=>Code.wp_mono (fun e a' w' q=>by
   cases e <;> first|exact q|(obtain⟨h0,x,h⟩:=q;exact⟨h0,x,h⟩)) (pass i hi w m a ha))
theorem Ae{α:Type}{l:Nat}{r:Code}(μ:α→Nat)(R:α→Env)(X1 S1:α→List bn)(I:α→Prop)(ρk:Env)(hk:fe ρk ρ)(is:List Nat){Xt Xr:List bn}(hX:bW is X=some (Xt,Xr))(hf:findLabel c l=some (.seq .skip r))
  (pass:∀a,I a→HC P (Exit.jump l (fun a' w' =>∃x,Ag N D (R x++ρk) a' ∧Mem b (X1 x++Xr) (S1 x++S) w' ∧I x∧μ x<μ a) Q) N D r (R a++ρk) b (X1 a++Xr) (S1 a++S))
  (first:(∀a w,(∃x,Ag N D (R x++ρk) a∧Mem b (X1 x++Xr) (S1 x++S) w∧I x)→r.wp P (Exit.jump l (fun a' w' =>∃x,Ag N D (R x++ρk) a' ∧Mem b (X1 x++Xr) (S1 x++S) w' ∧I x) Q) a w)→
   HC P (Exit.jump l (fun a' w' =>∃x,Ag N D (R x++ρk) a' ∧Mem b (X1 x++Xr) (S1 x++S) w' ∧I x) Q) N D c ρ b X S):HC P Q N D (.scope c) ρ b X S:=
 CD (l:=l) (rest:=.seq .skip r) μ R X1 S1 I ρk Xr S hf
  (first fun a w h=>by
   obtain⟨x,h1,h2,h3⟩:=h
   exact Code.wp_mono (fun e a' w' q=>by
    cases e <;> first|exact q|(obtain⟨h0,x_,g1,g2,g3,g4⟩:=q;exact⟨h0,x_,g1,g2,g3⟩)) (pass x h3 w h2 a h1))
  (fun a h=>fun w m a9 ha=>wp_seq (wp_skip (pass a h w m a9 ha)))
theorem zr{α:Type}{l M:Nat}{μ:α→Nat}{R:α→Env}{X1 S1:α→List bn}{Xr Sr:List bn}{ρ0:Env}{I:α→Prop}(x:α)(hs:fe (R x++ρ0) ρ)(is:List Nat){Xz:List bn}(hX:bW is X=some (X1 x++Xr,Xz))(js:List Nat)(hS:dT js S=some (S1 x++Sr))(hI:I x)(hlt:μ x<M):
  HQ (Exit.jump l (fun a' w' =>∃x,Ag N D (R x++ρ0) a' ∧Mem b (X1 x++Xr) (S1 x++Sr) w' ∧I x∧μ x<M) Q) N D (.goto l) ρ b X S:=
 fun w m a ha=>⟨rfl,x,ha.sub hs.sub,((m.perm (au _ _ _ _ hX)).kQ).mh (cx _ _ _ hS),hI,hlt⟩
theorem EV{α:Type}{l:Nat}{R:α→Env}{X1 S1:α→List bn}{Xr Sr:List bn}{ρ0:Env}{I:α→Prop}(x:α)(hs:fe (R x++ρ0) ρ)(is:List Nat){Xz:List bn}(hX:bW is X=some (X1 x++Xr,Xz))(js:List Nat)(hS:dT js S=some (S1 x++Sr))(hI:I x):
  HQ (Exit.jump l (fun a' w' =>∃x,Ag N D (R x++ρ0) a' ∧Mem b (X1 x++Xr) (S1 x++Sr) w' ∧I x) Q) N D (.goto l) ρ b X S:=
 fun w m a ha=>⟨rfl,x,ha.sub hs.sub,((m.perm (au _ _ _ _ hX)).kQ).mh (cx _ _ _ hS),hI⟩
end
end Go.Eng
end
section
set_option maxRecDepth 20000
set_option maxHeartbeats 2000000
namespace Go.Proofs.YtmibdabdlgmafaaGreatDoor
open Go.Eng Go.Hx
theorem GL{g0 g1:Nat}{A1 A2:Option Addr}{c1 c2:Nat}{own out:List UInt8}(hlen:out.length+2*own.length≤4000000000):ck Tryz.prog 230 [.pointer (some ⟨g0,0,none⟩),.pointer (some ⟨g1,0,none⟩)] [aL g0 27 [.slice A1 own.length c1],aG 5 1 (.slice A1 own.length c1) own.length (aV own),aL g1 27 [.slice A2 out.length c2],aG 5 1 (.slice A2 out.length c2) out.length (aV out)] [] (fun v_ X_ S_=>∃A3 A4 c3 c4,v_=(.tuple #[])∧X_=[aL g0 27 [.slice A3 0 c3],aG 5 1 (.slice A3 0 c3) 0 [],aL g1 27 [.slice A4 (out++eG own).length c4],aG 5 1 (.slice A4 (out++eG own).length c4) (out++eG own).length (aV (out++eG own))]∧S_=[]):=by
 obtain⟨o0,ho0⟩:∃o0,o0=out++eG own:=⟨_,rfl⟩
 rw[←ho0]
 refine aP (N:=22) Tryz.func230 rfl rfl (by simp) fun b=> ?_
 refine aI<| ?_
 refine nP (fun own out A1 c1 A2 c2=>own.length) (fun own out A1 c1 A2 c2=>[]) (fun own out A1 c1 A2 c2=>[aL g0 27 [.slice A1 own.length c1],aG 5 1 (.slice A1 own.length c1) own.length (aV own),aL g1 27 [.slice A2 out.length c2],aG 5 1 (.slice A2 out.length c2) out.length (aV out)]) (fun own out A1 c1 A2 c2=>[]) (fun own out A1 c1 A2 c2=>out.length+2*own.length≤4000000000∧out++eG own=o0) own out A1 c1 A2 c2 [(0,_),(1,_)] ⟨rfl,rfl,trivial⟩ [0,0,0,0] rfl [] rfl (⟨hlen,ho0.symm⟩) trivial (fun own out A1 c1 A2 c2 ⟨hlen,hE⟩=> ?_)
 refine ah<|ah<|aj<|hy (fun m=>ay rfl ek (aE (m.a6 0 rfl) rfl))<|hy (fun _=>aS rfl Tryz.underlying27)<|hy (fun _=>da rfl rfl)<|ai<|al (ρ' :=[(5,_),(0,_),(1,_)]) ⟨rfl,rfl,rfl,trivial⟩<|ag<| ?_
 refine cD rfl (fun h0=> ?_) (fun h0=> ?_)
 ·have hne:own≠ []:=fun e=>by rw[e]at h0;exact absurd h0 (by decide)
  rw[ln hne]at hE
  obtain⟨k,hk⟩:∃k,k=min own.length 128:=⟨_,rfl⟩
  have hk1:1≤k∧k≤128∧k≤own.length:=by omega
  rw[←hk]at hE
  have htk:own.take 128=own.take k:=by
   rcases Nat.lt_or_ge own.length 128 with h|h
   ·rw[List.take_of_length_le (by omega),List.take_of_length_le (by omega)]
   ·rw[show k=128 by omega]
  have hdk:own.drop 128=own.drop k:=by
   rcases Nat.lt_or_ge own.length 128 with h|h
   ·rw[List.drop_of_length_le (by omega),List.drop_of_length_le (by omega)]
   ·rw[show k=128 by omega]
  rw[htk,hdk]at hE
  refine aY (fun m=>(Own.rd (m.own 1 rfl)).2.1) fun hc1=> ?_
  refine aD<|ag<|aI<|ah<|aj<|hy (fun m=>ay rfl ek (aE (m.a6 0 rfl) rfl))<|hy (fun _=>aS rfl Tryz.underlying27)<|hy (fun _=>yV (uB rfl rfl) ((show Value.int .i64 _= .int .i64 (k:Nat) by congr 1;omega)))<|hy (fun _=>ab rfl)<|ai<|al (ρ' :=[(2,_),(5,_),(0,_),(1,_)]) ⟨rfl,rfl,rfl,rfl,trivial⟩<|ag<|ah<|qm [0,0,0] [] rfl rfl [4,5,9,10] [(0,some 1),(1,some 3),(2,some 0),(3,some 0),(6,some 2),(7,some 2),(8,some 2),(4,none),(5,none),(9,none),(10,none)] (by kernel_rfl) (by kernel_rfl) rfl 3<|cr (fun m=>ay rfl ek (aE (m.a6 2 rfl) rfl))<|an (aa rfl)<|an (yV (cn rfl rfl (bG (by omega) (by omega))) ((show Value.int .i64 ((k:Int)-1)= .int .i64 ((k-1:Nat):Int) by congr 1;omega)))<|an (yV (bX rfl Tryz.underlying3 Tryz.underlying5 (gX (k-1))) ((show Value.int .u8 _=B8 (UInt8.ofNat (k-1))from rfl)))<|cr (fun m=>ay rfl ek (aE (m.a6 0 rfl) rfl))<|an (aa rfl)<|an (kZ rfl rfl Tryz.underlying27 ea rfl (by omega))<| ?_
  refine ew (b5 Tryz.underlying27 fa rfl rfl rfl (by simp[Value.cells,B8]) (by decide) (by decide) (fun g13=>⟨(fun _=>wk [1,1,1] [] rfl rfl), ?_⟩))
  have hA_b13:0<1→(some (⟨g13,0,none⟩:Addr))≠none:=fun _ h=>by cases h
  refine ew (bu 4 rfl rfl rfl Tryz.underlying27 Tryz.underlying27 (by exact .inl rfl) fa rfl (fun m=>Src.bP (m.ord 0 rfl)) (aZ (l:=[UInt8.ofNat (k-1)])) (by unfold maxLen;omega) (by omega) (fun u=>⟨(fun _=>wk [2,2,2] [] rfl rfl), ?_⟩))
  refine cA (fun m=>(m.own 0 rfl).slice) ?_
  rintro⟨A_y,c_y,rfl,hc_y⟩
  refine cA (fun m=>(m.ord 0 rfl).2.1) fun hA_y=> ?_
  refine ew (bu 0 rfl rfl rfl Tryz.underlying27 Tryz.underlying27 (by exact .inl rfl) fa rfl (fun m=>Src.bP (Rd.Dr (m.ord 3 rfl) hk1.2.2)) aZ (by unfold maxLen;omega) (by omega) (fun u2=>⟨(fun _=>wk [2,2,2] [] rfl rfl), ?_⟩))
  refine cA (fun m=>(m.own 0 rfl).slice) ?_
  rintro⟨A_y2,c_y2,rfl,hc_y⟩
  refine cA (fun m=>(m.ord 0 rfl).2.1) fun hA_y=> ?_
  refine kE (dV 4 rfl rfl rfl p9 rfl (by first|exact Nat.le_of_ble_eq_true rfl|simp) ⟨(fun h=>absurd h (by decide)), ?_⟩)
  refine bD<|al (ρ' :=[(2,_),(5,_),(0,_),(1,_)]) ⟨rfl,rfl,rfl,rfl,trivial⟩<|ak (X' :=[_,_,_,_,_]) (S' :=[]) (fun _ m=>m)<|ag<|aj<|hy (fun m=>ay rfl ek (aE (m.a6 3 rfl) rfl))<|hy (fun _=>aa rfl)<|hy (fun _=>dM rfl rfl Tryz.underlying27 ea rfl (by omega))<| ?_
  refine cL (dV 3 rfl rfl rfl p9 rfl (by first|exact Nat.le_of_ble_eq_true rfl|simp) ?_)
  refine ai<|al (ρ' :=[(2,_),(5,_),(0,_),(1,_)]) ⟨rfl,rfl,rfl,rfl,trivial⟩<|ak (X' :=[_,_,_,_,_]) (S' :=[]) (fun _ m=>m)<|aQ<| ?_
  refine ak (X' :=aG 5 1 (.slice (if c1=k then A1 else A1.map (·.add (k*1))) (own.length-k) (c1-k)) (own.length-k) ((aV own).drop (k*1))::_) (fun w m=>(m.perm (au [4] _ [_] _ rfl)).wO (View.sj hk1.2.2 hc1)) ?_
  have hdl:own.length-k=(own.drop k).length:=by rw[List.length_drop]
  have hol:out.length+1+k=(out++(UInt8.ofNat (k-1)::own.take k)).length:=by simp;omega
  rw[hdl,hol]
  refine ak (fun w m=>m.bQ 0 rfl (show _=aG 5 1 (.slice (if c1=k then A1 else A1.map (·.add (k*1))) (own.drop k).length (c1-k)) (own.drop k).length (aV (own.drop k))from congrArg (aG _ _ _ _) (by rw[Nat.mul_one,qa]))) ?_
  refine ak (fun w m=>m.bQ 3 rfl (show _=aG 5 1 (.slice A_y2 (out++(UInt8.ofNat (k-1)::own.take k)).length c_y2) (out++(UInt8.ofNat (k-1)::own.take k)).length (aV (out++(UInt8.ofNat (k-1)::own.take k)))from congrArg (aG _ _ _ _) (show aV out++aV [UInt8.ofNat (k-1)]++aV (own.take k)=_ by rw[←bH,←bH,List.append_assoc];rfl))) ?_
  refine gg (own.drop k) (out++(UInt8.ofNat (k-1)::own.take k)) _ _ _ _ ⟨rfl,rfl,trivial⟩ [2,1,1,0] rfl [] rfl (⟨by rw[←hdl,←hol];omega,by rw[←hE];simp⟩) (by rw[←hdl];omega)
 ·have hne:own=[]:=List.eq_nil_of_length_eq_zero (by omega)
  rw[hne,nv,List.append_nil]at hE
  subst hne
  subst hE
  refine bJ<|ao<|ao<|aB<| ?_
  exact fO trivial rfl [0,0,0,0] rfl [] rfl ⟨_,_,_,_,rfl,rfl,rfl⟩
structure B2 where
 g:Nat
 gm:Nat
 g4:Nat
 g5:Nat
 i:Nat
 p:Nat
 c1:Nat
 c2:Nat
 A1:Option Addr
 A2:Option Addr
 own:List UInt8
 out:List UInt8
 es:uY
theorem Fp{A:Option Addr}{n c:Nat}{l:List UInt8}(hc:n≤c)(hn:n≤500000000)(hl:l.length=n):ck Tryz.prog 178 [.slice A n c] [] [dr 1 A n (aV l)] (fun v_ X_ S_=>∃v,v_=v∧X_=[aG 5 1 v (eN l).length (aV (eN l))]∧S_=[]):=by
 refine aP (N:=56) Tryz.func178 rfl rfl (by simp) fun b=> ?_
 refine aY (fun m=>gY (m.rd 0 rfl)) ?_
 rintro⟨hl_r,hA_r⟩
 refine ah<|aj<|hy (fun _=>ab rfl)<|ai<|ag<| ?_
 refine Ae (l:=0) (fun(t:B2)=>n-t.i) (fun(t:B2)=>[(7,.int .i64 (t.i:Nat)),(3,.pointer (some ⟨t.g,0,none⟩)),(4,.pointer (some ⟨t.g4,0,none⟩)),(5,.pointer (some ⟨t.g5,0,none⟩)),(6,.func (.func 230) #[] #[.pointer (some ⟨t.g5,0,none⟩),.pointer (some ⟨t.g4,0,none⟩)])]) (fun(t:B2)=>[nM t.g t.gm A n c t.p t.es,aL t.g5 27 [.slice t.A1 t.own.length t.c1],aG 5 1 (.slice t.A1 t.own.length t.c1) t.own.length (aV t.own),aL t.g4 27 [.slice t.A2 t.out.length t.c2],aG 5 1 (.slice t.A2 t.out.length t.c2) t.out.length (aV t.out)]) (fun(t:B2)=>[]) (fun(t:B2)=>t.i≤n∧t.p≤t.i∧yw l t.p t.es∧t.out.length+2*t.own.length≤2*t.i∧gJ l t.i t.own t.out=eN l) [(0,_)] ⟨rfl,trivial⟩ [] rfl rfl (fun t ⟨hin,hpi,hF,hlen,hE⟩=> ?_) (fun hfall_=> ?_)
 ·obtain⟨g,gm,g4,g5,i,p,c1,c2,A1,A2,own,out,es⟩:=t
  dsimp only at hin hpi hF hlen hE ⊢
  refine ah<|ah<|aj<|hy (fun _=>aa rfl)<|hy (fun _=>aa rfl)<|hy (fun _=>aS rfl Tryz.underlying27)<|hy (fun _=>cJ rfl rfl)<|ai<|al (ρ' :=[(16,_),(7,_),(3,_),(4,_),(5,_),(6,_),(0,_)]) ⟨rfl,rfl,rfl,rfl,rfl,rfl,rfl,trivial⟩<|ag<| ?_
  refine AH rfl (fun hfin=> ?_) (fun hfin=> ?_)
  ·have hi:i=n:=by have:=of_decide_eq_true hfin;omega
   rw[lv (by omega)]at hE
   refine ah<|aj<|hy (fun _=>aa rfl)<| ?_
   refine hx (qg rfl rfl Tryz.call230 (GL (by omega)) [1,1,1,1] rfl [] rfl ?_)
   rintro _ _ _ ⟨A3,A4,c3,c4,rfl,rfl,rfl⟩
   rw[hE]
   refine ai<|al (ρ' :=[(16,_),(7,_),(3,_),(4,_),(5,_),(6,_),(0,_)]) ⟨rfl,rfl,rfl,rfl,rfl,rfl,rfl,trivial⟩<|ak (X' :=[_,_,_,_,_]) (S' :=[_]) (fun _ m=>m)<|ag<|ah<|aj<|hy (fun m=>ay rfl ek (aE (m.a6 2 rfl) rfl))<|hy (fun _=>ab rfl)<|ai<|al (ρ' :=[(2,_),(16,_),(7,_),(3,_),(4,_),(5,_),(6,_),(0,_)]) ⟨rfl,rfl,rfl,rfl,rfl,rfl,rfl,rfl,trivial⟩<|ag<|aX<|aw<|xy<| ?_
   exact bg trivial rfl rfl [3] rfl [] rfl ⟨_,rfl,rfl,rfl⟩
  ·have hi:i<n:=by have:=of_decide_eq_false hfin;omega
   refine aD<|ag<|ah<|aj<|hy (fun _=>aa rfl)<|hy (fun _=>aa rfl)<| ?_
   refine hx (aq rfl Tryz.call231 (EY (by omega) (by omega) hl (by omega) (by omega) hF) [0] rfl [0] rfl ?_)
   rintro _ _ _ ⟨p1,es1,rfl,rfl,rfl,hp⟩
   obtain⟨hp1,hF1⟩:=hp
   refine hy (fun _=>aa rfl)<|hy (fun _=>ar rfl rfl)<|hy (fun _=>ar rfl rfl)<|hy (fun _=>ab rfl)<|hy (fun _=>ab rfl)<|ai<|al (ρ' :=[(9,_),(8,_),(16,_),(7,_),(3,_),(4,_),(5,_),(6,_),(0,_)]) ⟨rfl,rfl,rfl,rfl,rfl,rfl,rfl,rfl,rfl,trivial⟩<|ak (X' :=[_,_,_,_,_]) (S' :=[_]) (fun _ m=>m)<|ag<|ah<|ah<|aj<|hy (fun _=>aa rfl)<|hy (fun _=>cJ rfl rfl)<|ai<|al (ρ' :=[(27,_),(9,_),(8,_),(16,_),(7,_),(3,_),(4,_),(5,_),(6,_),(0,_)]) ⟨rfl,rfl,rfl,rfl,rfl,rfl,rfl,rfl,rfl,rfl,trivial⟩<|ag<| ?_
   refine cD rfl (fun h0=> ?_) (fun h0=> ?_)
   ·rw[lH (by omega) (by omega)]at hE
    refine ah<|qm [0,0,1,1] [0] rfl rfl [5,6,7] [(0,some 1),(1,some 0),(2,some 0),(3,some 0),(4,some 0),(5,none),(6,none),(7,none)] (by kernel_rfl) (by kernel_rfl) rfl 2<|cr (fun m=>ay rfl ek (aE (m.a6 1 rfl) rfl))<|an (aa rfl)<|an (aa rfl)<|an (aT rfl rfl Tryz.underlying27 ea hA_r rfl (by omega))<|cr (fun m=>ay rfl iX ((m.rd 0 rfl).cell (bL (by omega))))<| ?_
    refine ew (b5 Tryz.underlying27 fa rfl rfl rfl (by simp[Value.cells,B8]) (by decide) (by decide) (fun g33=>⟨(fun _=>wk [1,1,2,2] [0] rfl rfl), ?_⟩))
    have hA_b33:0<1→(some (⟨g33,0,none⟩:Addr))≠none:=fun _ h=>by cases h
    refine gP (fun w m=>m.bQ 0 rfl (show _=aG 5 1 (.slice (some ⟨g33,0,none⟩) 1 1) 1 (aV [l.getD i 0])from rfl)) ?_
    refine ew (bu 3 rfl rfl rfl Tryz.underlying27 Tryz.underlying27 (by exact .inl rfl) fa rfl (fun m=>Src.bP (m.ord 0 rfl)) aZ (by unfold maxLen;omega) (by omega) (fun u=>⟨(fun _=>wk [2,2,2,2] [0] rfl rfl), ?_⟩))
    refine cA (fun m=>(m.own 0 rfl).slice) ?_
    rintro⟨A_x,c_x,rfl,hc_x⟩
    refine cA (fun m=>(m.ord 0 rfl).2.1) fun hA_x=> ?_
    refine kE (dV 3 rfl rfl rfl p9 rfl (by first|exact Nat.le_of_ble_eq_true rfl|simp) ⟨(fun h=>absurd h (by decide)), ?_⟩)
    refine bD<|al (ρ' :=[(27,_),(9,_),(8,_),(16,_),(7,_),(3,_),(4,_),(5,_),(6,_),(0,_)]) ⟨rfl,rfl,rfl,rfl,rfl,rfl,rfl,rfl,rfl,rfl,trivial⟩<|ak (X' :=[_,_,_,_,_,_]) (S' :=[_]) (fun _ m=>m)<|ag<|ah<|aj<|hy (fun _=>aa rfl)<|hy (fun _=>aM rfl rfl (bG (by omega) (by omega)))<|hy (fun _=>ab rfl)<|ai<|al (ρ' :=[(7,_),(27,_),(9,_),(8,_),(16,_),(3,_),(4,_),(5,_),(6,_),(0,_)]) ⟨rfl,rfl,rfl,rfl,rfl,rfl,rfl,rfl,rfl,rfl,trivial⟩<|ag<|y8<|uU<| ?_
    have hol:own.length+1=(own++[l.getD i 0]).length:=by simp
    rw[hol]
    refine ak (fun w m=>m.bQ 1 rfl (show _=aG 5 1 (.slice A_x (own++[l.getD i 0]).length c_x) (own++[l.getD i 0]).length (aV (own++[l.getD i 0]))from congrArg (aG _ _ _ _) (bH _ _).symm)) ?_
    exact zr (⟨g,gm,g4,g5,i+1,p1,c_x,c2,A_x,A2,own++[l.getD i 0],out,es1⟩) ⟨rfl,rfl,rfl,rfl,rfl,rfl,trivial⟩ [3,1,0,1,1] rfl [0] rfl (⟨hi,Nat.le_succ_of_le hp1,hF1,by show out.length+2*(own++[l.getD i 0]).length≤2*(i+1);rw[←hol];omega,hE⟩) (by show n-(i+1)<n-i;omega)
   ·have hm:=lI (b:=l) (i:=i) (by omega)
    rw[je (by omega) (by omega)]at hE
    obtain⟨m1,m2,m3,m4,m5,m6⟩:=hm.resolve_left (fun e=>h0 (by rw[e];rfl))
    refine aD<|ag<|ah<|aj<|hy (fun _=>aa rfl)<| ?_
    refine hx (qg rfl rfl Tryz.call230 (GL (by omega)) [1,1,1,1] rfl [] rfl ?_)
    rintro _ _ _ ⟨A3,A4,c3,c4,rfl,rfl,rfl⟩
    refine ai<|al (ρ' :=[(27,_),(9,_),(8,_),(16,_),(7,_),(3,_),(4,_),(5,_),(6,_),(0,_)]) ⟨rfl,rfl,rfl,rfl,rfl,rfl,rfl,rfl,rfl,rfl,trivial⟩<|ak (X' :=[_,_,_,_,_]) (S' :=[_]) (fun _ m=>m)<|ag<|ah<|aj<|hy (fun m=>ay rfl ek (aE (m.a6 2 rfl) rfl))<|hy (fun _=>aa rfl)<|hy (fun _=>aM rfl rfl (bG (by omega) (by omega)))<|hy (fun _=>yV (cn rfl rfl (bG (by omega) (by omega))) ((show Value.int .i64 (128+((a7 l i).1:Int)-4)= .int .i64 ((124+(a7 l i).1:Nat):Int) by congr 1;omega)))<|hy (fun _=>yV (bX rfl Tryz.underlying3 Tryz.underlying5 (gX _)) ((show Value.int .u8 _=B8 (UInt8.ofNat (124+(a7 l i).1))from rfl)))<|hy (fun _=>aa rfl)<|hy (fun _=>yV (cn rfl rfl (bG (by omega) (by omega))) ((show Value.int .i64 (((a7 l i).2:Int)-1)= .int .i64 (((a7 l i).2-1:Nat):Int) by congr 1;omega)))<|hy (fun _=>yV (bX rfl Tryz.underlying3 Tryz.underlying5 (gX _)) ((show Value.int .u8 _=B8 (UInt8.ofNat ((a7 l i).2-1))from rfl)))<|hy (fun _=>aa rfl)<|hy (fun _=>yV (cn rfl rfl (bG (by omega) (by omega))) ((show Value.int .i64 (((a7 l i).2:Int)-1)= .int .i64 (((a7 l i).2-1:Nat):Int) by congr 1;omega)))<|hy (fun _=>yV (oq (p:=256) rfl rfl (by decide) (by decide) (by decide)) ((show Value.int .i64 ((((a7 l i).2-1:Nat):Int)/256)= .int .i64 ((((a7 l i).2-1)/256:Nat):Int) by congr 1)))<|hy (fun _=>yV (bX rfl Tryz.underlying3 Tryz.underlying5 (gX _)) ((show Value.int .u8 _=B8 (UInt8.ofNat (((a7 l i).2-1)/256))from rfl)))<| ?_
    refine hx (b5 Tryz.underlying27 fa rfl rfl rfl (by simp[Value.cells,B8]) (by decide) (by decide) (fun g51=> ?_))
    have hA_b51:0<3→(some (⟨g51,0,none⟩:Addr))≠none:=fun _ h=>by cases h
    refine aO (fun w m=>m.bQ 0 rfl (show _=aG 5 1 (.slice (some ⟨g51,0,none⟩) 3 3) 3 (aV (gh (a7 l i)))from rfl)) ?_
    have hll:=fF own
    have hlo:(out++eG own).length=out.length+(eG own).length:=by simp
    refine hx (bu 4 rfl rfl rfl Tryz.underlying27 Tryz.underlying27 (by exact .inl rfl) fa rfl (fun m=>Src.bP (m.ord 0 rfl)) aZ (by unfold maxLen;omega) (by omega) (fun u=> ?_))
    refine aA (fun m=>(m.own 0 rfl).slice) ?_
    rintro⟨A_y,c_y,rfl,hc_y⟩
    refine aA (fun m=>(m.ord 0 rfl).2.1) fun hA_y=> ?_
    refine cL (dV 4 rfl rfl rfl p9 rfl (by first|exact Nat.le_of_ble_eq_true rfl|simp) ?_)
    refine ai<|al (ρ' :=[(27,_),(9,_),(8,_),(16,_),(7,_),(3,_),(4,_),(5,_),(6,_),(0,_)]) ⟨rfl,rfl,rfl,rfl,rfl,rfl,rfl,rfl,rfl,rfl,trivial⟩<|ak (X' :=[_,_,_,_,_,_]) (S' :=[_]) (fun _ m=>m)<|ag<|ah<|aj<|hy (fun _=>aa rfl)<|hy (fun _=>aa rfl)<|hy (fun _=>yV (aM rfl rfl (bG (by omega) (by omega))) ((show Value.int .i64 ((i:Int)+((a7 l i).1:Int))= .int .i64 ((i+(a7 l i).1:Nat):Int) by congr 1)))<|hy (fun _=>ab rfl)<|ai<|al (ρ' :=[(7,_),(27,_),(9,_),(8,_),(16,_),(3,_),(4,_),(5,_),(6,_),(0,_)]) ⟨rfl,rfl,rfl,rfl,rfl,rfl,rfl,rfl,rfl,rfl,trivial⟩<|ag<|y8<| ?_
    have hol:(out++eG own).length+3=(out++eG own++gh (a7 l i)).length:=by simp[gh];omega
    rw[hol]
    refine ak (fun w m=>m.bQ 1 rfl (show _=aG 5 1 (.slice A_y (out++eG own++gh (a7 l i)).length c_y) (out++eG own++gh (a7 l i)).length (aV (out++eG own++gh (a7 l i)))from congrArg (aG _ _ _ _) (bH _ _).symm)) ?_
    exact zr (⟨g,gm,g4,g5,i+(a7 l i).1,p1,c3,c_y,A3,A_y,[],out++eG own++gh (a7 l i),es1⟩) ⟨rfl,rfl,rfl,rfl,rfl,rfl,trivial⟩ [5,3,3,1,0] rfl [0] rfl (⟨by show i+(a7 l i).1≤n;omega,by show p1≤i+(a7 l i).1;omega,hF1,by show(out++eG own++gh (a7 l i)).length+2*0≤2*(i+(a7 l i).1);rw[←hol];omega,hE⟩) (by show n-(i+(a7 l i).1)<n-i;omega)
 ·refine ah<|aj<|hy (fun _=>aa rfl)<| ?_
  refine hx (aq rfl Tryz.call229 (FF) [] rfl [] rfl ?_)
  rintro _ _ _ ⟨g,gm,rfl,rfl,rfl⟩
  refine hy (fun _=>ab rfl)<|ai<|al (ρ' :=[(3,_),(2,_),(0,_)]) ⟨rfl,rfl,rfl,trivial⟩<|ak (X' :=[_]) (S' :=[_]) (fun _ m=>m)<|ag<|ah<|aj<| ?_
  refine hx (aN tB (fun g4=> ?_))
  refine hx (aN tB (fun g5=> ?_))
  refine ai<|ak (X' :=[_,_,_]) (S' :=[_]) (fun _ m=>m)<|ag<|ah<|aj<|hy (fun _=>kD rfl rfl)<|hy (fun _=>ab rfl)<|ai<|al (ρ' :=[(6,_),(5,_),(4,_),(3,_),(2,_),(0,_)]) ⟨rfl,rfl,rfl,rfl,rfl,rfl,trivial⟩<|ag<|ah<|aj<|hy (fun _=>ab rfl)<|ai<|ag<| ?_
  refine bx (fun w m=>m.bQ 1 rfl (show _=aL g4 27 [.slice none 0 0]from rfl)) ?_
  refine bx (fun w m=>m.bQ 1 rfl (show _=aL g5 27 [.slice none 0 0]from rfl)) ?_
  refine bx (fun w m=>m.dm (r' :=aG 5 1 (.slice none 0 0) 0 []) (.refl _ _) (Own.nil _ _ _ _) (fun k hk=>hk.elim)) ?_
  refine bx (fun w m=>m.dm (r' :=aG 5 1 (.slice none 0 0) 0 []) (.refl _ _) (Own.nil _ _ _ _) (fun k hk=>hk.elim)) ?_
  exact DT (EV (R:=fun(t:B2)=>[(7,.int .i64 (t.i:Nat)),(3,.pointer (some ⟨t.g,0,none⟩)),(4,.pointer (some ⟨t.g4,0,none⟩)),(5,.pointer (some ⟨t.g5,0,none⟩)),(6,.func (.func 230) #[] #[.pointer (some ⟨t.g5,0,none⟩),.pointer (some ⟨t.g4,0,none⟩)])]) (X1:=fun(t:B2)=>[nM t.g t.gm A n c t.p t.es,aL t.g5 27 [.slice t.A1 t.own.length t.c1],aG 5 1 (.slice t.A1 t.own.length t.c1) t.own.length (aV t.own),aL t.g4 27 [.slice t.A2 t.out.length t.c2],aG 5 1 (.slice t.A2 t.out.length t.c2) t.out.length (aV t.out)]) (S1:=fun(t:B2)=>[]) (I:=fun(t:B2)=>t.i≤n∧t.p≤t.i∧yw l t.p t.es∧t.out.length+2*t.own.length≤2*t.i∧gJ l t.i t.own t.out=eN l) (⟨g,gm,g4,g5,0,0,0,0,none,none,[],[],[]⟩) ⟨rfl,rfl,rfl,rfl,rfl,rfl,trivial⟩ [4,2,1,1,0] rfl [0] rfl (⟨Nat.zero_le _,Nat.le_refl _,Cl _,Nat.le_refl _,rfl⟩)) hfall_
end Go.Proofs.YtmibdabdlgmafaaGreatDoor
end
section
set_option maxRecDepth 20000
set_option maxHeartbeats 2000000
namespace Go.Proofs.YtmibdabdlgmafaaGreatDoor
open Go.Eng Go.Hx
theorem o8{A:Option Addr}{n c:Nat}{l:List UInt8}(hn:n≤70368744177664):ck Tryz.prog 180 [.slice A n c] [] [dr 1 A n (aV l)] (fun v_ X_ S_=>v_=(.int .u32 (cZ l:Nat))∧X_=[]∧S_=[]):=by
 exact fP fun m=>Calls.mono (zu A n c l _ (m.rd 0 rfl) (by omega)) (fun e w' ⟨h,hf⟩=>⟨_,h,⟨rfl,rfl,rfl⟩,hf⟩)
theorem jG{k:Nat}(hk:k<4294967296):ck Tryz.prog 179 [.int .u32 (k:Nat)] [] [] (fun v_ X_ S_=>∃v,v_=v∧X_=[aG 5 1 v 4 (aV (gI k))]∧S_=[]):=by
 refine aP (N:=15) Tryz.func179 rfl rfl (by simp) fun b=> ?_
 refine ah<|aj<|hy (fun _=>ab rfl)<|ai<|ag<|ah<|aj<|hy (fun _=>aa rfl)<|hy (fun _=>yV (bX rfl Tryz.underlying166 Tryz.underlying5 (gX _)) ((show Value.int .u8 _=B8 (UInt8.ofNat k)from rfl)))<|hy (fun _=>aa rfl)<|hy (fun _=>yV (oq (p:=256) rfl rfl (by decide) (by decide) (by decide)) ((show Value.int .u32 ((k:Int)/256)= .int .u32 ((k/256:Nat):Int) by congr 1)))<|hy (fun _=>yV (bX rfl Tryz.underlying166 Tryz.underlying5 (gX _)) ((show Value.int .u8 _=B8 (UInt8.ofNat (k/256))from rfl)))<|hy (fun _=>aa rfl)<|hy (fun _=>yV (oq (p:=65536) rfl rfl (by decide) (by decide) (by decide)) ((show Value.int .u32 ((k:Int)/65536)= .int .u32 ((k/65536:Nat):Int) by congr 1)))<|hy (fun _=>yV (bX rfl Tryz.underlying166 Tryz.underlying5 (gX _)) ((show Value.int .u8 _=B8 (UInt8.ofNat (k/65536))from rfl)))<|hy (fun _=>aa rfl)<|hy (fun _=>yV (oq (p:=16777216) rfl rfl (by decide) (by decide) (by decide)) ((show Value.int .u32 ((k:Int)/16777216)= .int .u32 ((k/16777216:Nat):Int) by congr 1)))<|hy (fun _=>yV (bX rfl Tryz.underlying166 Tryz.underlying5 (gX _)) ((show Value.int .u8 _=B8 (UInt8.ofNat (k/16777216))from rfl)))<| ?_
 refine hx (b5 Tryz.underlying27 fa rfl rfl rfl (by simp[Value.cells,B8]) (by decide) (by decide) (fun g14=> ?_))
 have hA_b14:0<4→(some (⟨g14,0,none⟩:Addr))≠none:=fun _ h=>by cases h
 refine hy (fun _=>ab rfl)<|ai<|al (ρ' :=[(2,_),(0,_)]) ⟨rfl,rfl,trivial⟩<|ak (X' :=[_]) (S' :=[]) (fun _ m=>m)<|ag<|aX<| ?_
 refine ak (fun w m=>m.bQ 0 rfl (show _=aG 5 1 (.slice (some ⟨g14,0,none⟩) 4 4) 4 (aV (gI k))from rfl)) ?_
 exact bg trivial rfl rfl [0] rfl [] rfl ⟨_,rfl,rfl,rfl⟩
theorem Gt{A:Option Addr}{n c:Nat}{l:List UInt8}(hc:n≤c)(hn:n≤100000000)(hl:l.length=n):ck Tryz.prog 106 [.slice A n c] [] [dr 1 A n (aV l)] (fun v_ X_ S_=>∃v,v_=v∧X_=[aG 5 1 v (bK l).length (aV (bK l))]∧S_=[]):=by
 have hpl:=nw l
 have hlt:n<4294967296:=by omega
 have hcl:=jL l
 refine aP (N:=31) Tryz.func106 rfl rfl (by simp) fun b=> ?_
 refine aY (fun m=>gY (m.rd 0 rfl)) ?_
 rintro⟨hl_r,hA_r⟩
 refine ah<|aj<|hy (fun _=>ab rfl)<|ai<|ag<|ah<|aj<|hy (fun _=>aa rfl)<|hy (fun _=>ab rfl)<|hy (fun _=>ab rfl)<|ai<|al (ρ' :=[(4,_),(3,_),(2,_),(0,_)]) ⟨rfl,rfl,rfl,rfl,trivial⟩<|ag<|ah<|ah<|aj<|hy (fun _=>aa rfl)<| ?_
 refine hx (aq rfl Tryz.call178 (Fp (by omega) (by omega) (by omega)) [] rfl [0] rfl ?_)
 rintro _ _ _ ⟨v,rfl,rfl,rfl⟩
 refine aA (fun m=>(m.own 0 rfl).slice) ?_
 rintro⟨A_y,c_y,rfl,hc_y⟩
 refine aA (fun m=>(m.ord 0 rfl).2.1) fun hA_y=> ?_
 refine hy (fun _=>ab rfl)<|ai<|al (ρ' :=[(5,_),(4,_),(3,_),(2,_),(0,_)]) ⟨rfl,rfl,rfl,rfl,rfl,trivial⟩<|ak (X' :=[_]) (S' :=[_]) (fun _ m=>m)<|ag<|ah<|aj<|hy (fun _=>aa rfl)<|hy (fun _=>aS rfl Tryz.underlying27)<|hy (fun _=>aa rfl)<|hy (fun _=>aS rfl Tryz.underlying27)<|hy (fun _=>bq rfl rfl)<|ai<|al (ρ' :=[(14,_),(5,_),(4,_),(3,_),(2,_),(0,_)]) ⟨rfl,rfl,rfl,rfl,rfl,rfl,trivial⟩<|ag<| ?_
 refine cD rfl (fun hp=> ?_) (fun hp=> ?_)
 ·have hq:bK l=[76,1]++gI l.length++eN l++gI (cZ l):=by
   have:vg l=true:=by unfold vg;exact decide_eq_true (by omega)
   unfold bK iH
   rw[this];rfl
  refine aj<|hy (fun _=>aa rfl)<|hy (fun _=>ab rfl)<|hy (fun _=>ab rfl)<|ai<|al (ρ' :=[(4,_),(3,_),(14,_),(5,_),(2,_),(0,_)]) ⟨rfl,rfl,rfl,rfl,rfl,rfl,trivial⟩<|ag<|ah<|aj<|hy (fun _=>aa rfl)<| ?_
  refine hx (b5 Tryz.underlying27 fa rfl rfl rfl (by simp[Value.cells,B8]) (by decide) (by decide) (fun g17=> ?_))
  have hA_b17:0<2→(some (⟨g17,0,none⟩:Addr))≠none:=fun _ h=>by cases h
  refine hy (fun _=>aa rfl)<|hy (fun _=>aS rfl Tryz.underlying27)<|hy (fun _=>bX rfl Tryz.underlying3 Tryz.underlying166 (wY (by omega) (by omega)))<| ?_
  refine hx (aq rfl Tryz.call179 (jG (by omega)) [] rfl [] rfl ?_)
  rintro _ _ _ ⟨v2,rfl,rfl,rfl⟩
  refine aA (fun m=>(m.own 0 rfl).slice) ?_
  rintro⟨A_x,c_x,rfl,hc_x⟩
  refine aA (fun m=>(m.ord 0 rfl).2.1) fun hA_x=> ?_
  refine aO (fun w m=>m.bQ 1 rfl (show _=aG 5 1 (.slice (some ⟨g17,0,none⟩) 2 2) 2 (aV [76,1])from rfl)) ?_
  refine hx (bu 0 rfl rfl rfl Tryz.underlying27 Tryz.underlying27 (by exact .inl rfl) fa rfl (fun m=>Src.bP (m.ord 1 rfl)) aZ (by unfold maxLen;omega) (by omega) (fun u=> ?_))
  refine aA (fun m=>(m.own 0 rfl).slice) ?_
  rintro⟨A_b17,c_b17,rfl,hc_b17⟩
  refine aA (fun m=>(m.ord 0 rfl).2.1) fun hA_b17=> ?_
  refine hy (fun _=>ab rfl)<|ai<|al (ρ' :=[(6,_),(4,_),(3,_),(14,_),(5,_),(2,_),(0,_)]) ⟨rfl,rfl,rfl,rfl,rfl,rfl,rfl,trivial⟩<|ak (X' :=[_,_,_]) (S' :=[_]) (fun _ m=>m)<|ag<|ah<|aj<|hy (fun _=>aa rfl)<|hy (fun _=>aa rfl)<| ?_
  refine hx (bu 0 rfl rfl rfl Tryz.underlying27 Tryz.underlying27 (by exact .inl rfl) fa rfl (fun m=>Src.bP (m.ord 2 rfl)) aZ (by unfold maxLen;omega) (by omega) (fun u2=> ?_))
  refine aA (fun m=>(m.own 0 rfl).slice) ?_
  rintro⟨A_b172,c_b172,rfl,hc_b17⟩
  refine aA (fun m=>(m.ord 0 rfl).2.1) fun hA_b17=> ?_
  refine hy (fun _=>ab rfl)<|ai<|al (ρ' :=[(6,_),(4,_),(3,_),(14,_),(5,_),(2,_),(0,_)]) ⟨rfl,rfl,rfl,rfl,rfl,rfl,rfl,trivial⟩<|ak (X' :=[_,_,_]) (S' :=[_]) (fun _ m=>m)<|ag<|ah<|aj<|hy (fun _=>aa rfl)<|hy (fun _=>aa rfl)<| ?_
  refine hx (aq rfl Tryz.call180 (o8 (by omega)) [] rfl [0] rfl ?_)
  rintro _ _ _ ⟨rfl,rfl,rfl⟩
  refine hx (aq rfl Tryz.call179 (jG (by omega)) [] rfl [] rfl ?_)
  rintro _ _ _ ⟨v3,rfl,rfl,rfl⟩
  refine aA (fun m=>(m.own 0 rfl).slice) ?_
  rintro⟨A_x2,c_x2,rfl,hc_x2⟩
  refine aA (fun m=>(m.ord 0 rfl).2.1) fun hA_x2=> ?_
  refine hx (bu 1 rfl rfl rfl Tryz.underlying27 Tryz.underlying27 (by exact .inl rfl) fa rfl (fun m=>Src.bP (m.ord 0 rfl)) aZ (by unfold maxLen;omega) (by omega) (fun u3=> ?_))
  refine aA (fun m=>(m.own 0 rfl).slice) ?_
  rintro⟨A_b173,c_b173,rfl,hc_b17⟩
  refine aA (fun m=>(m.ord 0 rfl).2.1) fun hA_b17=> ?_
  refine hy (fun _=>ab rfl)<|ai<|al (ρ' :=[(2,_),(6,_),(4,_),(3,_),(14,_),(5,_),(0,_)]) ⟨rfl,rfl,rfl,rfl,rfl,rfl,rfl,trivial⟩<|ak (X' :=[_,_,_,_]) (S' :=[_]) (fun _ m=>m)<|ag<|aX<| ?_
  have hol:2+4+(eN l).length+4=(bK l).length:=by rw[hq];simp[fq,hl];try omega
  rw[hol]
  have hsl:aV [76,1]++aV (gI n)++aV (eN l)++aV (gI (cZ l))=aV (bK l):=by rw[hq,hl,bH,bH,bH]
  rw[hsl]
  exact bg trivial rfl rfl [0] rfl [] rfl ⟨_,rfl,rfl,rfl⟩
 ·have hq:bK l=[76,0]++gI l.length++l++gI (cZ l):=by
   have:vg l=false:=by unfold vg;exact decide_eq_false (by omega)
   unfold bK iH
   rw[this];rfl
  refine aD<|ag<|ah<|aj<|hy (fun _=>aa rfl)<| ?_
  refine hx (b5 Tryz.underlying27 fa rfl rfl rfl (by simp[Value.cells,B8]) (by decide) (by decide) (fun g17=> ?_))
  have hA_b17:0<2→(some (⟨g17,0,none⟩:Addr))≠none:=fun _ h=>by cases h
  refine hy (fun _=>aa rfl)<|hy (fun _=>aS rfl Tryz.underlying27)<|hy (fun _=>bX rfl Tryz.underlying3 Tryz.underlying166 (wY (by omega) (by omega)))<| ?_
  refine hx (aq rfl Tryz.call179 (jG (by omega)) [] rfl [] rfl ?_)
  rintro _ _ _ ⟨v2,rfl,rfl,rfl⟩
  refine aA (fun m=>(m.own 0 rfl).slice) ?_
  rintro⟨A_x,c_x,rfl,hc_x⟩
  refine aA (fun m=>(m.ord 0 rfl).2.1) fun hA_x=> ?_
  refine aO (fun w m=>m.bQ 1 rfl (show _=aG 5 1 (.slice (some ⟨g17,0,none⟩) 2 2) 2 (aV [76,0])from rfl)) ?_
  refine hx (bu 0 rfl rfl rfl Tryz.underlying27 Tryz.underlying27 (by exact .inl rfl) fa rfl (fun m=>Src.bP (m.ord 1 rfl)) aZ (by unfold maxLen;omega) (by omega) (fun u=> ?_))
  refine aA (fun m=>(m.own 0 rfl).slice) ?_
  rintro⟨A_b17,c_b17,rfl,hc_b17⟩
  refine aA (fun m=>(m.ord 0 rfl).2.1) fun hA_b17=> ?_
  refine hy (fun _=>ab rfl)<|ai<|al (ρ' :=[(6,_),(14,_),(5,_),(4,_),(3,_),(2,_),(0,_)]) ⟨rfl,rfl,rfl,rfl,rfl,rfl,rfl,trivial⟩<|ak (X' :=[_,_,_]) (S' :=[_]) (fun _ m=>m)<|ag<|ah<|aj<|hy (fun _=>aa rfl)<|hy (fun _=>aa rfl)<| ?_
  refine hx (bu 0 rfl rfl rfl Tryz.underlying27 Tryz.underlying27 (by exact .inl rfl) fa rfl (fun m=>Src.bP (m.rd 0 rfl)) aZ (by unfold maxLen;omega) (by omega) (fun u2=> ?_))
  refine aA (fun m=>(m.own 0 rfl).slice) ?_
  rintro⟨A_b172,c_b172,rfl,hc_b17⟩
  refine aA (fun m=>(m.ord 0 rfl).2.1) fun hA_b17=> ?_
  refine hy (fun _=>ab rfl)<|ai<|al (ρ' :=[(6,_),(14,_),(5,_),(4,_),(3,_),(2,_),(0,_)]) ⟨rfl,rfl,rfl,rfl,rfl,rfl,rfl,trivial⟩<|ak (X' :=[_,_,_]) (S' :=[_]) (fun _ m=>m)<|ag<|ah<|aj<|hy (fun _=>aa rfl)<|hy (fun _=>aa rfl)<| ?_
  refine hx (aq rfl Tryz.call180 (o8 (by omega)) [] rfl [0] rfl ?_)
  rintro _ _ _ ⟨rfl,rfl,rfl⟩
  refine hx (aq rfl Tryz.call179 (jG (by omega)) [] rfl [] rfl ?_)
  rintro _ _ _ ⟨v3,rfl,rfl,rfl⟩
  refine aA (fun m=>(m.own 0 rfl).slice) ?_
  rintro⟨A_x2,c_x2,rfl,hc_x2⟩
  refine aA (fun m=>(m.ord 0 rfl).2.1) fun hA_x2=> ?_
  refine hx (bu 1 rfl rfl rfl Tryz.underlying27 Tryz.underlying27 (by exact .inl rfl) fa rfl (fun m=>Src.bP (m.ord 0 rfl)) aZ (by unfold maxLen;omega) (by omega) (fun u3=> ?_))
  refine aA (fun m=>(m.own 0 rfl).slice) ?_
  rintro⟨A_b173,c_b173,rfl,hc_b17⟩
  refine aA (fun m=>(m.ord 0 rfl).2.1) fun hA_b17=> ?_
  refine hy (fun _=>ab rfl)<|ai<|al (ρ' :=[(2,_),(6,_),(14,_),(5,_),(4,_),(3,_),(0,_)]) ⟨rfl,rfl,rfl,rfl,rfl,rfl,rfl,trivial⟩<|ak (X' :=[_,_,_,_]) (S' :=[_]) (fun _ m=>m)<|ag<|aX<| ?_
  have hol:2+4+n+4=(bK l).length:=by rw[hq];simp[fq,hl];try omega
  rw[hol]
  have hsl:aV [76,0]++aV (gI n)++aV l++aV (gI (cZ l))=aV (bK l):=by rw[hq,hl,bH,bH,bH]
  rw[hsl]
  exact bg trivial rfl rfl [0] rfl [] rfl ⟨_,rfl,rfl,rfl⟩
theorem lr{f:List UInt8}(h:f.length<10∨f.getD 0 0≠76∨1<(f.getD 1 0).toNat):gS f=none:=by unfold gS;rw[if_pos h]
theorem xU{f:List UInt8}(h:¬(f.length<10∨f.getD 0 0≠76∨1<(f.getD 1 0).toNat)):gS f=some (kO (f.drop 2)):=by unfold gS;rw[if_neg h]
theorem sK{A:Option Addr}{n c:Nat}{f:List UInt8}(hc:n≤c)(hn:n≤1000000000)(hl:f.length=n):ck Tryz.prog 211 [.slice A n c] [] [dr 1 A n (aV f)] (fun v_ X_ S_=>v_=(.tuple #[.int .i64 (((gS f).getD 0:Nat):Int),.int .i64 (if(gS f).isSome then 0 else 2)])∧X_=[]∧S_=[]):=by
 have b0:=(f.getD 0 0).toNat_lt
 have b1:=(f.getD 1 0).toNat_lt
 refine aP (N:=34) Tryz.func211 rfl rfl (by simp) fun b=> ?_
 refine aY (fun m=>gY (m.rd 0 rfl)) ?_
 rintro⟨hl_r,hA_r⟩
 refine ah<|aj<|hy (fun _=>ab rfl)<|hy (fun _=>ab rfl)<|ai<|ag<|ah<|ah<|aj<|hy (fun _=>aa rfl)<|hy (fun _=>aS rfl Tryz.underlying27)<|hy (fun _=>bq rfl rfl)<|hy (fun _=>aa rfl)<| ?_
 refine eK 9 rfl (fun h1=> ?_) (fun h1=> ?_)
 ·refine bE rfl rfl rfl (by decide)<|bE rfl rfl rfl (by decide)<|bE rfl rfl rfl (by decide)<|bE rfl rfl rfl (by decide)<|hy (fun _=>bM rfl rfl)<|hy (fun _=>aa rfl)<| ?_
  rw[lr (.inl (by omega))]
  refine bE rfl rfl rfl (by decide)<|bE rfl rfl rfl (by decide)<|bE rfl rfl rfl (by decide)<|bE rfl rfl rfl (by decide)<|hy (fun _=>bM rfl rfl)<|ai<|al (ρ' :=[(20,_),(3,_),(2,_),(0,_)]) ⟨rfl,rfl,rfl,rfl,trivial⟩<|ag<| ?_
  refine ia rfl (rfl) ?_
  refine ah<|aj<|hy (fun _=>ab rfl)<|hy (fun _=>ab rfl)<|ai<|ag<|aX<|aw<| ?_
  exact dF trivial rfl rfl rfl [] rfl [] rfl ⟨rfl,rfl,rfl⟩
 ·refine dU (o:=_) rfl rfl rfl (fun _=>aa rfl)<|dU (o:=_) rfl rfl rfl (fun _=>aT rfl rfl Tryz.underlying27 ea hA_r (show((0:Nat):Int)=0 from rfl) (by omega))<|dU (o:=_) rfl rfl rfl (fun m=>ay rfl iX ((m.rd 0 rfl).cell (bL (by omega))))<|dU (o:=_) rfl rfl rfl (fun _=>db rfl rfl)<|hy (fun _=>bC rfl rfl)<|hy (fun _=>aa rfl)<| ?_
  refine eK 15 rfl (fun h2=> ?_) (fun h2=> ?_)
  ·rw[lr (.inr (.inl (fun e=>h2 (by rw[e];rfl))))]
   refine bE rfl rfl rfl (by decide)<|bE rfl rfl rfl (by decide)<|bE rfl rfl rfl (by decide)<|bE rfl rfl rfl (by decide)<|hy (fun _=>bM rfl rfl)<|ai<|al (ρ' :=[(20,_),(3,_),(2,_),(0,_)]) ⟨rfl,rfl,rfl,rfl,trivial⟩<|ag<| ?_
   refine ia rfl (rfl) ?_
   refine ah<|aj<|hy (fun _=>ab rfl)<|hy (fun _=>ab rfl)<|ai<|ag<|aX<|aw<| ?_
   exact dF trivial rfl rfl rfl [] rfl [] rfl ⟨rfl,rfl,rfl⟩
  ·refine dU (o:=_) rfl rfl rfl (fun _=>aa rfl)<|dU (o:=_) rfl rfl rfl (fun _=>aT rfl rfl Tryz.underlying27 ea hA_r (show((1:Nat):Int)=1 from rfl) (by omega))<|dU (o:=_) rfl rfl rfl (fun m=>ay rfl iX ((m.rd 0 rfl).cell (bL (by omega))))<|dU (o:=_) rfl rfl rfl (fun _=>da rfl rfl)<|hy (fun _=>bC rfl rfl)<|ai<|al (ρ' :=[(20,_),(3,_),(2,_),(0,_)]) ⟨rfl,rfl,rfl,rfl,trivial⟩<|ag<| ?_
   refine cD rfl (fun h3=> ?_) (fun h3=> ?_)
   ·rw[lr (.inr (.inr (by omega)))]
    refine ah<|aj<|hy (fun _=>ab rfl)<|hy (fun _=>ab rfl)<|ai<|ag<|aX<|aw<| ?_
    exact dF trivial rfl rfl rfl [] rfl [] rfl ⟨rfl,rfl,rfl⟩
   ·have h2' :f.getD 0 0=76:=UInt8.toNat_inj.1 (by have:=Decidable.not_not.1 h2;show _=76;omega)
    rw[xU (by rintro(q|q|q);omega;exact q h2';omega)]
    refine aD<|ag<|ah<|aj<|hy (fun _=>ab rfl)<|ai<|ag<|ah<|ah<|aj<|hy (fun _=>ab rfl)<|ai<|ag<|aI<| ?_
    refine dx (fun j=>4-j) (fun j=>[(4,.int .i64 ((acc ((f.drop 2).take 4) j:Nat):Int)),(5,.int .i64 (5-(j:Int)))]) (fun j=>[]) (fun j=>[]) (fun j=>j≤4) 0 [(20,_),(3,_),(2,_),(0,_)] ⟨rfl,rfl,rfl,rfl,trivial⟩ [] rfl [] rfl (Nat.zero_le _) ⟨rfl,rfl,trivial⟩ (fun j hI=> ?_)
    refine ah<|ah<|aj<|hy (fun _=>aa rfl)<|hy (fun _=>da rfl rfl)<|ai<|al (ρ' :=[(22,_),(4,_),(5,_),(20,_),(3,_),(2,_),(0,_)]) ⟨rfl,rfl,rfl,rfl,rfl,rfl,rfl,trivial⟩<|ag<| ?_
    refine cD rfl (fun hj=> ?_) (fun hj=> ?_)
    ·have hl4:((f.drop 2).take 4).length=4:=by rw[List.length_take,List.length_drop];omega
     have hac:=Ec ((f.drop 2).take 4) (show j≤4 by omega)
     have hby:(((f.drop 2).take 4).getD (3-j) 0).toNat<256:=UInt8.toNat_lt _
     have hget:f.getD (5-j) 0=((f.drop 2).take 4).getD (3-j) 0:=by
      simp only[List.getD,List.getElem?_take,List.getElem?_drop]
      rw[if_pos (by omega),show 2+(3-j)=5-j by omega]
     refine aD<|ag<|ah<|aI<|aj<|hy (fun _=>aa rfl)<|hy (fun _=>uz (p:=256) rfl rfl (by decide) (by decide) (by decide) (bG (by omega) (by omega)))<|hy (fun _=>aa rfl)<|hy (fun _=>aa rfl)<|hy (fun _=>aT rfl rfl Tryz.underlying27 ea hA_r (show((5-j:Nat):Int)=_ by omega) (by omega))<|hy (fun m=>yV (ay rfl iX ((m.rd 0 rfl).cell (bL (by omega)))) ((show B8 (f.getD (5-j) 0)=B8 (((f.drop 2).take 4).getD (3-j) 0) by rw[hget])))<|hy (fun _=>bX rfl Tryz.underlying5 Tryz.underlying3 (Bq _))<|hy (fun _=>gV (by simp) rfl rfl (Cd _ _ hac hby))<|hy (fun _=>ab rfl)<|ai<|al (ρ' :=[(4,_),(22,_),(5,_),(20,_),(3,_),(2,_),(0,_)]) ⟨rfl,rfl,rfl,rfl,rfl,rfl,rfl,trivial⟩<|aQ<|ag<|aj<|hy (fun _=>aa rfl)<|hy (fun _=>yV (cn rfl rfl (bG (by omega) (by omega))) ((show Value.int .i64 ((5-(j:Int))-1)= .int .i64 (5-((j+1:Nat):Int)) by congr 1;omega)))<|hy (fun _=>ab rfl)<|ai<|al (ρ' :=[(5,_),(4,_),(22,_),(20,_),(3,_),(2,_),(0,_)]) ⟨rfl,rfl,rfl,rfl,rfl,rfl,rfl,trivial⟩<| ?_
     refine cR (j+1) ⟨rfl,rfl,rfl,rfl,rfl,rfl,trivial⟩ [] rfl [0] rfl (by omega) (by omega)
    ·obtain rfl:j=4:=by omega
     have e4:acc ((f.drop 2).take 4) 4=kO (f.drop 2):=by
      rw[Hh]
      have hx:∀q:Nat,q<4→((f.drop 2).take 4).getD q 0=(f.drop 2).getD q 0:=fun q hq=>by simp only[List.getD,List.getElem?_take,if_pos hq]
      unfold kO
      rw[hx 0 (by decide),hx 1 (by decide),hx 2 (by decide),hx 3 (by decide)]
     rw[e4]
     refine bJ<|ao<|ao<|aB<|ag<|ah<|aj<|hy (fun _=>aa rfl)<|hy (fun _=>ab rfl)<|hy (fun _=>ab rfl)<|ai<|al (ρ' :=[(3,_),(2,_),(22,_),(4,_),(5,_),(20,_),(0,_)]) ⟨rfl,rfl,rfl,rfl,rfl,rfl,rfl,trivial⟩<|ag<|aX<| ?_
     exact dF trivial rfl rfl rfl [] rfl [] rfl ⟨rfl,rfl,rfl⟩
theorem BM{A:Option Addr}{n c:Nat}{f:List UInt8}(hc:n≤c)(hn:n≤1000000000)(hl:f.length=n):ck Tryz.prog 213 [.slice A n c] [] [dr 1 A n (aV f)] (fun v_ X_ S_=>v_=(.bool (decide ((gS f).isSome∧f.getD 1 0=1)))∧X_=[]∧S_=[]):=by
 refine aP (N:=18) Tryz.func213 rfl rfl (by simp) fun b=> ?_
 refine aY (fun m=>gY (m.rd 0 rfl)) ?_
 rintro⟨hl_r,hA_r⟩
 refine ah<|aj<|hy (fun _=>ab rfl)<|ai<|ag<|ah<|aj<|hy (fun _=>aa rfl)<| ?_
 refine hx (aq rfl Tryz.call211 (sK (by omega) (by omega) (by omega)) [] rfl [0] rfl ?_)
 rintro _ _ _ ⟨rfl,rfl,rfl⟩
 refine hy (fun _=>aa rfl)<|hy (fun _=>ar rfl rfl)<|hy (fun _=>ar rfl rfl)<|hy (fun _=>ab rfl)<|hy (fun _=>ab rfl)<|ai<|al (ρ' :=[(4,_),(2,_),(0,_)]) ⟨rfl,rfl,rfl,trivial⟩<|ak (X' :=[]) (S' :=[_]) (fun _ m=>m)<|ag<|ah<|aj<|hy (fun _=>aa rfl)<|hy (fun _=>cJ rfl rfl)<|hy (fun _=>aa rfl)<| ?_
 refine eK 12 rfl (fun hs=> ?_) (fun hs=> ?_)
 ·have hs1:(gS f).isSome=true:=by
   cases h:(gS f).isSome with
   |true=>rfl
   |false=>rw[h]at hs;exact absurd hs (by decide)
  have hn10:¬n<10:=fun h=>by rw[lr (.inl (by omega))]at hs1;cases hs1
  have hd:decide ((gS f).isSome∧f.getD 1 0=1)=decide (((f.getD 1 0).toNat:Int)=1):=decide_eq_decide.2 ⟨fun h=>by rw[h.2];rfl,fun h=>⟨hs1,UInt8.toNat_inj.1 (by show _=1;omega)⟩⟩
  rw[hd]
  refine dU (o:=_) rfl rfl rfl (fun _=>aa rfl)<|dU (o:=_) rfl rfl rfl (fun _=>aT rfl rfl Tryz.underlying27 ea hA_r (show((1:Nat):Int)=1 from rfl) (by omega))<|dU (o:=_) rfl rfl rfl (fun m=>ay rfl iX ((m.rd 0 rfl).cell (bL (by omega))))<|dU (o:=_) rfl rfl rfl (fun _=>cJ rfl rfl)<|hy (fun _=>bM rfl rfl)<|hy (fun _=>ab rfl)<|ai<|al (ρ' :=[(2,_),(4,_),(0,_)]) ⟨rfl,rfl,rfl,trivial⟩<|ag<|aX<| ?_
  exact bg trivial rfl rfl [] rfl [] rfl ⟨rfl,rfl,rfl⟩
 ·have hd:decide ((gS f).isSome∧f.getD 1 0=1)=false:=decide_eq_false fun h=>hs (by rw[h.1];rfl)
  rw[hd]
  refine bE rfl rfl rfl (by decide)<|bE rfl rfl rfl (by decide)<|bE rfl rfl rfl (by decide)<|bE rfl rfl rfl (by decide)<|hy (fun _=>bC rfl rfl)<|hy (fun _=>ab rfl)<|ai<|al (ρ' :=[(2,_),(4,_),(0,_)]) ⟨rfl,rfl,rfl,trivial⟩<|ag<|aX<| ?_
  exact bg trivial rfl rfl [] rfl [] rfl ⟨rfl,rfl,rfl⟩
end Go.Proofs.YtmibdabdlgmafaaGreatDoor
end
section
set_option maxRecDepth 20000
set_option maxHeartbeats 2000000
namespace Go.Proofs.YtmibdabdlgmafaaGreatDoor
open Go.Eng Go.Hx
theorem Gh{v:Value}(h:v.oneCell' =true:=by rfl):∀u∈ [v],u.oneCell' =true:=fun u hu=>by rw[List.mem_singleton.1 hu];exact h
theorem oB{q:Bool}{e:Int}:EO Tryz.prog 212 [.bool q,.int .i64 e] [] [] (fun v_ X_ S_=>v_=(.tuple #[])∧X_=[]∧S_=[]∧(q=true)) (fun v_ X_ S_=>v_=(.iface 288 (.agg #[.int .i64 e]))∧X_=[]∧S_=[]∧(q=false)):=by
 refine CQ (N:=9) Tryz.func212 rfl rfl (by simp) fun b=> ?_
 refine ah<|aj<|hy (fun _=>aa rfl)<|hy (fun _=>(kC rfl))<|ai<|al (ρ' :=[(5,_),(0,_),(1,_)]) ⟨rfl,rfl,rfl,trivial⟩<|ag<| ?_
 refine AH rfl (fun hq=> ?_) (fun hq=> ?_)
 ·refine aj<|hy (fun _=>aa rfl)<|hy (fun _=>cC vZ rfl rfl (by kernel_rfl) (.cons (o:=0) (sz:=1) (by kernel_rfl) rfl rfl (Nat.le_of_ble_eq_true rfl) .nil))<|hy (fun _=>kU rfl Tryz.underlying288 (fun _ h=>by cases h))<| ?_
  refine cL (AU rfl ?_)
  exact FD [] rfl [] rfl ⟨rfl,rfl,rfl,(by simpa using hq)⟩
 ·refine aD<| ?_
  refine FL ?_
  exact fO trivial rfl [] rfl [] rfl ⟨rfl,rfl,rfl,(by simpa using hq)⟩
theorem gq{g4 g5:Nat}{v:Value}{e0 e:Int}:C5 Tryz.prog 210 [.pointer (some ⟨g4,0,none⟩),.pointer (some ⟨g5,0,none⟩)] (.panicking (GM (.iface 288 (.agg #[.int .i64 e])))) [aL g4 27 [v],aL g5 47 [.int .i64 e0]] [] (fun u_ X_ S_=>u_= .returning∧X_=[aL g4 27 [.slice none 0 0],aL g5 47 [.int .i64 e]]∧S_=[]):=by
 refine wv (N:=12) Tryz.func210 rfl rfl (by simp) fun b c_0 cs_ hu_=> ?_
 show uP _ _ _ _ _ [0,1,2,3,4,5,6,7] _ _ _ _ _
 refine CC rfl hu_ ?_
 refine lV rfl (fun _=>rT rfl (Ad Tryz.underlying288))<|lV rfl (fun _=>aa rfl)<|lV rfl (fun _=>ar rfl rfl)<|lV rfl (fun _=>ar rfl rfl)<| ?_
 refine Dd rfl (aN vZ (fun g2=> ?_))
 refine yW rfl (aJ 0 rfl rfl rfl Db rfl Gh rfl ?_)
 refine DQ (fun w m=>m.bQ 0 rfl (show _=aL g2 288 [.int .i64 e]from rfl)) ?_
 refine lV rfl (fun _=>ab rfl)<|tC<|bx (X' :=[_,_,_]) (S' :=[]) (fun _ m=>m)<|ah<|aj<|hy (fun _=>aa rfl)<|ai<|al (ρ' :=[(9,_),(3,_),(2,_),(0,_),(1,_)]) ⟨rfl,rfl,rfl,rfl,rfl,trivial⟩<|ag<| ?_
 refine ia rfl (rfl) ?_
 refine qm [0] [] rfl rfl [2,3] [(0,some 1),(1,some 1),(2,none),(3,none)] (by kernel_rfl) (by kernel_rfl) rfl 99<|an (aK rfl B4 (by decide))<|cr (fun m=>ay rfl lP (aE (m.a6 0 rfl) (i:=0) rfl))<| ?_
 refine kE (dV 1 rfl rfl rfl p9 rfl (by first|exact Nat.le_of_ble_eq_true rfl|simp) ⟨(fun _=>wk [1] [] rfl rfl), ?_⟩)
 refine kE (dV 2 rfl rfl rfl x3 rfl (by first|exact Nat.le_of_ble_eq_true rfl|simp) ⟨(fun _=>wk [2] [] rfl rfl), ?_⟩)
 refine bD<|al (ρ' :=[(9,_),(3,_),(2,_),(0,_),(1,_)]) ⟨rfl,rfl,rfl,rfl,rfl,trivial⟩<|ak (X' :=[_,_,_]) (S' :=[]) (fun _ m=>m)<| ?_
 exact fO trivial rfl [1,0] rfl [] rfl ⟨rfl,rfl,rfl,rfl⟩
theorem tK{g4 g5:Nat}{v:Value}{e:Int}:C5 Tryz.prog 210 [.pointer (some ⟨g4,0,none⟩),.pointer (some ⟨g5,0,none⟩)] .returning [aL g4 27 [v],aL g5 47 [.int .i64 e]] [] (fun u_ X_ S_=>u_= .returning∧X_=[aL g4 27 [v],aL g5 47 [.int .i64 e]]∧S_=[]):=by
 refine wv (N:=12) Tryz.func210 rfl rfl (by simp) fun b c_0 cs_ hu_=> ?_
 show uP _ _ _ _ _ [0,1,2,3,4,5,6,7] _ _ _ _ _
 refine AT rfl hu_ ?_
 refine lV rfl (fun _=>rT rfl (Bg Tryz.underlying288 vZ))<|lV rfl (fun _=>aa rfl)<|lV rfl (fun _=>ar rfl rfl)<|lV rfl (fun _=>ar rfl rfl)<| ?_
 refine Dd rfl (aN vZ (fun g2=> ?_))
 refine yW rfl (aJ 0 rfl rfl rfl Db rfl Gh rfl ?_)
 refine lV rfl (fun _=>ab rfl)<|tC<|bx (X' :=[_,_,_]) (S' :=[]) (fun _ m=>m)<|ah<|aj<|hy (fun _=>aa rfl)<|ai<|al (ρ' :=[(9,_),(3,_),(2,_),(0,_),(1,_)]) ⟨rfl,rfl,rfl,rfl,rfl,trivial⟩<|ag<| ?_
 refine dB rfl (rfl) ?_
 refine aD<| ?_
 exact fO trivial rfl [1,1] rfl [] rfl ⟨rfl,rfl,rfl,rfl⟩
end Go.Proofs.YtmibdabdlgmafaaGreatDoor
end
section
set_option maxRecDepth 20000
set_option maxHeartbeats 2000000
namespace Go.Proofs.YtmibdabdlgmafaaGreatDoor
open Go.Eng Go.Hx
theorem Ew{A:Option Addr}{n c:Nat}{l:List UInt8}(h0:0<n)(hn:n≤140737488351232):ck Tryz.prog 257 [.slice A n c] [] [dr 1 A n (aV l)] (fun v_ X_ S_=>v_=(.tuple #[.int .i64 ((cQ l).1:Nat),.int .i64 ((cQ l).2.1:Nat),.int .i64 ((cQ l).2.2.1:Nat),.bool (cQ l).2.2.2])∧X_=[]∧S_=[]):=by
 have b0:=(l.getD 0 0).toNat_lt
 have b1:=(l.getD 1 0).toNat_lt
 have b2:=(l.getD 2 0).toNat_lt
 refine aP (N:=39) Tryz.func257 rfl rfl (by simp) fun b=> ?_
 refine aY (fun m=>gY (m.rd 0 rfl)) ?_
 rintro⟨hl_r,hA_r⟩
 refine ah<|aj<|hy (fun _=>ab rfl)<|hy (fun _=>ab rfl)<|hy (fun _=>ab rfl)<|hy (fun _=>ab rfl)<|ai<|ag<|ah<|aj<|hy (fun _=>aa rfl)<|hy (fun _=>aT rfl rfl Tryz.underlying27 ea hA_r (show((0:Nat):Int)=0 from rfl) (by omega))<|hy (fun m=>ay rfl iX ((m.rd 0 rfl).cell (bL (by omega))))<|hy (fun _=>bX rfl Tryz.underlying5 Tryz.underlying3 (bG (by omega) (by omega)))<|hy (fun _=>ab rfl)<|ai<|al (ρ' :=[(6,_),(5,_),(4,_),(3,_),(2,_),(0,_)]) ⟨rfl,rfl,rfl,rfl,rfl,rfl,trivial⟩<|ag<|ah<|ah<|aj<|hy (fun _=>aa rfl)<|hy (fun _=>bq rfl rfl)<|ai<|al (ρ' :=[(12,_),(6,_),(5,_),(4,_),(3,_),(2,_),(0,_)]) ⟨rfl,rfl,rfl,rfl,rfl,rfl,rfl,trivial⟩<|ag<| ?_
 refine cD rfl (fun h1=> ?_) (fun h1=> ?_)
 ·have e:cQ l=((l.getD 0 0).toNat+2,(l.getD 0 0).toNat+1,0,decide ((l.getD 0 0).toNat+2≤l.length)):=by rw[cQ,if_pos (by omega)]
  rw[e]
  refine ah<|aj<|hy (fun _=>aa rfl)<|hy (fun _=>aM rfl rfl (bG (by omega) (by omega)))<|hy (fun _=>aa rfl)<|hy (fun _=>aM rfl rfl (bG (by omega) (by omega)))<|hy (fun _=>aa rfl)<|hy (fun _=>aS rfl Tryz.underlying27)<|hy (fun _=>aa rfl)<|hy (fun _=>aM rfl rfl (bG (by omega) (by omega)))<|hy (fun _=>yV (iP rfl rfl) ((congrArg Value.bool (decide_eq_decide.2 (by omega)):Value.bool (decide ((n:Int)≥((l.getD 0 0).toNat:Int)+2))= .bool (decide ((l.getD 0 0).toNat+2≤l.length)))))<|hy (fun _=>ab rfl)<|hy (fun _=>ab rfl)<|hy (fun _=>ab rfl)<|hy (fun _=>ab rfl)<|ai<|al (ρ' :=[(5,_),(4,_),(3,_),(2,_),(12,_),(6,_),(0,_)]) ⟨rfl,rfl,rfl,rfl,rfl,rfl,rfl,trivial⟩<|ag<|aX<|aw<| ?_
  exact zg trivial rfl rfl rfl rfl rfl [] rfl [] rfl ⟨rfl,rfl,rfl⟩
 ·refine aD<|ag<|ah<|ah<|aj<|hy (fun _=>aa rfl)<|hy (fun _=>aS rfl Tryz.underlying27)<|hy (fun _=>bq rfl rfl)<|ai<|al (ρ' :=[(24,_),(12,_),(6,_),(5,_),(4,_),(3,_),(2,_),(0,_)]) ⟨rfl,rfl,rfl,rfl,rfl,rfl,rfl,rfl,trivial⟩<|ag<| ?_
  refine cD rfl (fun h3=> ?_) (fun h3=> ?_)
  ·have e:cQ l=(0,0,0,false):=by rw[cQ,if_neg (by omega),if_pos (by omega)]
   rw[e]
   refine ah<|aj<|hy (fun _=>ab rfl)<|hy (fun _=>ab rfl)<|hy (fun _=>ab rfl)<|hy (fun _=>ab rfl)<|ai<|ag<|aX<|aw<| ?_
   exact zg trivial rfl rfl rfl rfl rfl [] rfl [] rfl ⟨rfl,rfl,rfl⟩
  ·have e:cQ l=(3,(l.getD 0 0).toNat-124,1+(l.getD 1 0).toNat+256*(l.getD 2 0).toNat,true):=by rw[cQ,if_neg (by omega),if_neg (by omega)]
   rw[e]
   refine aD<|ag<|ah<|c5 [] [(0,some 0),(1,some 0),(2,some 0),(3,some 0),(4,some 0),(5,some 0),(6,some 0),(7,some 0),(8,some 0),(9,some 0),(10,some 0),(11,some 0),(12,some 0),(13,some 0),(14,some 0),(15,some 0),(16,some 0),(17,some 0)] (by kernel_rfl) (by kernel_rfl) rfl 99<|an (aa rfl)<|an (cn rfl rfl (bG (by omega) (by omega)))<|an (yV (aM rfl rfl (bG (by omega) (by omega))) ((show Value.int .i64 (((l.getD 0 0).toNat:Int)-128+4)= .int .i64 (((l.getD 0 0).toNat-124:Nat):Int) by congr 1;omega)))<|an (aa rfl)<|an (aT rfl rfl Tryz.underlying27 ea hA_r (show((1:Nat):Int)=1 from rfl) (by omega))<|cr (fun m=>ay rfl iX ((m.rd 0 rfl).cell (bL (by omega))))<|an (bX rfl Tryz.underlying5 Tryz.underlying3 (bG (by omega) (by omega)))<|an (aM rfl rfl (bG (by omega) (by omega)))<|an (aa rfl)<|an (aT rfl rfl Tryz.underlying27 ea hA_r (show((2:Nat):Int)=2 from rfl) (by omega))<|cr (fun m=>ay rfl iX ((m.rd 0 rfl).cell (bL (by omega))))<|an (bX rfl Tryz.underlying5 Tryz.underlying3 (bG (by omega) (by omega)))<|an (uz (p:=256) rfl rfl (by decide) (by decide) (by decide) (bG (by omega) (by omega)))<|an (yV (aM rfl rfl (bG (by omega) (by omega))) ((show Value.int .i64 (1+((l.getD 1 0).toNat:Int)+((l.getD 2 0).toNat:Int)*256)= .int .i64 ((1+(l.getD 1 0).toNat+256*(l.getD 2 0).toNat:Nat):Int) by congr 1;omega)))<|an (ab rfl)<|an (ab rfl)<|an (ab rfl)<|an (ab rfl)<|bD<|al (ρ' :=[(5,_),(4,_),(3,_),(2,_),(24,_),(12,_),(6,_),(0,_)]) ⟨rfl,rfl,rfl,rfl,rfl,rfl,rfl,rfl,trivial⟩<|ag<|aX<| ?_
   exact zg trivial rfl rfl rfl rfl rfl [] rfl [] rfl ⟨rfl,rfl,rfl⟩
theorem CP{A:Option Addr}{c:Nat}{l:List UInt8}{z:Int}(hc:l.length≤c)(hn:l.length≤10000000)(hz:z≤10000000):ck Tryz.prog 214 [.slice A l.length c,.int .i64 z] [] [dr 1 A l.length (aV l)] (fun v_ X_ S_=>∃v,v_=(.tuple #[v,.int .i64 (j0 z l []).2])∧X_=[aG 5 1 v (j0 z l []).1.length (aV (j0 z l []).1)]∧S_=[]):=by
 refine aP (N:=66) Tryz.func214 rfl rfl (by simp) fun b=> ?_
 refine aY (fun m=>gY (m.rd 0 rfl)) ?_
 rintro⟨hl_r,hA_r⟩
 refine ah<|aj<|hy (fun _=>ab rfl)<|hy (fun _=>ab rfl)<|ai<|ag<|ah<|aj<|hy (fun _=>ab rfl)<|ai<|ag<|ah<|aI<| ?_
 refine bx (fun w m=>m.dm (r' :=aG 5 1 (.slice none 0 0) 0 []) (.refl _ _) (Own.nil _ _ _ _) (fun k hk=>hk.elim)) ?_
 refine nP (fun p o A2 c2 A3 c3=>p.length) (fun p o A2 c2 A3 c3=>[(0,.slice A2 p.length c2),(6,.slice A3 o.length c3)]) (fun p o A2 c2 A3 c3=>[aG 5 1 (.slice A3 o.length c3) o.length (aV o)]) (fun p o A2 c2 A3 c3=>[dr 1 A2 p.length (aV p)]) (fun p o A2 c2 A3 c3=>p.length≤c2∧p.length≤10000000∧o.length≤10000000∧j0 z p o=j0 z l []) l [] A c none 0 [(1,_)] ⟨rfl,trivial⟩ [0] rfl [0] rfl (⟨hc,hn,by decide,rfl⟩) ⟨rfl,rfl,trivial⟩ (fun p o A2 c2 A3 c3 ⟨hpc,hpn,hon,hU⟩=> ?_)
 refine ah<|ah<|aj<|hy (fun _=>aa rfl)<|hy (fun _=>aS rfl Tryz.underlying27)<|hy (fun _=>da rfl rfl)<|ai<|al (ρ' :=[(14,_),(0,_),(6,_),(1,_)]) ⟨rfl,rfl,rfl,rfl,trivial⟩<|ag<| ?_
 refine cD rfl (fun hlt=> ?_) (fun hlt=> ?_)
 ·have hp0:p≠ []:=fun e=>by rw[e]at hlt;exact absurd hlt (by decide)
  obtain⟨ht1,ht2⟩:=EF p
  refine aD<|ag<|aI<|ah<|aj<|hy (fun _=>aa rfl)<| ?_
  refine hx (aq rfl Tryz.call257 (Ew (by omega) (by omega)) [] rfl [0] rfl ?_)
  rintro _ _ _ ⟨rfl,rfl,rfl⟩
  refine hy (fun _=>aa rfl)<|hy (fun _=>ar rfl rfl)<|hy (fun _=>ar rfl rfl)<|hy (fun _=>ar rfl rfl)<|hy (fun _=>ar rfl rfl)<|hy (fun _=>ab rfl)<|hy (fun _=>ab rfl)<|hy (fun _=>ab rfl)<|hy (fun _=>ab rfl)<|ai<|al (ρ' :=[(10,_),(9,_),(8,_),(7,_),(14,_),(0,_),(6,_),(1,_)]) ⟨rfl,rfl,rfl,rfl,rfl,rfl,rfl,rfl,trivial⟩<|ak (X' :=[_]) (S' :=[_,_]) (fun _ m=>m)<|ag<|ah<|ah<|aj<|hy (fun _=>aa rfl)<|hy (fun _=>(kC rfl))<|hy (fun _=>aa rfl)<| ?_
  refine Cy 24 rfl (fun hw=> ?_) (fun hw=> ?_)
  ·rw[lE hp0 (fun h=>by rw[h.1]at hw;cases hw)]at hU
   rw[←hU]
   refine bE rfl rfl rfl (by decide)<|bE rfl rfl rfl (by decide)<|bE rfl rfl rfl (by decide)<|bE rfl rfl rfl (by decide)<|hy (fun _=>bM rfl rfl)<|ai<|al (ρ' :=[(29,_),(10,_),(9,_),(8,_),(7,_),(14,_),(0,_),(6,_),(1,_)]) ⟨rfl,rfl,rfl,rfl,rfl,rfl,rfl,rfl,rfl,trivial⟩<|ag<| ?_
   refine ia rfl (rfl) ?_
   refine ah<|aj<|hy (fun _=>ab rfl)<|hy (fun _=>ab rfl)<|ai<|ag<|aX<|aw<|a8<|aw<|a8<|aw<| ?_
   refine ak (fun w m=>m.dm (r' :=aG 5 1 (.slice none 0 0) 0 []) (.refl _ _) (Own.nil _ _ _ _) (fun k hk=>hk.elim)) ?_
   exact dF trivial rfl rfl rfl [0] rfl [] rfl ⟨_,rfl,rfl,rfl⟩
  ·have hw1:(cQ p).2.2.2=true:=by simpa using hw
   refine dU (o:=_) rfl rfl rfl (fun _=>aa rfl)<|dU (o:=_) rfl rfl rfl (fun _=>aa rfl)<|dU (o:=_) rfl rfl rfl (fun _=>aS rfl Tryz.underlying27)<|dU (o:=_) rfl rfl rfl (fun _=>da rfl rfl)<|hy (fun _=>bC rfl rfl)<|ai<|al (ρ' :=[(29,_),(10,_),(9,_),(8,_),(7,_),(14,_),(0,_),(6,_),(1,_)]) ⟨rfl,rfl,rfl,rfl,rfl,rfl,rfl,rfl,rfl,trivial⟩<|ag<| ?_
   refine cD rfl (fun hd=> ?_) (fun hd=> ?_)
   ·rw[lE hp0 (fun h=>by omega)]at hU
    rw[←hU]
    refine ah<|aj<|hy (fun _=>ab rfl)<|hy (fun _=>ab rfl)<|ai<|ag<|aX<|aw<|a8<|aw<|a8<|aw<| ?_
    refine ak (fun w m=>m.dm (r' :=aG 5 1 (.slice none 0 0) 0 []) (.refl _ _) (Own.nil _ _ _ _) (fun k hk=>hk.elim)) ?_
    exact dF trivial rfl rfl rfl [0] rfl [] rfl ⟨_,rfl,rfl,rfl⟩
   ·have hd1:(cQ p).2.2.1≤o.length:=by omega
    refine aD<|ag<|ah<|ah<|aj<|hy (fun _=>aa rfl)<|hy (fun _=>aS rfl Tryz.underlying27)<|hy (fun _=>aa rfl)<|hy (fun _=>aM rfl rfl (bG (by omega) (by omega)))<|hy (fun _=>aa rfl)<|hy (fun _=>da rfl rfl)<|ai<|al (ρ' :=[(35,_),(29,_),(10,_),(9,_),(8,_),(7,_),(14,_),(0,_),(6,_),(1,_)]) ⟨rfl,rfl,rfl,rfl,rfl,rfl,rfl,rfl,rfl,rfl,trivial⟩<|ag<| ?_
    refine cD rfl (fun hm=> ?_) (fun hm=> ?_)
    ·rw[pa hp0 hw1 hd1 (by omega)]at hU
     rw[←hU]
     refine ah<|aj<|hy (fun _=>ab rfl)<|hy (fun _=>ab rfl)<|ai<|ag<|aX<|aw<|a8<|aw<|a8<|aw<| ?_
     refine ak (fun w m=>m.dm (r' :=aG 5 1 (.slice none 0 0) 0 []) (.refl _ _) (Own.nil _ _ _ _) (fun k hk=>hk.elim)) ?_
     exact dF trivial rfl rfl rfl [0] rfl [] rfl ⟨_,rfl,rfl,rfl⟩
    ·rw[nU hp0 hw1 hd1 (by omega)]at hU
     obtain⟨hs2,hs3⟩:=lB hw1
     have hml:=oF (o:=o) hw1
     have hmn:(made p o).length≤10000000:=by omega
     have hdl:p.length-(cQ p).1=(p.drop (cQ p).1).length:=by rw[List.length_drop]
     generalize hsz:(cQ p).1=sz at hs2 hs3 hU hdl ⊢
     refine aD<|ag<|ah<|ah<|aj<|hy (fun _=>aa rfl)<|hy (fun _=>cJ rfl rfl)<|ai<|al (ρ' :=[(37,_),(35,_),(29,_),(10,_),(9,_),(8,_),(7,_),(14,_),(0,_),(6,_),(1,_)]) ⟨rfl,rfl,rfl,rfl,rfl,rfl,rfl,rfl,rfl,rfl,rfl,trivial⟩<|ag<| ?_
     refine cD rfl (fun hz0=> ?_) (fun hz0=> ?_)
     ·have hd0:(cQ p).2.2.1=0:=by omega
      have hma:made p o=o++(p.drop 1).take (sz-1):=by rw[made,if_pos hd0,hsz]
      refine bx (fun w m=>m.iW 0 rfl (View.sub (n:=p.length) (c:=c2) (k:=1) (m:=sz-1) (by omega) (by omega))) ?_
      refine aY (fun m=>gY (m.rd 0 rfl)) ?_
      rintro⟨hl_q,hA_q⟩
      refine aj<|hy (fun _=>aa rfl)<|hy (fun _=>aa rfl)<|hy (fun _=>aa rfl)<|hy (fun _=>eS rfl rfl rfl Tryz.underlying27 ea (show((1:Nat):Int)=1 from rfl) (rfl:((sz:Nat):Int)=_) (by omega) (by omega))<| ?_
      refine hx (bu 0 rfl rfl rfl Tryz.underlying27 Tryz.underlying27 (by exact .inl rfl) fa rfl (fun m=>Src.bP (m.rd 0 rfl)) aZ (by unfold maxLen;omega) (by omega) (fun u=> ?_))
      refine aA (fun m=>(m.own 0 rfl).slice) ?_
      rintro⟨A_x,c_x,rfl,hc_x⟩
      refine aA (fun m=>(m.ord 0 rfl).2.1) fun hA_x=> ?_
      have hlm:o.length+(sz-1)=(made p o).length:=by rw[hma,List.length_append,List.length_take,List.length_drop];omega
      rw[hlm]at hc_x hA_x ⊢
      refine aO (fun w m=>m.bQ 0 rfl (show _=aG 5 1 (.slice A_x (made p o).length c_x) (made p o).length (aV (made p o))from congrArg (aG _ _ _ _) (by rw[hma,bH]))) ?_
      refine hy (fun _=>ab rfl)<|ai<|al (ρ' :=[(6,_),(37,_),(35,_),(29,_),(10,_),(9,_),(8,_),(7,_),(14,_),(0,_),(1,_)]) ⟨rfl,rfl,rfl,rfl,rfl,rfl,rfl,rfl,rfl,rfl,rfl,trivial⟩<|ak (X' :=[_]) (S' :=[_,_,_]) (fun _ m=>m)<|ag<|ah<|ah<|aj<|hy (fun _=>ab rfl)<|ai<|ag<|aI<| ?_
      refine dx (fun k2=>1) (fun k2=>[(11,.int .i64 (k2:Nat)),(6,.slice A_x (made p o).length c_x)]) (fun k2=>[aG 5 1 (.slice A_x (made p o).length c_x) (made p o).length (aV (made p o))]) (fun k2=>[]) (fun k2=>True) 0 [(37,_),(35,_),(29,_),(10,_),(9,_),(8,_),(7,_),(14,_),(0,_),(1,_)] ⟨rfl,rfl,rfl,rfl,rfl,rfl,rfl,rfl,rfl,rfl,trivial⟩ [0] rfl [] rfl (trivial) ⟨rfl,rfl,trivial⟩ (fun k2 _=> ?_)
      refine ah<|ah<|aj<|hy (fun _=>aa rfl)<|hy (fun _=>yF (da rfl rfl) ((decide_eq_false (by omega))))<|hy (fun _=>aa rfl)<|bE rfl rfl rfl (by decide)<|bE rfl rfl rfl (by decide)<|bE rfl rfl rfl (by decide)<|hy (fun _=>bC rfl rfl)<|ai<|al (ρ' :=[(49,_),(11,_),(6,_),(37,_),(35,_),(29,_),(10,_),(9,_),(8,_),(7,_),(14,_),(0,_),(1,_)]) ⟨rfl,rfl,rfl,rfl,rfl,rfl,rfl,rfl,rfl,rfl,rfl,rfl,rfl,trivial⟩<|ag<| ?_
      refine dB rfl (rfl) ?_
      refine bx (fun w m=>m.iW 1 rfl (View.drop (n:=p.length) (c:=c2) (k:=sz) (by omega) (by omega))) ?_
      refine aY (fun m=>gY (m.rd 0 rfl)) ?_
      rintro⟨hl_p2,hA_p2⟩
      refine bJ<|ao<|ao<|aB<|ag<|aj<|hy (fun _=>aa rfl)<|hy (fun _=>aa rfl)<|hy (fun _=>dM rfl rfl Tryz.underlying27 ea rfl (by omega))<|hy (fun _=>ab rfl)<|ai<|al (ρ' :=[(0,_),(49,_),(11,_),(6,_),(37,_),(35,_),(29,_),(10,_),(9,_),(8,_),(7,_),(14,_),(1,_)]) ⟨rfl,rfl,rfl,rfl,rfl,rfl,rfl,rfl,rfl,rfl,rfl,rfl,rfl,trivial⟩<|aQ<| ?_
      rw[hdl]
      refine gg (p.drop sz) (made p o) _ (c2-sz) A_x c_x ⟨rfl,rfl,rfl,trivial⟩ [0] rfl [0,3] rfl (⟨by rw[←hdl];omega,by rw[←hdl];omega,hmn,hU⟩) (by rw[←hdl];omega)
     ·have hd0:0<(cQ p).2.2.1:=by omega
      have hma:made p o=again (cQ p).2.2.1 (cQ p).2.1 o:=by rw[made,if_neg (by omega)]
      generalize hdd:(cQ p).2.2.1=dd at*
      generalize hnn:(cQ p).2.1=nn at*
      refine aD<|ag<|ah<|ah<|aj<|hy (fun _=>ab rfl)<|ai<|ag<|aI<| ?_
      refine iG (fun k2 o2 A4 c4=>nn-k2) (fun k2 o2 A4 c4=>[(11,.int .i64 (k2:Nat)),(6,.slice A4 o2.length c4)]) (fun k2 o2 A4 c4=>[aG 5 1 (.slice A4 o2.length c4) o2.length (aV o2)]) (fun k2 o2 A4 c4=>[]) (fun k2 o2 A4 c4=>k2≤nn∧o2.length=o.length+k2∧again dd (nn-k2) o2=made p o) 0 o A3 c3 [(37,_),(35,_),(29,_),(10,_),(9,_),(8,_),(7,_),(14,_),(0,_),(1,_)] ⟨rfl,rfl,rfl,rfl,rfl,rfl,rfl,rfl,rfl,rfl,trivial⟩ [0] rfl [] rfl (⟨Nat.zero_le _,rfl,hma.symm⟩) ⟨rfl,rfl,trivial⟩ (fun k2 o2 A4 c4 ⟨hk2,ho2,hag⟩=> ?_)
      refine ah<|ah<|aj<|hy (fun _=>aa rfl)<|hy (fun _=>yT (da rfl rfl) ((decide_eq_true (by omega))))<|hy (fun _=>aa rfl)<|dU (o:=_) rfl rfl rfl (fun _=>aa rfl)<|dU (o:=_) rfl rfl rfl (fun _=>aa rfl)<|dU (o:=_) rfl rfl rfl (fun _=>bq rfl rfl)<|hy (fun _=>bM rfl rfl)<|ai<|al (ρ' :=[(49,_),(11,_),(6,_),(37,_),(35,_),(29,_),(10,_),(9,_),(8,_),(7,_),(14,_),(0,_),(1,_)]) ⟨rfl,rfl,rfl,rfl,rfl,rfl,rfl,rfl,rfl,rfl,rfl,rfl,rfl,trivial⟩<|ag<| ?_
      refine cD rfl (fun hkn=> ?_) (fun hkn=> ?_)
      ·have hag2:again dd (nn-(k2+1)) (o2++[o2.getD (o2.length-dd) 0])=made p o:=by
        rw[←hag,show nn-k2=(nn-(k2+1))+1 by omega]
        rfl
       refine aY (fun m=>(m.ord 0 rfl).2.1) fun hA4=> ?_
       refine aD<|ag<|ah<|aI<|aj<|hy (fun _=>aa rfl)<|hy (fun _=>aa rfl)<|hy (fun _=>aa rfl)<|hy (fun _=>aS rfl Tryz.underlying27)<|hy (fun _=>aa rfl)<|hy (fun _=>cn rfl rfl (bG (by omega) (by omega)))<|hy (fun _=>aT rfl rfl Tryz.underlying27 ea hA4 (show((o2.length-dd:Nat):Int)=_ by omega) (by omega))<|hy (fun m=>ay rfl iX ((m.ord 0 rfl).cell (bL (by omega))))<| ?_
       refine hx (b5 Tryz.underlying27 fa rfl rfl rfl (by simp[Value.cells,B8]) (by decide) (by decide) (fun g60=> ?_))
       have hA_b60:0<1→(some (⟨g60,0,none⟩:Addr))≠none:=fun _ h=>by cases h
       refine aO (fun w m=>m.bQ 0 rfl (show _=aG 5 1 (.slice (some ⟨g60,0,none⟩) 1 1) 1 (aV [o2.getD (o2.length-dd) 0])from rfl)) ?_
       refine hx (bu 1 rfl rfl rfl Tryz.underlying27 Tryz.underlying27 (by exact .inl rfl) fa rfl (fun m=>Src.bP (m.ord 0 rfl)) aZ (by unfold maxLen;omega) (by omega) (fun u=> ?_))
       refine aA (fun m=>(m.own 0 rfl).slice) ?_
       rintro⟨A_x,c_x,rfl,hc_x⟩
       refine aA (fun m=>(m.ord 0 rfl).2.1) fun hA_x=> ?_
       refine aO (fun w m=>m.bQ 0 rfl (show _=aG 5 1 (.slice A_x (o2.length+1) c_x) (o2.length+1) (aV (o2++[o2.getD (o2.length-dd) 0]))from congrArg (aG _ _ _ _) (bH _ _).symm)) ?_
       have hl1:o2.length+1=(o2++[o2.getD (o2.length-dd) 0]).length:=by simp
       rw[hl1]at hc_x hA_x ⊢
       refine hy (fun _=>ab rfl)<|ai<|al (ρ' :=[(6,_),(49,_),(11,_),(37,_),(35,_),(29,_),(10,_),(9,_),(8,_),(7,_),(14,_),(0,_),(1,_)]) ⟨rfl,rfl,rfl,rfl,rfl,rfl,rfl,rfl,rfl,rfl,rfl,rfl,rfl,trivial⟩<|ak (X' :=[_,_]) (S' :=[_,_]) (fun _ m=>m)<|aQ<|ag<|aj<|hy (fun _=>aa rfl)<|hy (fun _=>aM rfl rfl (bG (by omega) (by omega)))<|hy (fun _=>ab rfl)<|ai<|al (ρ' :=[(11,_),(6,_),(49,_),(37,_),(35,_),(29,_),(10,_),(9,_),(8,_),(7,_),(14,_),(0,_),(1,_)]) ⟨rfl,rfl,rfl,rfl,rfl,rfl,rfl,rfl,rfl,rfl,rfl,rfl,rfl,trivial⟩<| ?_
       refine eJ (k2+1) (o2++[o2.getD (o2.length-dd) 0]) A_x c_x ⟨rfl,rfl,rfl,rfl,rfl,rfl,rfl,rfl,rfl,rfl,rfl,rfl,trivial⟩ [0] rfl [0,1] rfl (⟨by omega,by rw[←hl1];omega,hag2⟩) (by omega)
      ·obtain rfl:k2=nn:=by omega
       have hag2:o2=made p o:=by rw[←hag,Nat.sub_self];rfl
       rw[hag2]
       refine bx (fun w m=>m.iW 0 rfl (View.drop (n:=p.length) (c:=c2) (k:=sz) (by omega) (by omega))) ?_
       refine aY (fun m=>gY (m.rd 0 rfl)) ?_
       rintro⟨hl_p2,hA_p2⟩
       refine bJ<|ao<|ao<|aB<|ag<|aj<|hy (fun _=>aa rfl)<|hy (fun _=>aa rfl)<|hy (fun _=>dM rfl rfl Tryz.underlying27 ea rfl (by omega))<|hy (fun _=>ab rfl)<|ai<|al (ρ' :=[(0,_),(49,_),(11,_),(6,_),(37,_),(35,_),(29,_),(10,_),(9,_),(8,_),(7,_),(14,_),(1,_)]) ⟨rfl,rfl,rfl,rfl,rfl,rfl,rfl,rfl,rfl,rfl,rfl,rfl,rfl,trivial⟩<|aQ<| ?_
       rw[hdl]
       refine gg (p.drop sz) (made p o) _ (c2-sz) A4 c4 ⟨rfl,rfl,rfl,trivial⟩ [0] rfl [0,2] rfl (⟨by rw[←hdl];omega,by rw[←hdl];omega,hmn,hU⟩) (by rw[←hdl];omega)
 ·have hp0:p=[]:=List.eq_nil_of_length_eq_zero (by omega)
  rw[hp0,o9]at hU
  rw[←hU]
  refine bJ<|ao<|ao<|aB<|ag<|ah<|aj<|hy (fun _=>aa rfl)<|hy (fun _=>ab rfl)<|hy (fun _=>ab rfl)<|ai<|al (ρ' :=[(5,_),(4,_),(14,_),(0,_),(6,_),(1,_)]) ⟨rfl,rfl,rfl,rfl,rfl,rfl,trivial⟩<|ag<|aX<| ?_
  exact dF trivial rfl rfl rfl [0] rfl [] rfl ⟨_,rfl,rfl,rfl⟩
end Go.Proofs.YtmibdabdlgmafaaGreatDoor
end
section
set_option maxRecDepth 20000
set_option maxHeartbeats 4000000
namespace Go.Proofs.YtmibdabdlgmafaaGreatDoor
open Go.Eng Go.Hx
theorem pS{f:List UInt8}{most:Int}(h:gS f=none):dh f most=([],2):=by unfold dh;rw[h]
theorem rD{f:List UInt8}{most:Int}{k:Nat}(h:gS f=some k)(hm:most<(k:Int)):dh f most=([],3):=by unfold dh;rw[h];simp only;rw[if_pos hm]
theorem tM{f:List UInt8}{most:Int}{k:Nat}(h:gS f=some k)(hm:¬most<(k:Int)):dh f most=fX f k:=by unfold dh;rw[h];simp only;rw[if_neg hm]
theorem tH{f:List UInt8}{k:Nat}(h:gS f=some k):10≤f.length∧k<4294967296:=by
 unfold gS at h
 split at h
 ·cases h
 ·rename_i hq
  cases h
  exact⟨by have:¬f.length<10:=fun e=>hq (.inl e);omega,Cf _⟩
theorem FT{A:Option Addr}{c:Nat}{f:List UInt8}{most:Int}(hc:f.length≤c)(hn:f.length≤10000000)(hm:most≤1000000):ck Tryz.prog 155 [.slice A f.length c,.int .i64 most] [] [dr 1 A f.length (aV f)] (fun v_ X_ S_=>∃v,v_=(.tuple #[v,.int .i64 (dh f most).2])∧X_=[aG 5 1 v (dh f most).1.length (aV (dh f most).1)]∧S_=[]):=by
 refine Ch (N:=54) Tryz.func155 rfl rfl (by simp) fun b=> ?_
 refine aY (fun m=>gY (m.rd 0 rfl)) ?_
 rintro⟨hl_r,hA_r⟩
 refine ah<|aj<| ?_
 refine hx (aN tB (fun g4=> ?_))
 refine aO (fun w m=>m.bQ 0 rfl (show _=aL g4 27 [.slice none 0 0]from rfl)) ?_
 refine hx (aN G3 (fun g5=> ?_))
 refine aO (fun w m=>m.bQ 0 rfl (show _=aL g5 47 [.int .i64 0]from rfl)) ?_
 rcases hL:gS f with _|k
 ·refine ai<|ak (X' :=[_,_]) (S' :=[_]) (fun _ m=>m)<|ag<|ah<|aj<|hy (fun _=>kD rfl rfl)<|xi rfl rfl<|ai<|al (ρ' :=[(5,_),(4,_),(0,_),(1,_)]) ⟨rfl,rfl,rfl,rfl,trivial⟩<|ag<|ah<|aj<|hy (fun _=>aa rfl)<| ?_
  refine hx (aq rfl Tryz.call211 (sK (by omega) (by omega) rfl) [] rfl [0] rfl ?_)
  rintro _ _ _ ⟨rfl,rfl,rfl⟩
  refine hy (fun _=>aa rfl)<|hy (fun _=>ar rfl rfl)<|hy (fun _=>ar rfl rfl)<|hy (fun _=>ab rfl)<| ?_
  refine cL (dV 0 rfl rfl rfl x3 rfl (by first|exact Nat.le_of_ble_eq_true rfl|simp) ?_)
  refine ai<|al (ρ' :=[(6,_),(5,_),(4,_),(0,_),(1,_)]) ⟨rfl,rfl,rfl,rfl,rfl,trivial⟩<|ak (X' :=[_,_]) (S' :=[_]) (fun _ m=>m)<|ag<|ah<|aj<|hy (fun m=>ay rfl lP (aE (m.a6 0 rfl) rfl))<|hy (fun _=>cJ rfl rfl)<|hy (fun m=>ay rfl lP (aE (m.a6 0 rfl) rfl))<| ?_
  refine hx (gM rfl Tryz.call212 (oB) [] rfl [] rfl ?_ ?_)
  ·rintro _ _ _ ⟨rfl,rfl,rfl,q1⟩
   refine ey<|jg<| ?_
   rw[hL]
   rw[(pS hL)]
   refine mL (by simp) Tryz.call210 (gq) [1,0] rfl [] rfl ?_
   rintro _ _ _ ⟨rfl,rfl,rfl⟩
   refine p6 (fun w m=>m.dm (r' :=aG 5 1 (.slice none 0 0) 0 []) (.refl _ _) (Own.nil _ _ _ _) (fun k hk=>hk.elim)) ?_
   exact ik rfl rfl rfl ek lP (fun m=>aE (m.a6 1 rfl) (i:=0) rfl) (fun m=>aE (m.a6 2 rfl) (i:=0) rfl) [0] rfl [] rfl ⟨_,rfl,rfl,rfl⟩
  ·rintro _ _ _ ⟨rfl,rfl,rfl,q1⟩
   exact absurd q1 (by rw[hL];simp)
 ·refine ai<|ak (X' :=[_,_]) (S' :=[_]) (fun _ m=>m)<|ag<|ah<|aj<|hy (fun _=>kD rfl rfl)<|xi rfl rfl<|ai<|al (ρ' :=[(5,_),(4,_),(0,_),(1,_)]) ⟨rfl,rfl,rfl,rfl,trivial⟩<|ag<|ah<|aj<|hy (fun _=>aa rfl)<| ?_
  refine hx (aq rfl Tryz.call211 (sK (by omega) (by omega) (by omega)) [] rfl [0] rfl ?_)
  rintro _ _ _ ⟨rfl,rfl,rfl⟩
  refine hy (fun _=>aa rfl)<|hy (fun _=>ar rfl rfl)<|hy (fun _=>ar rfl rfl)<|hy (fun _=>ab rfl)<| ?_
  refine cL (dV 0 rfl rfl rfl x3 rfl (by first|exact Nat.le_of_ble_eq_true rfl|simp) ?_)
  refine ai<|al (ρ' :=[(6,_),(5,_),(4,_),(0,_),(1,_)]) ⟨rfl,rfl,rfl,rfl,rfl,trivial⟩<|ak (X' :=[_,_]) (S' :=[_]) (fun _ m=>m)<|ag<|ah<|aj<|hy (fun m=>ay rfl lP (aE (m.a6 0 rfl) rfl))<|hy (fun _=>cJ rfl rfl)<|hy (fun m=>ay rfl lP (aE (m.a6 0 rfl) rfl))<| ?_
  refine hx (gM rfl Tryz.call212 (oB) [] rfl [] rfl ?_ ?_)
  ·rintro _ _ _ ⟨rfl,rfl,rfl,q1⟩
   refine ey<|jg<| ?_
   exact absurd q1 (by rw[hL];simp)
  ·rintro _ _ _ ⟨rfl,rfl,rfl,q1⟩
   rw[hL,Option.getD_some]
   refine ai<|al (ρ' :=[(6,_),(5,_),(4,_),(0,_),(1,_)]) ⟨rfl,rfl,rfl,rfl,rfl,trivial⟩<|ak (X' :=[_,_]) (S' :=[_]) (fun _ m=>m)<|ag<|ah<|aj<|hy (fun _=>aa rfl)<|hy (fun _=>aa rfl)<|hy (fun _=>oD rfl rfl)<| ?_
   refine hx (gM rfl Tryz.call212 (oB) [] rfl [] rfl ?_ ?_)
   ·rintro _ _ _ ⟨rfl,rfl,rfl,q2⟩
    refine ey<|jg<| ?_
    rw[(rD hL (Int.not_le.1 (of_decide_eq_false q2)))]
    refine mL (by simp) Tryz.call210 (gq) [1,0] rfl [] rfl ?_
    rintro _ _ _ ⟨rfl,rfl,rfl⟩
    refine p6 (fun w m=>m.dm (r' :=aG 5 1 (.slice none 0 0) 0 []) (.refl _ _) (Own.nil _ _ _ _) (fun k hk=>hk.elim)) ?_
    exact ik rfl rfl rfl ek lP (fun m=>aE (m.a6 1 rfl) (i:=0) rfl) (fun m=>aE (m.a6 2 rfl) (i:=0) rfl) [0] rfl [] rfl ⟨_,rfl,rfl,rfl⟩
   ·rintro _ _ _ ⟨rfl,rfl,rfl,q2⟩
    obtain⟨h10,hk32⟩:=tH hL
    have hkm:(k:Int)≤most:=of_decide_eq_true q2
    have hopen:=tM hL (Int.not_lt.2 hkm)
    refine aO (fun w m=>m.iW 0 rfl (View.sub (n:=f.length) (c:=c) (k:=6) (m:=f.length-10) (by omega) (by omega))) ?_
    refine aA (fun m=>gY (m.rd 0 rfl)) ?_
    rintro⟨hl_p,hA_p⟩
    refine ai<|al (ρ' :=[(6,_),(5,_),(4,_),(0,_),(1,_)]) ⟨rfl,rfl,rfl,rfl,rfl,trivial⟩<|ak (X' :=[_,_]) (S' :=[_,_]) (fun _ m=>m)<|ag<|ah<|aj<|hy (fun _=>aa rfl)<|hy (fun _=>aa rfl)<|hy (fun _=>aS rfl Tryz.underlying27)<|hy (fun _=>yV (cn rfl rfl (bG (by omega) (by omega))) ((show Value.int .i64 ((f.length:Int)-4)= .int .i64 ((f.length-4:Nat):Int) by congr 1;omega)))<|hy (fun _=>yV (eS rfl rfl rfl Tryz.underlying27 ea (show((6:Nat):Int)=6 from rfl) rfl (by omega) (by omega)) ((show Value.slice (if c=6 then A else A.map (·.add (6*1))) (f.length-4-6) (c-6)= .slice (if c=6 then A else A.map (·.add (6*1))) (f.length-10) (c-6) by congr 1)))<| ?_
    refine hx (aq rfl Tryz.call117 (su (by omega)) [] rfl [0] rfl ?_)
    rintro _ _ _ ⟨v,rfl,rfl,rfl⟩
    refine aA (fun m=>(m.own 0 rfl).slice) ?_
    rintro⟨A_x,c_x,rfl,hc_x⟩
    refine aA (fun m=>(m.ord 0 rfl).2.1) fun hA_x=> ?_
    have hbl:f.length-10=(dG f).length:=by unfold dG;rw[List.length_take,List.length_drop];omega
    have hb2:(f.drop 6).take (dG f).length=dG f:=by rw[←hbl];rfl
    rw[hbl,hb2]
    rw[hbl]at hc_x
    refine cL (dV 2 rfl rfl rfl p9 rfl (by first|exact Nat.le_of_ble_eq_true rfl|simp) ?_)
    refine ai<|al (ρ' :=[(6,_),(5,_),(4,_),(0,_),(1,_)]) ⟨rfl,rfl,rfl,rfl,rfl,trivial⟩<|ak (X' :=[_,_,_]) (S' :=[_,_]) (fun _ m=>m)<|ag<|ah<|ah<|aj<|hy (fun _=>aa rfl)<| ?_
    refine hx (aq rfl Tryz.call213 (BM (by omega) (by omega) rfl) [] rfl [1] rfl ?_)
    rintro _ _ _ ⟨rfl,rfl,rfl⟩
    refine ai<|al (ρ' :=[(28,_),(6,_),(5,_),(4,_),(0,_),(1,_)]) ⟨rfl,rfl,rfl,rfl,rfl,rfl,trivial⟩<|ak (X' :=[_,_,_]) (S' :=[_,_]) (fun _ m=>m)<|ag<| ?_
    refine cD rfl (fun hpk=> ?_) (fun hpk=> ?_)
    ·have hu:vF f k=j0 (k:Int) (dG f) []:=by
      unfold vF
      exact if_pos hpk.2
     have hkz:(k:Int)≤10000000:=by omega
     have hul:=pU (most:=(k:Int)) (dG f) [] (by simp)
     have hbn:(dG f).length≤10000000:=by omega
     refine ah<|aj<|hy (fun m=>ay rfl ek (aE (m.a6 0 rfl) rfl))<|hy (fun _=>aa rfl)<| ?_
     refine hx (cM rfl Tryz.call214 (CP hc_x hbn hkz) [] rfl (.x 1 rfl .own .nil) ?_)
     rintro _ _ _ ⟨v2,rfl,rfl,rfl⟩
     refine⟨rfl, ?_⟩
     refine aA (fun m=>(m.own 0 rfl).slice) ?_
     rintro⟨A_x2,c_x2,rfl,hc_x2⟩
     refine aA (fun m=>(m.ord 0 rfl).2.1) fun hA_x2=> ?_
     refine hy (fun _=>aa rfl)<|hy (fun _=>ar rfl rfl)<|hy (fun _=>ar rfl rfl)<| ?_
     refine cL (dV 1 rfl rfl rfl p9 rfl (by first|exact Nat.le_of_ble_eq_true rfl|simp) ?_)
     refine cL (dV 3 rfl rfl rfl x3 rfl (by first|exact Nat.le_of_ble_eq_true rfl|simp) ?_)
     refine ai<|al (ρ' :=[(28,_),(6,_),(5,_),(4,_),(0,_),(1,_)]) ⟨rfl,rfl,rfl,rfl,rfl,rfl,trivial⟩<|ak (X' :=[_,_,_,_]) (S' :=[_,_]) (fun _ m=>m)<|ag<|aj<|hy (fun m=>ay rfl lP (aE (m.a6 0 rfl) rfl))<|hy (fun _=>cJ rfl rfl)<| ?_
     refine hx (gM rfl Tryz.call212 (oB) [] rfl [] rfl ?_ ?_)
     ·rintro _ _ _ ⟨rfl,rfl,rfl,q3⟩
      refine ey<|jg<| ?_
      have hno:dh f most=([],2):=by
       rw[hopen]
       unfold fX
       rw[hu]
       exact if_pos (of_decide_eq_false q3)
      rw[hno]
      refine mL (by simp) Tryz.call210 (gq) [1,0] rfl [] rfl ?_
      rintro _ _ _ ⟨rfl,rfl,rfl⟩
      refine p6 (fun w m=>m.dm (r' :=aG 5 1 (.slice none 0 0) 0 []) (.refl _ _) (Own.nil _ _ _ _) (fun k hk=>hk.elim)) ?_
      exact ik rfl rfl rfl ek lP (fun m=>aE (m.a6 1 rfl) (i:=0) rfl) (fun m=>aE (m.a6 2 rfl) (i:=0) rfl) [0] rfl [] rfl ⟨_,rfl,rfl,rfl⟩
     ·rintro _ _ _ ⟨rfl,rfl,rfl,q3⟩
      have hE0:(j0 (k:Int) (dG f) []).2=0:=of_decide_eq_true q3
      obtain⟨u,hu2⟩:∃u,j0 (k:Int) (dG f) []=(u,0):=⟨_,Prod.ext rfl hE0⟩
      rw[hu2]at hu hul
      rw[hu2]
      dsimp only
      have hun:u.length≤1000000:=by
       rcases hul.1 with h|h
       ·have h:(u.length:Int)≤k:=h
        omega
       ·have h:u=[]:=h
        rw[h];exact Nat.zero_le _
      refine ai<|al (ρ' :=[(28,_),(6,_),(5,_),(4,_),(0,_),(1,_)]) ⟨rfl,rfl,rfl,rfl,rfl,rfl,trivial⟩<|ak (X' :=[_,_,_,_]) (S' :=[_,_]) (fun _ m=>m)<|ag<|ah<|aj<|hy (fun m=>ay rfl ek (aE (m.a6 1 rfl) rfl))<|hy (fun _=>aS rfl Tryz.underlying27)<|hy (fun _=>aa rfl)<|hy (fun _=>cJ rfl rfl)<| ?_
      refine hx (gM rfl Tryz.call212 (oB) [] rfl [] rfl ?_ ?_)
      ·rintro _ _ _ ⟨rfl,rfl,rfl,q4⟩
       refine ey<|jg<| ?_
       have hno:dh f most=([],2):=by
        rw[hopen]
        unfold fX
        rw[hu]
        exact(if_neg (by simp)).trans (if_pos (by have:=of_decide_eq_false q4;simp only;omega))
       rw[hno]
       refine mL (by simp) Tryz.call210 (gq) [1,0] rfl [] rfl ?_
       rintro _ _ _ ⟨rfl,rfl,rfl⟩
       refine p6 (fun w m=>m.dm (r' :=aG 5 1 (.slice none 0 0) 0 []) (.refl _ _) (Own.nil _ _ _ _) (fun k hk=>hk.elim)) ?_
       exact ik rfl rfl rfl ek lP (fun m=>aE (m.a6 1 rfl) (i:=0) rfl) (fun m=>aE (m.a6 2 rfl) (i:=0) rfl) [0] rfl [] rfl ⟨_,rfl,rfl,rfl⟩
      ·rintro _ _ _ ⟨rfl,rfl,rfl,q4⟩
       have hlen:(u).length=k:=by have:=of_decide_eq_true q4;omega
       have hgo:dh f most=if gI (cZ u)≠f.drop (f.length-4)then([],7)else(u,0):=by
        rw[hopen]
        unfold fX
        rw[hu]
        exact(if_neg (by simp)).trans (if_neg (by simp only;omega))
       refine aO (fun w m=>m.iW 1 rfl (View.drop (n:=f.length) (c:=c) (k:=f.length-4) (by omega) (by omega))) ?_
       refine aA (fun m=>gY (m.rd 0 rfl)) ?_
       rintro⟨hl_t,hA_t⟩
       have hcl:=jL u
       refine ai<|al (ρ' :=[(28,_),(6,_),(5,_),(4,_),(0,_),(1,_)]) ⟨rfl,rfl,rfl,rfl,rfl,rfl,trivial⟩<|ak (X' :=[_,_,_,_]) (S' :=[_,_,_]) (fun _ m=>m)<|ag<|ah<|zF [43,44,45,46,47,48,49,50,51,52] [0,0,0,0] [0,1,2] rfl rfl [1,2,8,9] [(0,some 0),(3,some 2),(4,some 4),(5,some 2),(6,some 2),(7,some 2),(1,none),(2,none),(8,none),(9,none)] (by kernel_rfl) (by kernel_rfl) (by kernel_rfl) rfl 99<|cr (fun m=>ay rfl ek (aE (m.a6 1 rfl) rfl))<|an (aa rfl)<|an (aa rfl)<|an (aS rfl Tryz.underlying27)<|an (yV (cn rfl rfl (bG (by omega) (by omega))) ((show Value.int .i64 ((f.length:Int)-4)= .int .i64 ((f.length-4:Nat):Int) by congr 1;omega)))<|an (dM rfl rfl Tryz.underlying27 ea rfl (by omega))<| ?_
       refine ew (cM rfl Tryz.call180 (o8 (by omega)) [] rfl (.x 2 rfl .own .nil) ?_)
       rintro _ _ _ ⟨rfl,rfl,rfl⟩
       refine⟨rfl, ?_⟩
       refine⟨(fun _=>wk [0,0,0,0] [0,1,2] rfl rfl), ?_⟩
       refine ew (aq rfl Tryz.call179 (jG (by omega)) [] rfl [] rfl ?_)
       rintro _ _ _ ⟨v3,rfl,rfl,rfl⟩
       refine⟨(fun _=>wk [1,1,1,1] [0,1,2] rfl rfl), ?_⟩
       refine cA (fun m=>(m.own 0 rfl).slice) ?_
       rintro⟨A_x3,c_x3,rfl,hc_x3⟩
       refine cA (fun m=>(m.ord 0 rfl).2.1) fun hA_x3=> ?_
       refine ew (cM rfl Tryz.call215 (oG) [] rfl (.x 0 rfl .own (.s 0 rfl .nil)) ?_)
       rintro _ _ _ ⟨rfl,rfl,rfl⟩
       refine⟨rfl, ?_⟩
       refine⟨(fun _=>wk [1,1,1,1] [0,1,2] rfl rfl), ?_⟩
       refine ew (gM rfl Tryz.call212 (oB) [] rfl [] rfl ?_ ?_)
       ·rintro _ _ _ ⟨rfl,rfl,rfl,q5⟩
        refine DC<|ey<|jg<| ?_
        rw[(hgo.trans (if_pos (of_decide_eq_false q5)))]
        refine mL (by simp) Tryz.call210 (gq) [2,1] rfl [] rfl ?_
        rintro _ _ _ ⟨rfl,rfl,rfl⟩
        refine p6 (fun w m=>m.dm (r' :=aG 5 1 (.slice none 0 0) 0 []) (.refl _ _) (Own.nil _ _ _ _) (fun k hk=>hk.elim)) ?_
        exact ik rfl rfl rfl ek lP (fun m=>aE (m.a6 1 rfl) (i:=0) rfl) (fun m=>aE (m.a6 2 rfl) (i:=0) rfl) [0] rfl [] rfl ⟨_,rfl,rfl,rfl⟩
       ·rintro _ _ _ ⟨rfl,rfl,rfl,q5⟩
        refine⟨(fun _=>wk [1,1,1,1] [0,1,2] rfl rfl), ?_⟩
        rw[hgo.trans (if_neg (fun h=>h (of_decide_eq_true q5)))]
        refine A5<|al (ρ' :=[(28,_),(6,_),(5,_),(4,_),(0,_),(1,_)]) ⟨rfl,rfl,rfl,rfl,rfl,rfl,trivial⟩<|ak (X' :=[_,_,_,_,_]) (S' :=[_,_,_]) (fun _ m=>m)<|ag<|ah<|aj<|hy (fun m=>ay rfl ek (aE (m.a6 2 rfl) rfl))<| ?_
        refine cL (dV 2 rfl rfl rfl p9 rfl (by first|exact Nat.le_of_ble_eq_true rfl|simp) ?_)
        refine cL (dV 2 rfl rfl rfl x3 rfl (by first|exact Nat.le_of_ble_eq_true rfl|simp) ?_)
        refine ai<|al (ρ' :=[(28,_),(6,_),(5,_),(4,_),(0,_),(1,_)]) ⟨rfl,rfl,rfl,rfl,rfl,rfl,trivial⟩<|ak (X' :=[_,_,_,_,_]) (S' :=[_,_,_]) (fun _ m=>m)<|ag<|aX<| ?_
        refine vH trivial ?_
        refine mL (by simp) Tryz.call210 (tK) [1,0] rfl [] rfl ?_
        rintro _ _ _ ⟨rfl,rfl,rfl⟩
        exact ik rfl rfl rfl ek lP (fun m=>aE (m.a6 0 rfl) (i:=0) rfl) (fun m=>aE (m.a6 1 rfl) (i:=0) rfl) [3] rfl [] rfl ⟨_,rfl,rfl,rfl⟩
    ·have hu:vF f k=(dG f,0):=by
      unfold vF
      exact if_neg fun e=>hpk ⟨by rw[hL];rfl,e⟩
     refine aD<|ag<|ah<|aj<|hy (fun m=>ay rfl ek (aE (m.a6 0 rfl) rfl))<|hy (fun _=>aS rfl Tryz.underlying27)<|hy (fun _=>aa rfl)<|hy (fun _=>cJ rfl rfl)<| ?_
     refine hx (gM rfl Tryz.call212 (oB) [] rfl [] rfl ?_ ?_)
     ·rintro _ _ _ ⟨rfl,rfl,rfl,q4⟩
      refine ey<|jg<| ?_
      have hno:dh f most=([],2):=by
       rw[hopen]
       unfold fX
       rw[hu]
       exact(if_neg (by simp)).trans (if_pos (by have:=of_decide_eq_false q4;simp only;omega))
      rw[hno]
      refine mL (by simp) Tryz.call210 (gq) [0,1] rfl [] rfl ?_
      rintro _ _ _ ⟨rfl,rfl,rfl⟩
      refine p6 (fun w m=>m.dm (r' :=aG 5 1 (.slice none 0 0) 0 []) (.refl _ _) (Own.nil _ _ _ _) (fun k hk=>hk.elim)) ?_
      exact ik rfl rfl rfl ek lP (fun m=>aE (m.a6 1 rfl) (i:=0) rfl) (fun m=>aE (m.a6 2 rfl) (i:=0) rfl) [0] rfl [] rfl ⟨_,rfl,rfl,rfl⟩
     ·rintro _ _ _ ⟨rfl,rfl,rfl,q4⟩
      have hlen:((dG f)).length=k:=by have:=of_decide_eq_true q4;omega
      have hgo:dh f most=if gI (cZ (dG f))≠f.drop (f.length-4)then([],7)else((dG f),0):=by
       rw[hopen]
       unfold fX
       rw[hu]
       exact(if_neg (by simp)).trans (if_neg (by simp only;omega))
      refine aO (fun w m=>m.iW 1 rfl (View.drop (n:=f.length) (c:=c) (k:=f.length-4) (by omega) (by omega))) ?_
      refine aA (fun m=>gY (m.rd 0 rfl)) ?_
      rintro⟨hl_t,hA_t⟩
      have hcl:=jL (dG f)
      refine ai<|al (ρ' :=[(28,_),(6,_),(5,_),(4,_),(0,_),(1,_)]) ⟨rfl,rfl,rfl,rfl,rfl,rfl,trivial⟩<|ak (X' :=[_,_,_]) (S' :=[_,_,_]) (fun _ m=>m)<|ag<|ah<|zF [43,44,45,46,47,48,49,50,51,52] [0,0,0] [0,1,2] rfl rfl [1,2,8,9] [(0,some 0),(3,some 2),(4,some 4),(5,some 2),(6,some 2),(7,some 2),(1,none),(2,none),(8,none),(9,none)] (by kernel_rfl) (by kernel_rfl) (by kernel_rfl) rfl 99<|cr (fun m=>ay rfl ek (aE (m.a6 0 rfl) rfl))<|an (aa rfl)<|an (aa rfl)<|an (aS rfl Tryz.underlying27)<|an (yV (cn rfl rfl (bG (by omega) (by omega))) ((show Value.int .i64 ((f.length:Int)-4)= .int .i64 ((f.length-4:Nat):Int) by congr 1;omega)))<|an (dM rfl rfl Tryz.underlying27 ea rfl (by omega))<| ?_
      refine ew (cM rfl Tryz.call180 (o8 (by omega)) [] rfl (.x 1 rfl .own .nil) ?_)
      rintro _ _ _ ⟨rfl,rfl,rfl⟩
      refine⟨rfl, ?_⟩
      refine⟨(fun _=>wk [0,0,0] [0,1,2] rfl rfl), ?_⟩
      refine ew (aq rfl Tryz.call179 (jG (by omega)) [] rfl [] rfl ?_)
      rintro _ _ _ ⟨v2,rfl,rfl,rfl⟩
      refine⟨(fun _=>wk [1,1,1] [0,1,2] rfl rfl), ?_⟩
      refine cA (fun m=>(m.own 0 rfl).slice) ?_
      rintro⟨A_x2,c_x2,rfl,hc_x2⟩
      refine cA (fun m=>(m.ord 0 rfl).2.1) fun hA_x2=> ?_
      refine ew (cM rfl Tryz.call215 (oG) [] rfl (.x 0 rfl .own (.s 0 rfl .nil)) ?_)
      rintro _ _ _ ⟨rfl,rfl,rfl⟩
      refine⟨rfl, ?_⟩
      refine⟨(fun _=>wk [1,1,1] [0,1,2] rfl rfl), ?_⟩
      refine ew (gM rfl Tryz.call212 (oB) [] rfl [] rfl ?_ ?_)
      ·rintro _ _ _ ⟨rfl,rfl,rfl,q5⟩
       refine DC<|ey<|jg<| ?_
       rw[(hgo.trans (if_pos (of_decide_eq_false q5)))]
       refine mL (by simp) Tryz.call210 (gq) [1,2] rfl [] rfl ?_
       rintro _ _ _ ⟨rfl,rfl,rfl⟩
       refine p6 (fun w m=>m.dm (r' :=aG 5 1 (.slice none 0 0) 0 []) (.refl _ _) (Own.nil _ _ _ _) (fun k hk=>hk.elim)) ?_
       exact ik rfl rfl rfl ek lP (fun m=>aE (m.a6 1 rfl) (i:=0) rfl) (fun m=>aE (m.a6 2 rfl) (i:=0) rfl) [0] rfl [] rfl ⟨_,rfl,rfl,rfl⟩
      ·rintro _ _ _ ⟨rfl,rfl,rfl,q5⟩
       refine⟨(fun _=>wk [1,1,1] [0,1,2] rfl rfl), ?_⟩
       rw[hgo.trans (if_neg (fun h=>h (of_decide_eq_true q5)))]
       refine A5<|al (ρ' :=[(28,_),(6,_),(5,_),(4,_),(0,_),(1,_)]) ⟨rfl,rfl,rfl,rfl,rfl,rfl,trivial⟩<|ak (X' :=[_,_,_,_]) (S' :=[_,_,_]) (fun _ m=>m)<|ag<|ah<|aj<|hy (fun m=>ay rfl ek (aE (m.a6 1 rfl) rfl))<| ?_
       refine cL (dV 1 rfl rfl rfl p9 rfl (by first|exact Nat.le_of_ble_eq_true rfl|simp) ?_)
       refine cL (dV 3 rfl rfl rfl x3 rfl (by first|exact Nat.le_of_ble_eq_true rfl|simp) ?_)
       refine ai<|al (ρ' :=[(28,_),(6,_),(5,_),(4,_),(0,_),(1,_)]) ⟨rfl,rfl,rfl,rfl,rfl,rfl,trivial⟩<|ak (X' :=[_,_,_,_]) (S' :=[_,_,_]) (fun _ m=>m)<|ag<|aX<| ?_
       refine vH trivial ?_
       refine mL (by simp) Tryz.call210 (tK) [1,0] rfl [] rfl ?_
       rintro _ _ _ ⟨rfl,rfl,rfl⟩
       exact ik rfl rfl rfl ek lP (fun m=>aE (m.a6 0 rfl) (i:=0) rfl) (fun m=>aE (m.a6 1 rfl) (i:=0) rfl) [3] rfl [] rfl ⟨_,rfl,rfl,rfl⟩
end Go.Proofs.YtmibdabdlgmafaaGreatDoor
end
section
set_option maxRecDepth 20000
namespace Go.Proofs.YtmibdabdlgmafaaGreatDoor
open Go.Eng Go.Hx
structure tN where
 h:List UInt32
 n:Nat
 A:Option Addr
 c:Nat
 rest:List UInt8
def nt(h:List UInt32)(n:Nat)(A:Option Addr)(m c:Nat):List Value:=ei h++[.int .i64 (n:Int),.slice A m c]
abbrev nu(g:Nat)(s:tN):bn:=fJ [aL g 308 (nt s.h s.n s.A s.rest.length s.c),aG 5 1 (.slice s.A s.rest.length s.c) s.rest.length (aV s.rest)]
structure tN.ok(s:tN)(all:List UInt8):Prop where
 len:s.h.length=8
 n:s.n=all.length
 Hk:∃d,d++s.rest=all∧d.length % 64=0∧s.h=fz mw d
theorem kr{h:List UInt32}{n:Nat}{A:Option Addr}{m c:Nat}(hh:h.length=8):(nt h n A m c).length=10:=by simp[nt,ei,hh]
theorem wV{h:List UInt32}{n:Nat}{A:Option Addr}{m c:Nat}(hh:h.length=8):(nt h n A m c)[8]? =some (.int .i64 (n:Int)):=by
 rw[nt,List.getElem?_append_right (by rw[bA];omega),bA,hh];rfl
theorem tI{h:List UInt32}{n:Nat}{A:Option Addr}{m c:Nat}(hh:h.length=8):(nt h n A m c)[9]? =some (.slice A m c):=by
 rw[nt,List.getElem?_append_right (by rw[bA];omega),bA,hh];rfl
theorem Aj{h:List UInt32}{n:Nat}{A:Option Addr}{m c:Nat}{j:Nat}{u:Value}(hu:(ei h)[j]? =some u):(nt h n A m c)[j]? =some u:=by
 rw[nt,List.getElem?_append_left ((List.getElem?_eq_some_iff.1 hu).1)];exact hu
theorem Be{h:List UInt32}{n n' :Nat}{A:Option Addr}{m c:Nat}(hh:h.length=8):(nt h n A m c).set 8 (.int .i64 (n' :Int))=nt h n' A m c:=by
 rw[nt,List.set_append_right _ _ (by rw[bA];omega),bA,hh];rfl
theorem ua{h:List UInt32}{n:Nat}{A A' :Option Addr}{m c m' c' :Nat}(hh:h.length=8):(nt h n A m c).set 9 (.slice A' m' c')=nt h n A' m' c' :=by
 rw[nt,List.set_append_right _ _ (by rw[bA];omega),bA,hh];rfl
theorem BT{h h' :List UInt32}{n:Nat}{A:Option Addr}{m c:Nat}(hh:h.length=8)(hh' :h'.length=8):bI (nt h n A m c) 0 (ei h')=nt h' n A m c:=by
 rw[bI,List.take_zero,List.nil_append,Nat.zero_add,bA,hh',nt,List.drop_append_of_le_length (by rw[bA];omega),List.drop_of_length_le (by rw[bA];omega)];rfl
theorem F7:ck Tryz.prog 172 [] [] [] (fun v_ X_ S_=>∃g,v_=(.pointer (some ⟨g,0,none⟩))∧X_=[nu g ⟨mw,0,none,0,[]⟩]∧S_=[]):=by
 refine aP (N:=4) Tryz.func172 rfl rfl (by simp) fun b=> ?_
 refine ah<|aj<|hy (fun _=>ab rfl)<|ai<|ag<|ah<|aj<|hy (fun _=>yV (tW (n:=8) wy (by kernel_rfl) rfl (by kernel_rfl) rfl (by kernel_rfl) (by kernel_rfl) (rk (l:=[1779033703,3144134277,1013904242,2773480762,1359893119,2600822924,528734635,1541459225]))) ((rfl:_=Value.agg (ei mw).toArray)))<|hy (fun _=>yV (cC Du rfl rfl (by kernel_rfl) (.cons (o:=0) (sz:=8) (by kernel_rfl) rfl rfl (Nat.le_of_ble_eq_true rfl) .nil)) ((rfl:_=Value.agg (nt mw 0 none 0 0).toArray)))<| ?_
 refine hx (cw rfl (fun g3=> ?_))
 refine hy (fun _=>ab rfl)<|ai<|al (ρ' :=[(0,_)]) ⟨rfl,trivial⟩<|ak (X' :=[_]) (S' :=[]) (fun _ m=>m)<|ag<|aX<| ?_
 refine ak (fun w m=>m.bQ 0 rfl (show _=aL g3 308 (nt mw 0 none 0 0)from congrArg (aL _ _) (bp _))) ?_
 refine ak (fun w m=>m.dm (r' :=aG 5 1 (.slice none 0 0) 0 []) (.refl _ _) (Own.nil _ _ _ _) (fun k hk=>hk.elim)) ?_
 refine ak (X' :=nu g3 ⟨mw,0,none,0,[]⟩::_) (fun w m=>(m.perm (au [1,0] _ [_,_] _ rfl)).pack) ?_
 exact bg trivial rfl rfl [0] rfl [] rfl ⟨_,rfl,rfl,rfl⟩
theorem EU:tN.ok ⟨mw,0,none,0,[]⟩ []:=⟨rfl,rfl,[],rfl,rfl,rfl⟩
theorem wi{g:Nat}{s:tN}{B:Option Addr}{mb mc:Nat}{l:List UInt8}(hh:s.h.length=8)(hn:s.n+mb≤1000000000000000)(hr:s.rest.length+mb≤140737488355328):ck Tryz.prog 173 [.pointer (some ⟨g,0,none⟩),.slice B mb mc] [nu g s] [dr 1 B mb (aV l),fh] (fun v_ X_ S_=>∃s1,v_=(.tuple #[])∧X_=[nu g s1]∧S_=[]∧(s1.rest.length<64∧∀all,s.ok all→s1.ok (all++l))):=by
 refine aP (N:=49) Tryz.func173 rfl rfl (by simp) fun b=> ?_
 refine aY (fun m=>gY (m.rd 0 rfl)) ?_
 rintro⟨hl_r,hA_r⟩
 have hlm:l.length=mb:=hl_r
 have hl0:=kr (n:=s.n) (A:=s.A) (m:=s.rest.length) (c:=s.c) hh
 refine bx (fun w m=>(m.perm (au [0] _ [_] _ rfl)).unpack) ?_
 refine ah<|aj<|hy (fun _=>aa rfl)<|hy (fun _=>bd rfl)<|hy (fun _=>aK rfl mI (by decide))<|hy (fun m=>ay rfl fS ((m.a6 0 rfl).ax 8 _ (wV hh)))<|hy (fun _=>aa rfl)<|hy (fun _=>aS rfl Tryz.underlying27)<|hy (fun _=>aM rfl rfl (bG (by omega) (by omega)))<|hy (fun _=>bd rfl)<|hy (fun _=>aK rfl mI (by decide))<| ?_
 refine cL (cG 0 rfl rfl rfl s8 rfl (by rw[hl0];decide) ?_)
 refine ai<|al (ρ' :=[(0,_),(1,_)]) ⟨rfl,rfl,trivial⟩<|ak (X' :=[_,_]) (S' :=[_,_]) (fun _ m=>m)<|ag<|ah<|aj<| ?_
 refine aO (fun w m=>m.bQ 0 rfl (show _=aL g 308 (nt s.h (s.n+mb) s.A s.rest.length s.c)from by rw[Nat.zero_add,←Int.natCast_add,Be hh])) ?_
 refine hy (fun _=>aa rfl)<|hy (fun _=>aa rfl)<|hy (fun _=>bd rfl)<|hy (fun _=>aK rfl kg (by decide))<|hy (fun m=>ay rfl ek ((m.a6 0 rfl).ax 9 _ (tI hh)))<|hy (fun _=>aa rfl)<| ?_
 refine hx (bu 1 rfl rfl rfl Tryz.underlying27 Tryz.underlying27 (by exact .inl rfl) fa rfl (fun m=>Src.bP (m.rd 0 rfl)) aZ (by unfold maxLen;omega) (by omega) (fun u=> ?_))
 refine aA (fun m=>(m.own 0 rfl).slice) ?_
 rintro⟨A_d1,c_d1,rfl,hc_d1⟩
 refine aA (fun m=>(m.ord 0 rfl).2.1) fun hA_d1=> ?_
 refine aO (fun w m=>m.bQ 0 rfl (show _=aG 5 1 (.slice A_d1 (s.rest++l).length c_d1) (s.rest++l).length (aV (s.rest++l))from by rw[List.length_append,hlm];simp[aV])) ?_
 have hls:=kr (n:=s.n+mb) (A:=s.A) (m:=s.rest.length) (c:=s.c) hh
 refine hy (fun _=>bd rfl)<|hy (fun _=>aK rfl kg (by decide))<| ?_
 refine cL (cG 1 rfl rfl rfl p9 rfl (by rw[hls];decide) ?_)
 refine ai<|al (ρ' :=[(0,_),(1,_)]) ⟨rfl,rfl,trivial⟩<|ak (X' :=[_,_]) (S' :=[_,_]) (fun _ m=>m)<|ag<|aI<| ?_
 refine bx (fun w m=>m.bQ 0 rfl (show _=aL g 308 (nt s.h (s.n+mb) A_d1 (s.rest++l).length c_d1)from by rw[Nat.zero_add,ua hh,List.length_append,hlm])) ?_
 have hlen:(s.rest++l).length=s.rest.length+mb:=by rw[List.length_append,hlm]
 refine vp (fun h A1 c1 q dn=>q.length) (fun h A1 c1 q dn=>[]) (fun h A1 c1 q dn=>[aL g 308 (nt h (s.n+mb) A1 q.length c1),aG 5 1 (.slice A1 q.length c1) q.length (aV q)]) (fun h A1 c1 q dn=>[]) (fun h A1 c1 q dn=>h.length=8∧q.length≤c1∧dn++q=s.rest++l∧dn.length % 64=0∧∀D,D.length % 64=0→s.h=fz mw D→h=fz mw (D++dn)) s.h A_d1 c_d1 (s.rest++l) [] [(0,_),(1,_)] ⟨rfl,rfl,trivial⟩ [0,0] rfl [] rfl (⟨hh,(by omega),rfl,rfl,fun D _ e=>by rw[List.append_nil];exact e⟩) trivial (fun h A1 c1 q dn ⟨h8,hqc,hdq,hd64,hD⟩=> ?_)
 have hls:=kr (n:=s.n+mb) (A:=A1) (m:=q.length) (c:=c1) h8
 refine ah<|ah<|aj<|hy (fun _=>aa rfl)<|hy (fun _=>bd rfl)<|hy (fun _=>aK rfl kg (by decide))<|hy (fun m=>ay rfl ek ((m.a6 0 rfl).ax 9 _ (tI h8)))<|hy (fun _=>aS rfl Tryz.underlying27)<|hy (fun _=>iP rfl rfl)<|ai<|al (ρ' :=[(27,_),(0,_),(1,_)]) ⟨rfl,rfl,rfl,trivial⟩<|ag<| ?_
 refine cD rfl (fun hge=> ?_) (fun hge=> ?_)
 ·have hq64:64≤q.length:=by omega
  refine aD<|ag<|aI<|ah<|c5 [10,13] [(0,some 1),(1,some 0),(2,some 0),(3,some 0),(4,some 0),(5,some 1),(6,some 0),(7,some 0),(8,some 0),(9,some 0),(10,none),(11,some 1),(12,some 1),(13,none)] (by kernel_rfl) (by kernel_rfl) rfl 1<|an (aa rfl)<|an (aa rfl)<|an (bd rfl)<|an (aK rfl oX (by decide))<|cr (fun m=>yV (aU rfl rY lS (by rw[bA,h8]) (fun j u hu=>(m.a6 0 rfl).ax j u (Aj hu))) ((rfl:_=Value.agg (ei h).toArray)))<|an (aa rfl)<|an (bd rfl)<|an (aK rfl kg (by decide))<|cr (fun m=>ay rfl ek ((m.a6 0 rfl).ax 9 _ (tI h8)))<|an (kZ rfl rfl Tryz.underlying27 ea (show((64:Nat):Int)=64 from rfl) (by omega))<| ?_
  refine ew (cM rfl Tryz.call227 (Hn (by omega) h8 (l:=(q.take 64))) [] rfl (.x 1 rfl (View.own.trans (View.take hq64)) (.s 1 rfl .nil)) ?_)
  rintro _ _ _ ⟨rfl,rfl,rfl⟩
  refine⟨rfl, ?_⟩
  refine⟨(fun _=>wk [0,0] [0,1] rfl rfl), ?_⟩
  refine an (bd rfl)<|an (aK rfl oX (by decide))<| ?_
  have hb8:=jo h8 (q.take 64)
  refine kE (lO 0 rfl rfl rfl lS (by rw[bA,hb8]) hC (by rw[hls];decide) ⟨(fun h=>absurd h (by decide)), ?_⟩)
  refine gP (fun w m=>m.bQ 0 rfl (show _=aL g 308 (nt (eC h (q.take 64)) (s.n+mb) A1 q.length c1)from by rw[Nat.zero_add,BT h8 hb8])) ?_
  have hls2:=kr (n:=s.n+mb) (A:=A1) (m:=q.length) (c:=c1) hb8
  refine gP (X' :=aG 5 1 (.slice (if c1=64 then A1 else A1.map (·.add (64*1))) (q.length-64) (c1-64)) (q.length-64) ((aV q).drop (64*1))::_) (fun w m=>(m.perm (au [1] _ [_] _ rfl)).wO (View.sj hq64 hqc)) ?_
  refine bD<|al (ρ' :=[(27,_),(0,_),(1,_)]) ⟨rfl,rfl,rfl,trivial⟩<|ak (X' :=[_,_]) (S' :=[_,_]) (fun _ m=>m)<|ag<|aj<|hy (fun _=>aa rfl)<|hy (fun _=>aa rfl)<|hy (fun _=>bd rfl)<|hy (fun _=>aK rfl kg (by decide))<|hy (fun m=>ay rfl ek ((m.a6 1 rfl).ax 9 _ (tI hb8)))<|hy (fun _=>dM rfl rfl Tryz.underlying27 ea (show((64:Nat):Int)=64 from rfl) (by omega))<|hy (fun _=>bd rfl)<|hy (fun _=>aK rfl kg (by decide))<| ?_
  refine cL (cG 1 rfl rfl rfl p9 rfl (by rw[hls2];decide) ?_)
  refine ai<|al (ρ' :=[(27,_),(0,_),(1,_)]) ⟨rfl,rfl,rfl,trivial⟩<|ak (X' :=[_,_]) (S' :=[_,_]) (fun _ m=>m)<|aQ<| ?_
  have hqd:(q.drop 64).length=q.length-64:=List.length_drop
  have e9:(aV q).drop (64*1)=aV (q.drop 64):=by simp[aV,List.map_drop]
  generalize hA2:(if c1=64 then A1 else A1.map (·.add (64*1)))=A2
  refine ak (fun w m=>m.bQ 0 rfl (show _=aL g 308 (nt (eC h (q.take 64)) (s.n+mb) A2 (q.drop 64).length (c1-64))from by rw[Nat.zero_add,ua hb8,hqd])) ?_
  refine ak (fun w m=>m.bQ 1 rfl (show _=aG 5 1 (.slice A2 (q.drop 64).length (c1-64)) (q.drop 64).length (aV (q.drop 64))from by rw[hqd,e9])) ?_
  refine qx (eC h (q.take 64)) A2 (c1-64) (q.drop 64) (dn++q.take 64) ⟨rfl,rfl,trivial⟩ [1,0] rfl [0,1] rfl (⟨hb8,by omega,by rw[List.append_assoc,List.take_append_drop];exact hdq,by rw[List.length_append,List.length_take];omega,fun D h1 h2=>by rw[←List.append_assoc,pF (by rw[List.length_append];omega) (by rw[List.length_take];omega),←hD D h1 h2]⟩) (by omega)
 ·refine bJ<|ao<|ao<|aB<| ?_
  have hok:∀all,s.ok all→tN.ok ⟨h,s.n+mb,A1,c1,q⟩ (all++l):=fun all ok=>by
   obtain⟨D,e1,e2,e3⟩:=ok.Hk
   refine⟨h8, ?_,D++dn, ?_, ?_,hD D e2 e3⟩
   ·show s.n+mb=_
    rw[List.length_append,ok.n,hlm]
   ·show(D++dn)++q=_
    rw[List.append_assoc,hdq,←List.append_assoc,e1]
   ·rw[List.length_append];omega
  refine ak (X' :=nu g ⟨h,s.n+mb,A1,c1,q⟩::_) (fun w m=>(m.perm (au [0,0] _ [_,_] _ rfl)).pack) ?_
  exact fO trivial rfl [0] rfl [] rfl ⟨_,rfl,rfl,rfl,⟨(by show q.length<64;omega),hok⟩⟩
theorem CE{h:List UInt32}{n:Nat}{A:Option Addr}{m c:Nat}(hh:h.length=8){z:List Value}(hz:z.length=10):bI (bI (bI z 0 (ei h)) 8 [.int .i64 (n:Int)]) 9 [.slice A m c]=nt h n A m c:=by
 have hw:(ei h).length=8:=by rw[bA,hh]
 have e1:bI z 0 (ei h)=ei h++z.drop 8:=by simp[bI,hw]
 match hq:z.drop 8,(show(z.drop 8).length=2 by rw[List.length_drop,hz])with
 | [x,y],_=>
  rw[e1,hq]
  have e2:bI (ei h++[x,y]) 8 [.int .i64 (n:Int)]=ei h++[.int .i64 (n:Int),y]:=by
   rw[bI,List.take_append_of_le_length (by omega),List.take_of_length_le (by omega),List.drop_append,List.drop_of_length_le (by omega)]
   simp[hw]
  rw[e2,bI,List.take_append,List.take_of_length_le (by omega),List.drop_of_length_le (by simp[hw])]
  simp[hw,nt]
theorem DE{P:Program}{pl:Nat→Option (Nat×Nat)}{h:List UInt32}(hh:h.length=8){zs:List Value}(hz:zs.length=10)(p0:pl 0=some (0,8))(p1:pl 1=some (8,1))(p2:pl 2=some (9,1)){n:Nat}{A:Option Addr}{m c:Nat}:
  wb P pl zs [(0,.agg (ei h).toArray),(1,.int .i64 (n:Int)),(2,.slice A m c)] (nt h n A m c):=by
 have hw:(ei h).length=8:=by rw[bA,hh]
 have l1:(bI zs 0 (ei h)).length=10:=by rw[dR (by omega),hz]
 have l2:(bI (bI zs 0 (ei h)) 8 [Value.int .i64 (n:Int)]).length=10:=by rw[dR (by rw[l1];show 8+1≤10;decide),l1]
 refine .cons (vs:=ei h) p0 rfl hw (by omega) (.cons (vs:=[.int .i64 (n:Int)]) p1 rfl rfl (by omega) (.cons (vs:=[.slice A m c]) p2 rfl rfl (by omega) ?_))
 have e:=CE (n:=n) (A:=A) (m:=m) (c:=c) hh hz
 show wb P pl (bI (bI (bI zs 0 (ei h)) 8 [.int .i64 (n:Int)]) 9 [.slice A m c]) [] _
 rw[e]
 exact .nil
theorem CO{g:Nat}{s:tN}(hh:s.h.length=8)(hr:s.rest.length≤140737488351232):ck Tryz.prog 228 [.pointer (some ⟨g,0,none⟩)] [nu g s] [] (fun v_ X_ S_=>∃g2 s2,v_=(.pointer (some ⟨g2,0,none⟩))∧X_=[nu g s,nu g2 s2]∧S_=[]∧(s2.h=s.h∧s2.n=s.n∧s2.rest=s.rest)):=by
 refine aP (N:=18) Tryz.func228 rfl rfl (by simp) fun b=> ?_
 refine bx (fun w m=>(m.perm (au [0] _ [_] _ rfl)).unpack) ?_
 have hl0:=kr (n:=s.n) (A:=s.A) (m:=s.rest.length) (c:=s.c) hh
 refine ah<|aj<|hy (fun _=>ab rfl)<|ai<|ag<|ah<|c5 [12,14] [(0,some 2),(1,some 1),(2,some 1),(3,some 1),(4,some 2),(5,some 1),(6,some 1),(7,some 1),(8,some 2),(9,some 2),(10,some 0),(11,some 0),(12,none),(13,some 1),(14,none),(15,some 2)] (by kernel_rfl) (by kernel_rfl) rfl 99<|an (aa rfl)<|an (bd rfl)<|an (aK rfl oX (by decide))<|cr (fun m=>yV (aU rfl rY lS (by rw[bA,hh]) (fun j u hu=>(m.a6 0 rfl).ax j u (Aj hu))) ((rfl:_=Value.agg (ei s.h).toArray)))<|an (aa rfl)<|an (bd rfl)<|an (aK rfl mI (by decide))<|cr (fun m=>ay rfl fS ((m.a6 0 rfl).ax 8 _ (wV hh)))<|an (aa rfl)<|an (bd rfl)<|an (aK rfl kg (by decide))<|cr (fun m=>ay rfl ek ((m.a6 0 rfl).ax 9 _ (tI hh)))<| ?_
 refine ew (cM rfl Tryz.call117 (su (by omega)) [] rfl (.x 1 rfl .own .nil) ?_)
 rintro _ _ _ ⟨v,rfl,rfl,rfl⟩
 refine⟨rfl, ?_⟩
 refine⟨(fun _=>wk [1,1] [] rfl rfl), ?_⟩
 refine cA (fun m=>(m.own 0 rfl).slice) ?_
 rintro⟨A_x,c_x,rfl,hc_x⟩
 refine cA (fun m=>(m.ord 0 rfl).2.1) fun hA_x=> ?_
 refine an (cC Du rfl rfl (by kernel_rfl) (DE hh rfl (by kernel_rfl) (by kernel_rfl) (by kernel_rfl)))<| ?_
 refine ew (cw rfl (fun g17=>⟨(fun _=>wk [2,2] [] rfl rfl), ?_⟩))
 refine an (ab rfl)<|bD<|al (ρ' :=[(2,_),(0,_)]) ⟨rfl,rfl,trivial⟩<|ak (X' :=[_,_,_,_]) (S' :=[]) (fun _ m=>m)<|ag<|aX<| ?_
 refine ak (fun w m=>m.bQ 0 rfl (show _=aL g17 308 (nt s.h s.n A_x s.rest.length c_x)from congrArg (aL _ _) (bp _))) ?_
 refine ak (X' :=nu g s::_) (fun w m=>(m.perm (au [2,2] _ [_,_] _ rfl)).pack) ?_
 refine ak (X' :=nu g17 ⟨s.h,s.n,A_x,c_x,s.rest⟩::_) (fun w m=>(m.perm (au [1,1] _ [_,_] _ rfl)).pack) ?_
 exact bg trivial rfl rfl [1,0] rfl [] rfl ⟨_,_,rfl,rfl,rfl,⟨rfl,rfl,rfl⟩⟩
end Go.Proofs.YtmibdabdlgmafaaGreatDoor
end
section
set_option maxRecDepth 20000
namespace Go.Proofs.YtmibdabdlgmafaaGreatDoor
open Go.Eng Go.Hx
theorem zW(n:Nat)(h:n<18446744073709551616):IntKind.u64.wrap (n:Int)=(n:Int):=by
 simp[IntKind.wrap,IntKind.signed,IntKind.bits];omega
theorem zG{n i:Nat}(hi:i<8):(s9 n).take (i+1)=(s9 n).take i++[UInt8.ofNat (n/256 ^ (7-i))]:=by
 rw[s9,←List.map_take,←List.map_take,List.take_range,List.take_range,show min (i+1) 8=i+1 by omega,show min i 8=i by omega,List.range_succ,List.map_append];rfl
theorem H8{i:Nat}(hi:i<8):2 ^ (56-8*i)=256 ^ (7-i):=by
 rw[show(256:Nat)=2 ^ 8 from rfl,←Nat.pow_mul];congr 1;omega
theorem wP(h:List UInt32)(j:Nat)(hj:j<h.length):eU (h.take (j+1))=eU (h.take j)++Bp (h.getD j 0):=by
 rw[List.take_succ_eq_append_getElem hj,eU,eU,List.flatMap_append]
 simp[List.getD,List.getElem?_eq_getElem hj]
theorem pO(h:List UInt32):∀j,j≤h.length→(eU (h.take j)).length=4*j
 |0,_=>rfl
 |j+1,hj=>by rw[wP h j (by omega),List.length_append,pO h j (by omega)];show 4*j+4=_;omega
theorem Hv{p r:List UInt8}{k:Nat}{a b c d x y z u:UInt8}(hp:p.length=k):
  ((((aV (p++x::y::z::u::r)).set k (B8 a)).set (k+1) (B8 b)).set (k+2) (B8 c)).set (k+3) (B8 d)=aV (p++a::b::c::d::r):=by
 subst hp
 simp[aV,List.set_append]
theorem Gq{g:Nat}{s:tN}{all:List UInt8}(ok:s.ok all)(hr:s.rest.length<64)(ha:all.length≤140737488351232):ck Tryz.prog 174 [.pointer (some ⟨g,0,none⟩)] [nu g s] [fh] (fun v_ X_ S_=>v_=(.agg (aV (bk all)).toArray)∧X_=[nu g s]∧S_=[]):=by
 have hh:=ok.len
 have hsn:=ok.n
 have hl0:=kr (n:=s.n) (A:=s.A) (m:=s.rest.length) (c:=s.c) hh
 have hz64:iQ s.n<64:=Nat.mod_lt _ (by decide)
 have hzp:(s.n+(1+iQ s.n)) % 64=56:=by unfold iQ;omega
 have hzm:∀j,j<iQ s.n→(s.n+(1+j)) % 64≠56:=fun j hj=>by unfold iQ at hj;omega
 refine aP (N:=83) Tryz.func174 rfl rfl (by simp) fun b=> ?_
 refine ah<|aj<| ?_
 refine hx (aN cS (fun g2=> ?_))
 refine ai<|ak (X' :=[_,_]) (S' :=[_]) (fun _ m=>m)<|ag<|ah<|aj<|hy (fun _=>aa rfl)<| ?_
 refine hx (aq rfl Tryz.call228 (CO (by omega) (by omega)) [1] rfl [] rfl ?_)
 rintro _ _ _ ⟨g22,s2,rfl,rfl,rfl,hp⟩
 refine hy (fun _=>ab rfl)<|ai<|al (ρ' :=[(3,_),(2,_),(0,_)]) ⟨rfl,rfl,rfl,trivial⟩<|ak (X' :=[_,_,_]) (S' :=[_]) (fun _ m=>m)<|ag<|ah<|aj<| ?_
 refine hx (b5 Tryz.underlying27 fa rfl rfl rfl (by simp[Value.cells,B8]) (by decide) (by decide) (fun g12=> ?_))
 have hA_b12:0<1→(some (⟨g12,0,none⟩:Addr))≠none:=fun _ h=>by cases h
 refine hy (fun _=>ab rfl)<|ai<|al (ρ' :=[(4,_),(3,_),(2,_),(0,_)]) ⟨rfl,rfl,rfl,rfl,trivial⟩<|ak (X' :=[_,_,_,_]) (S' :=[_]) (fun _ m=>m)<|ag<|ah<|aI<| ?_
 obtain⟨c1,c2,c3⟩:=hp
 refine bx (fun w m=>m.bQ 0 rfl (show _=aG 5 1 (.slice (some ⟨g12,0,none⟩) 1 1) (1+0) (aV (128::List.replicate 0 0))from rfl)) ?_
 refine fH (fun j A1 cc=>iQ s.n-j) (fun j A1 cc=>[(4,.slice A1 (1+j) cc)]) (fun j A1 cc=>[aG 5 1 (.slice A1 (1+j) cc) (1+j) (aV (128::List.replicate j 0)),nu g s]) (fun j A1 cc=>[]) (fun j A1 cc=>j≤iQ s.n) 0 (some ⟨g12,0,none⟩) 1 [(3,_),(2,_),(0,_)] ⟨rfl,rfl,rfl,trivial⟩ [0,0] rfl [] rfl (Nat.zero_le _) ⟨rfl,trivial⟩ (fun j A1 cc hjz=> ?_)
 refine bx (fun w m=>(m.perm (au [1] _ [_] _ rfl)).unpack) ?_
 refine ah<|ah<|aj<|hy (fun _=>aa rfl)<|hy (fun _=>bd rfl)<|hy (fun _=>aK rfl mI (by decide))<|hy (fun m=>ay rfl fS ((m.a6 0 rfl).ax 8 _ (wV hh)))<|hy (fun _=>aa rfl)<|hy (fun _=>aS rfl Tryz.underlying27)<|hy (fun _=>aM rfl rfl (bG (by omega) (by omega)))<|hy (fun _=>gN rfl rfl (by omega) (by omega))<|hy (fun _=>db rfl rfl)<|ai<|al (ρ' :=[(21,_),(4,_),(3,_),(2,_),(0,_)]) ⟨rfl,rfl,rfl,rfl,rfl,trivial⟩<|ag<| ?_
 refine bx (X' :=nu g s::_) (fun w m=>(m.perm (au [0,0] _ [_,_] _ rfl)).pack) ?_
 refine cD rfl (fun hne=> ?_) (fun hne=> ?_)
 ·have hj:j<iQ s.n:=by
   rcases Nat.lt_or_eq_of_le hjz with h|h
   ·exact h
   ·rw[←h]at hzp;omega
  refine aD<|ag<|aI<|aj<|hy (fun _=>aa rfl)<| ?_
  refine hx (b5 Tryz.underlying27 fa rfl rfl rfl (by simp[Value.cells,B8]) (by decide) (by decide) (fun g23=> ?_))
  have hA_b23:0<1→(some (⟨g23,0,none⟩:Addr))≠none:=fun _ h=>by cases h
  refine aO (fun w m=>m.bQ 0 rfl (show _=aG 5 1 (.slice (some ⟨g23,0,none⟩) 1 1) 1 (aV [0])from rfl)) ?_
  refine hx (bu 2 rfl rfl rfl Tryz.underlying27 Tryz.underlying27 (by exact .inl rfl) fa rfl (fun m=>Src.bP (m.ord 0 rfl)) aZ (by unfold maxLen;omega) (by omega) (fun u=> ?_))
  refine aA (fun m=>(m.own 0 rfl).slice) ?_
  rintro⟨A_b12,c_b12,rfl,hc_b12⟩
  refine aA (fun m=>(m.ord 0 rfl).2.1) fun hA_b12=> ?_
  refine hy (fun _=>ab rfl)<|ai<|al (ρ' :=[(4,_),(21,_),(3,_),(2,_),(0,_)]) ⟨rfl,rfl,rfl,rfl,rfl,trivial⟩<|ak (X' :=[_,_,_,_,_]) (S' :=[_]) (fun _ m=>m)<|aQ<| ?_
  refine ak (fun w m=>m.bQ 0 rfl (show _=aG 5 1 (.slice A_b12 (1+(j+1)) c_b12) (1+(j+1)) (aV (128::List.replicate (j+1) 0))from by rw[Nat.add_assoc,List.replicate_succ',aV,aV,aV,←List.map_append];rfl)) ?_
  refine fx (j+1) A_b12 c_b12 ⟨rfl,rfl,rfl,rfl,trivial⟩ [0,1,1,1] rfl [0] rfl (by omega) (by omega)
 ·have hj:j=iQ s.n:=by
   refine Decidable.byContradiction fun hn=> ?_
   have:=hzm j (by omega)
   omega
  subst hj
  have hsl:IntKind.u64.wrap ((s.n:Int)*8)=((8*s.n:Nat):Int):=by
   rw[show(s.n:Int)*8=((8*s.n:Nat):Int) by omega]
   exact zW _ (by omega)
  refine bJ<|ao<|ao<|aB<|ag<|ah<|aj<|hy (fun _=>aa rfl)<|hy (fun _=>bd rfl)<|hy (fun _=>aK rfl mI (by decide))<|hy (fun m=>ay rfl fS ((show e8 _ _ _ _ from m.GX 0 rfl 0 rfl).ax 8 _ (wV hh)))<|hy (fun _=>bX rfl Tryz.underlying3 Tryz.underlying310 (zW s.n (by omega)))<|hy (fun _=>uz (p:=8) rfl rfl (by decide) (by decide) (by decide) hsl)<|hy (fun _=>ab rfl)<|ai<|al (ρ' :=[(5,_),(21,_),(4,_),(3,_),(2,_),(0,_)]) ⟨rfl,rfl,rfl,rfl,rfl,rfl,trivial⟩<|ag<|ah<|ah<|aj<|hy (fun _=>aa rfl)<|ai<|ag<|aI<| ?_
  generalize hz:iQ s.n=z at hz64
  refine bx (fun w m=>m.bQ 1 rfl (show _=aG 5 1 (.slice A1 (1+z+0) cc) (1+z+0) (aV (128::List.replicate z 0++(s9 (8*s.n)).take 0))from by rw[List.take_zero,List.append_nil];rfl)) ?_
  refine fH (fun i A2 ce=>8-i) (fun i A2 ce=>[(4,.slice A2 (1+z+i) ce),(31,.int .i64 (i:Nat))]) (fun i A2 ce=>[aG 5 1 (.slice A2 (1+z+i) ce) (1+z+i) (aV (128::List.replicate z 0++(s9 (8*s.n)).take i))]) (fun i A2 ce=>[]) (fun i A2 ce=>i≤8) 0 A1 cc [(5,_),(21,_),(3,_),(2,_),(0,_)] ⟨rfl,rfl,rfl,rfl,rfl,trivial⟩ [0] rfl [] rfl (Nat.zero_le _) ⟨rfl,rfl,trivial⟩ (fun i A2 ce hi8=> ?_)
  refine ah<|aj<|hy (fun _=>bq rfl rfl)<|ai<|ag<|ah<| ?_
  refine cD rfl (fun hi=> ?_) (fun hi=> ?_)
  ·have hcv:IntKind.u8.wrap (((8*s.n:Nat):Int)/((2 ^ (56-8*i):Nat):Int))=((UInt8.ofNat (8*s.n/256 ^ (7-i))).toNat:Int):=by
    rw[←Int.natCast_ediv,H8 (by omega)]
    exact gX _
   have hsb:(56:Int)-8*(i:Int)=((56-8*i:Nat):Int):=by omega
   refine aD<|ag<|ah<|aI<|ah<|aj<|hy (fun _=>aa rfl)<|hy (fun _=>ab rfl)<|ai<|al (ρ' :=[(6,_),(32,_),(4,_),(31,_),(5,_),(21,_),(3,_),(2,_),(0,_)]) ⟨rfl,rfl,rfl,rfl,rfl,rfl,rfl,rfl,rfl,trivial⟩<|ag<|aj<|hy (fun _=>aa rfl)<|hy (fun _=>aa rfl)<|hy (fun _=>aa rfl)<|hy (fun _=>fB rfl rfl (bG (by omega) (by omega)))<|hy (fun _=>cn rfl rfl (bG (by omega) (by omega)))<| ?_
   rw[hsb]
   refine hy (fun _=>oq rfl rfl (by omega) (by simp[IntKind.bits];omega) (show(2:Int) ^ (((56-8*i:Nat):Int)).toNat=((2 ^ (56-8*i):Nat):Int) by rw[Int.toNat_natCast];simp))<|hy (fun _=>bX rfl Tryz.underlying310 Tryz.underlying5 hcv)<| ?_
   refine hx (b5 Tryz.underlying27 fa rfl rfl rfl (by simp[Value.cells,B8]) (by decide) (by decide) (fun g41=> ?_))
   have hA_b41:0<1→(some (⟨g41,0,none⟩:Addr))≠none:=fun _ h=>by cases h
   refine aO (fun w m=>m.bQ 0 rfl (show _=aG 5 1 (.slice (some ⟨g41,0,none⟩) 1 1) 1 (aV [UInt8.ofNat (8*s.n/256 ^ (7-i))])from rfl)) ?_
   refine hx (bu 1 rfl rfl rfl Tryz.underlying27 Tryz.underlying27 (by exact .inl rfl) fa rfl (fun m=>Src.bP (m.ord 0 rfl)) aZ (by unfold maxLen;omega) (by omega) (fun u=> ?_))
   refine aA (fun m=>(m.own 0 rfl).slice) ?_
   rintro⟨A_b12,c_b12,rfl,hc_b12⟩
   refine aA (fun m=>(m.ord 0 rfl).2.1) fun hA_b12=> ?_
   refine hy (fun _=>ab rfl)<|ai<|al (ρ' :=[(4,_),(6,_),(32,_),(31,_),(5,_),(21,_),(3,_),(2,_),(0,_)]) ⟨rfl,rfl,rfl,rfl,rfl,rfl,rfl,rfl,rfl,trivial⟩<|ak (X' :=[_,_,_,_,_]) (S' :=[_]) (fun _ m=>m)<|aQ<|ag<|aj<|hy (fun _=>aM rfl rfl (bG (by omega) (by omega)))<|hy (fun _=>aa rfl)<|ai<|al (ρ' :=[(31,_),(4,_),(6,_),(32,_),(5,_),(21,_),(3,_),(2,_),(0,_)]) ⟨rfl,rfl,rfl,rfl,rfl,rfl,rfl,rfl,rfl,trivial⟩<| ?_
   refine ak (fun w m=>m.bQ 0 rfl (show _=aG 5 1 (.slice A_b12 (1+z+(i+1)) c_b12) (1+z+(i+1)) (aV (128::List.replicate z 0++(s9 (8*s.n)).take (i+1)))from by rw[zG (by omega),←List.append_assoc];simp[aV,Nat.add_assoc])) ?_
   refine fx (i+1) A_b12 c_b12 ⟨rfl,rfl,rfl,rfl,rfl,rfl,rfl,trivial⟩ [0,1,1,1] rfl [0] rfl (by omega) (by omega)
  ·obtain rfl:i=8:=by omega
   have hpad:all++(128::List.replicate z 0++(s9 (8*s.n)).take 8)=jx all:=by
    rw[List.take_of_length_le (by simp[s9]),jx,←hsn,hz,List.append_assoc]
   refine bJ<|ao<|ao<|aB<|ag<|ah<|aj<|hy (fun _=>aa rfl)<|hy (fun _=>aa rfl)<| ?_
   refine hx (cM rfl Tryz.call173 (wi (by rw[c1];exact hh) (by rw[c2];omega) (by rw[c3];omega) (s:=s2) (l:=(128::List.replicate z 0++(s9 (8*s.n)).take 8))) [2] rfl (.x 0 rfl .own (.s 0 rfl .nil)) ?_)
   rintro _ _ _ ⟨s1,rfl,rfl,rfl,hw⟩
   refine⟨rfl, ?_⟩
   obtain⟨hw1,hw2⟩:=hw
   have ok2:s2.ok all:=⟨by rw[c1];exact hh,by rw[c2];exact hsn,by rw[c1,c3];exact ok.Hk⟩
   have ok3:=hw2 all ok2
   rw[hpad]at ok3
   have hh3:=ok3.len
   have hfin:s1.h=fz mw (jx all):=by
    obtain⟨D,e1,e2,e3⟩:=ok3.Hk
    have hl:=congrArg List.length e1
    rw[List.length_append]at hl
    have hp:=oe all
    have:s1.rest=[]:=List.eq_nil_of_length_eq_zero (by omega)
    rw[this,List.append_nil]at e1
    rw[e3,e1]
   have hsha:eU s1.h=bk all:=by rw[hfin];rfl
   have hd32:=pO s1.h
   have hl3:=kr (n:=s1.n) (A:=s1.A) (m:=s1.rest.length) (c:=s1.c) hh3
   refine aO (fun w m=>(m.perm (au [0] _ [_] _ rfl)).unpack) ?_
   refine ai<|al (ρ' :=[(32,_),(4,_),(31,_),(5,_),(21,_),(3,_),(2,_),(0,_)]) ⟨rfl,rfl,rfl,rfl,rfl,rfl,rfl,rfl,trivial⟩<|ak (X' :=[_,_,_,_,_]) (S' :=[_]) (fun _ m=>m)<|ag<|ah<|aj<| ?_
   refine hx (aN cS (fun g7=> ?_))
   refine aO (fun w m=>m.bQ 0 rfl (show _=aL g7 53 (aV (eU (s1.h.take 0)++List.replicate (32-4*0) 0))from rfl)) ?_
   refine ai<|ak (X' :=[_,_,_,_,_,_]) (S' :=[_]) (fun _ m=>m)<|ag<|ah<|ah<|aj<|hy (fun _=>aa rfl)<|hy (fun _=>bd rfl)<|hy (fun _=>aK rfl oX (by decide))<|hy (fun m=>yV (aU rfl rY lS (by rw[bA,hh3]) (fun j u hu=>(m.a6 1 rfl).ax j u (Aj hu))) ((rfl:_=Value.agg (ei s1.h).toArray)))<|hy (fun _=>aa rfl)<|ai<|al (ρ' :=[(51,_),(50,_),(7,_),(32,_),(4,_),(31,_),(5,_),(21,_),(3,_),(2,_),(0,_)]) ⟨rfl,rfl,rfl,rfl,rfl,rfl,rfl,rfl,rfl,rfl,rfl,trivial⟩<|ag<|aI<| ?_
   refine dx (fun k=>8-k) (fun k=>[(51,.int .i64 (k:Nat))]) (fun k=>[aL g7 53 (aV (eU (s1.h.take k)++List.replicate (32-4*k) 0))]) (fun k=>[]) (fun k=>k≤8) 0 [(50,_),(7,_),(32,_),(4,_),(31,_),(5,_),(21,_),(3,_),(2,_),(0,_)] ⟨rfl,rfl,rfl,rfl,rfl,rfl,rfl,rfl,rfl,rfl,trivial⟩ [0] rfl [] rfl (Nat.zero_le _) ⟨rfl,trivial⟩ (fun k hk8=> ?_)
   refine ah<|aj<|hy (fun _=>bq rfl rfl)<|ai<|ag<|ah<| ?_
   refine cD rfl (fun hk=> ?_) (fun hk=> ?_)
   ·have hdk:=hd32 k (by omega)
    have hr4:List.replicate (32-4*k) (0:UInt8)=0::0::0::0::List.replicate (32-4*(k+1)) 0:=by
     rw[show 32-4*k=(32-4*(k+1))+4 by omega];rfl
    refine aD<|ag<|ah<|aI<|ah<|aj<|hy (fun _=>aa rfl)<|hy (fun _=>yV (Fo rfl rfl Tryz.underlying306 bR bZ rfl (by omega) (bo (by omega))) ((rfl:_=Wd (s1.h.getD k 0))))<|hy (fun _=>ab rfl)<|hy (fun _=>ab rfl)<|ai<|al (ρ' :=[(9,_),(8,_),(52,_),(51,_),(50,_),(7,_),(32,_),(4,_),(31,_),(5,_),(21,_),(3,_),(2,_),(0,_)]) ⟨rfl,rfl,rfl,rfl,rfl,rfl,rfl,rfl,rfl,rfl,rfl,rfl,rfl,rfl,trivial⟩<|ag<|aj<|hy (fun _=>aa rfl)<|hy (fun _=>fB rfl rfl (bG (by omega) (by omega)))<|hy (fun _=>aa rfl)<|hy (fun _=>fB rfl rfl (bG (by omega) (by omega)))<|hy (fun _=>aM rfl rfl (bG (by omega) (by omega)))<|hy (fun _=>aa rfl)<|hy (fun _=>fB rfl rfl (bG (by omega) (by omega)))<|hy (fun _=>aM rfl rfl (bG (by omega) (by omega)))<|hy (fun _=>aa rfl)<|hy (fun _=>fB rfl rfl (bG (by omega) (by omega)))<|hy (fun _=>aM rfl rfl (bG (by omega) (by omega)))<|hy (fun _=>aa rfl)<|hy (fun _=>mP (k:=24) (b:=16777216) (by decide) rfl rfl rfl)<|hy (fun _=>z6 rfl Tryz.underlying166 Tryz.underlying5)<|hy (fun _=>aa rfl)<|hy (fun _=>mP (k:=16) (b:=65536) (by decide) rfl rfl rfl)<|hy (fun _=>z6 rfl Tryz.underlying166 Tryz.underlying5)<|hy (fun _=>aa rfl)<|hy (fun _=>mP (k:=8) (b:=256) (by decide) rfl rfl rfl)<|hy (fun _=>z6 rfl Tryz.underlying166 Tryz.underlying5)<|hy (fun _=>aa rfl)<|hy (fun _=>z6 rfl Tryz.underlying166 Tryz.underlying5)<|hy (fun _=>b6 rfl rfl Tryz.underlying53 ea (show((4*k:Nat):Int)=_ by omega) (by omega))<| ?_
    refine cL (cG 0 rfl rfl rfl ea rfl (by simp[aV];omega) ?_)
    refine hy (fun _=>b6 rfl rfl Tryz.underlying53 ea (show((4*k+1:Nat):Int)=_ by omega) (by omega))<| ?_
    refine cL (cG 0 rfl rfl rfl ea rfl (by simp[aV];omega) ?_)
    refine hy (fun _=>b6 rfl rfl Tryz.underlying53 ea (show((4*k+2:Nat):Int)=_ by omega) (by omega))<| ?_
    refine cL (cG 0 rfl rfl rfl ea rfl (by simp[aV];omega) ?_)
    refine hy (fun _=>b6 rfl rfl Tryz.underlying53 ea (show((4*k+3:Nat):Int)=_ by omega) (by omega))<| ?_
    refine cL (cG 0 rfl rfl rfl ea rfl (by simp[aV];omega) ?_)
    refine ai<|al (ρ' :=[(9,_),(8,_),(52,_),(51,_),(50,_),(7,_),(32,_),(4,_),(31,_),(5,_),(21,_),(3,_),(2,_),(0,_)]) ⟨rfl,rfl,rfl,rfl,rfl,rfl,rfl,rfl,rfl,rfl,rfl,rfl,rfl,rfl,trivial⟩<|ak (X' :=[_,_,_,_,_,_]) (S' :=[_]) (fun _ m=>m)<|aQ<|ag<|aj<|hy (fun _=>aM rfl rfl (bG (by omega) (by omega)))<|hy (fun _=>aa rfl)<|ai<|al (ρ' :=[(51,_),(9,_),(8,_),(52,_),(50,_),(7,_),(32,_),(4,_),(31,_),(5,_),(21,_),(3,_),(2,_),(0,_)]) ⟨rfl,rfl,rfl,rfl,rfl,rfl,rfl,rfl,rfl,rfl,rfl,rfl,rfl,rfl,trivial⟩<| ?_
    refine ak (fun w m=>m.bQ 0 rfl (show _=aL g7 53 (aV (eU (s1.h.take (k+1))++List.replicate (32-4*(k+1)) 0))from by rw[hr4,Nat.zero_add,Nat.zero_add,Nat.zero_add,Nat.zero_add,Hv hdk,wP _ _ (by omega)];simp[Bp])) ?_
    refine cR (k+1) ⟨rfl,rfl,rfl,rfl,rfl,rfl,rfl,rfl,rfl,rfl,rfl,trivial⟩ [0,0,0,0,0,0] rfl [0] rfl (by omega) (by omega)
   ·obtain rfl:k=8:=by omega
    refine bx (fun w m=>m.bQ 0 rfl (show _=aL g7 53 (aV (bk all))from by rw[List.take_of_length_le (by omega),hsha];simp)) ?_
    refine bJ<|ao<|ao<|aB<|ag<|ah<|aj<|hy (fun m=>yV (aU rfl b9 bf (by rw[az,br]) ((m.a6 0 rfl).ax)) ((rfl:_=Value.agg (aV (bk all)).toArray)))<| ?_
    refine cL (aJ 5 rfl rfl rfl bf (by rw[az,br]) aZ rfl ?_)
    refine ai<|al (ρ' :=[(52,_),(51,_),(50,_),(7,_),(32,_),(4,_),(31,_),(5,_),(21,_),(3,_),(2,_),(0,_)]) ⟨rfl,rfl,rfl,rfl,rfl,rfl,rfl,rfl,rfl,rfl,rfl,rfl,trivial⟩<|ak (X' :=[_,_,_,_,_,_]) (S' :=[_]) (fun _ m=>m)<|ag<|aX<| ?_
    exact fl trivial rfl rfl b9 bf (by rw[az,br]) (fun m=>(m.a6 0 rfl).ax) [5] rfl [] rfl ⟨rfl,rfl,rfl⟩
theorem wa{A:Option Addr}{n c:Nat}{l:List UInt8}(hn:n≤140737488351232):ck Tryz.prog 102 [.slice A n c] [] [dr 1 A n (aV l),fh] (fun v_ X_ S_=>v_=(.agg (aV (bk l)).toArray)∧X_=[]∧S_=[]):=by
 refine aP (N:=10) Tryz.func102 rfl rfl (by simp) fun b=> ?_
 refine aY (fun m=>gY (m.rd 0 rfl)) ?_
 rintro⟨hl_r,hA_r⟩
 have hln:l.length=n:=hl_r
 refine ah<|aj<| ?_
 refine hx (aN cS (fun g2=> ?_))
 refine ai<|ak (X' :=[_]) (S' :=[_,_]) (fun _ m=>m)<|ag<|ah<|aj<| ?_
 refine hx (aq rfl Tryz.call172 (F7) [] rfl [] rfl ?_)
 rintro _ _ _ ⟨g,rfl,rfl,rfl⟩
 refine hy (fun _=>ab rfl)<|ai<|al (ρ' :=[(3,_),(2,_),(0,_)]) ⟨rfl,rfl,rfl,trivial⟩<|ak (X' :=[_,_]) (S' :=[_,_]) (fun _ m=>m)<|ag<|ah<|aj<|hy (fun _=>aa rfl)<|hy (fun _=>aa rfl)<| ?_
 refine hx (aq rfl Tryz.call173 (wi rfl (by show 0+n≤_;omega) (by show 0+n≤_;omega) (s:=⟨mw,0,none,0,[]⟩)) [0] rfl [0,1] rfl ?_)
 rintro _ _ _ ⟨s1,rfl,rfl,rfl,hw⟩
 refine ai<|al (ρ' :=[(3,_),(2,_),(0,_)]) ⟨rfl,rfl,rfl,trivial⟩<|ak (X' :=[_,_]) (S' :=[_,_]) (fun _ m=>m)<|ag<|ah<|aj<| ?_
 obtain⟨hw1,hw2⟩:=hw
 have ok1:=hw2 [] EU
 rw[List.nil_append]at ok1
 refine hy (fun _=>aa rfl)<| ?_
 refine hx (aq rfl Tryz.call174 (Gq ok1 hw1 (by omega) (all:=l)) [0] rfl [1] rfl ?_)
 rintro _ _ _ ⟨rfl,rfl,rfl⟩
 refine cL (aJ 1 rfl rfl rfl bf (by rw[az,br]) aZ rfl ?_)
 refine ai<|al (ρ' :=[(3,_),(2,_),(0,_)]) ⟨rfl,rfl,rfl,trivial⟩<|ak (X' :=[_,_]) (S' :=[_,_]) (fun _ m=>m)<|ag<|aX<| ?_
 exact fl trivial rfl rfl b9 bf (by rw[az,br]) (fun m=>(m.a6 0 rfl).ax) [] rfl [] rfl ⟨rfl,rfl,rfl⟩
end Go.Proofs.YtmibdabdlgmafaaGreatDoor
end
section
set_option maxRecDepth 20000
set_option maxHeartbeats 4000000
namespace Go.Proofs.YtmibdabdlgmafaaGreatDoor
open Go.Eng Go.Hx
theorem Gi{g:Nat}{st:cN}{d:RD}{kk:Nat}{nm:List UInt8}(hD:DS st d kk)(hm:nm.length=32):ck Tryz.prog 73 [.pointer (some ⟨g,0,none⟩),.agg (aV nm).toArray] [bs g st] [fh] (fun v_ X_ S_=>∃v,v_=(.tuple #[v,.int .i64 (d.fg nm)])∧X_=[bs g st,aG 5 1 v (d.pM nm).length (aV (d.pM nm))]∧S_=[]):=by
 have hlen:=hD.AS (aH nm)
 have hol:=rP (f:=d.cF (aH nm)) (most:=4096) (by decide)
 refine aP (N:=33) Tryz.func73 rfl rfl (by simp) fun b=> ?_
 refine ah<|aj<| ?_
 refine hx (cw rfl (fun g3=> ?_))
 refine aO (fun w m=>m.bQ 0 rfl (show _=aL g3 53 (aV nm)from congrArg (aL _ _) (bp _))) ?_
 refine hy (fun _=>ab rfl)<|hy (fun _=>ab rfl)<|ai<|ak (X' :=[_,_]) (S' :=[_]) (fun _ m=>m)<|ag<|ah<|aj<|hy (fun _=>aa rfl)<|hy (fun m=>aU rfl b9 bf (by rw[az];exact hm) ((m.a6 0 rfl).ax))<| ?_
 refine hx (aq rfl Tryz.call94 (se hm) [] rfl [] rfl ?_)
 rintro _ _ _ ⟨rfl,rfl,rfl⟩
 refine hx (aq rfl Tryz.call90 (Eo hD) [1] rfl [] rfl ?_)
 rintro _ _ _ ⟨v,rfl,rfl,rfl⟩
 refine aA (fun m=>(m.own 1 rfl).slice) ?_
 rintro⟨A_x,c_x,rfl,hc_x⟩
 refine aA (fun m=>(m.ord 1 rfl).2.1) fun hA_x=> ?_
 refine hy (fun _=>aa rfl)<|hy (fun _=>ar rfl rfl)<|hy (fun _=>ar rfl rfl)<|hy (fun _=>ab rfl)<|hy (fun _=>ab rfl)<|ai<|al (ρ' :=[(7,_),(6,_),(5,_),(4,_),(3,_),(0,_),(1,_)]) ⟨rfl,rfl,rfl,rfl,rfl,rfl,rfl,trivial⟩<|ak (X' :=[_,_,_]) (S' :=[_]) (fun _ m=>m)<|ag<|ah<|ah<|aj<|hy (fun _=>aa rfl)<|hy (fun _=>db rfl rfl)<|ai<|al (ρ' :=[(17,_),(7,_),(6,_),(5,_),(4,_),(3,_),(0,_),(1,_)]) ⟨rfl,rfl,rfl,rfl,rfl,rfl,rfl,rfl,trivial⟩<|ag<| ?_
 refine cD rfl (fun h1=> ?_) (fun h1=> ?_)
 ·rw[jV h1,lq (by rw[jV h1];exact h1)]
  refine ah<|aj<|hy (fun _=>aa rfl)<|hy (fun _=>ab rfl)<|hy (fun _=>ab rfl)<|ai<|al (ρ' :=[(5,_),(4,_),(17,_),(7,_),(6,_),(3,_),(0,_),(1,_)]) ⟨rfl,rfl,rfl,rfl,rfl,rfl,rfl,rfl,trivial⟩<|ag<|aX<|aw<| ?_
  refine ak (fun w m=>m.dm (r' :=aG 5 1 (.slice none 0 0) 0 []) (.refl _ _) (Own.nil _ _ _ _) (fun k hk=>hk.elim)) ?_
  exact dF trivial rfl rfl rfl [1,0] rfl [] rfl ⟨_,rfl,rfl,rfl⟩
 ·have h1:=Decidable.not_not.1 h1
  refine aD<|ag<|ah<|aj<|hy (fun _=>aa rfl)<| ?_
  refine hx (cM rfl Tryz.call155 (FT hc_x (by omega) (show(4096:Int)≤1000000 by decide)) [] rfl (.x 1 rfl .own .nil) ?_)
  rintro _ _ _ ⟨v2,rfl,rfl,rfl⟩
  refine⟨rfl, ?_⟩
  refine aA (fun m=>(m.own 0 rfl).slice) ?_
  rintro⟨A_x2,c_x2,rfl,hc_x2⟩
  refine aA (fun m=>(m.ord 0 rfl).2.1) fun hA_x2=> ?_
  refine hy (fun _=>aa rfl)<|hy (fun _=>ar rfl rfl)<|hy (fun _=>ar rfl rfl)<|hy (fun _=>ab rfl)<|hy (fun _=>ab rfl)<|ai<|al (ρ' :=[(7,_),(8,_),(17,_),(6,_),(5,_),(4,_),(3,_),(0,_),(1,_)]) ⟨rfl,rfl,rfl,rfl,rfl,rfl,rfl,rfl,rfl,trivial⟩<|ak (X' :=[_,_,_,_]) (S' :=[_]) (fun _ m=>m)<|ag<|ah<|ah<|c5 [4] [(0,some 0),(1,some 0),(2,some 0),(3,some 0),(5,some 1),(4,none),(6,some 1),(7,some 1)] (by kernel_rfl) (by kernel_rfl) rfl 99<|an (aa rfl)<|an (db rfl rfl)<|an (aa rfl)<| ?_
  refine hZ 26 rfl (fun h2=> ?_) (fun h2=> ?_)
  ·have hE:=nf (d:=d) (nm:=nm) h1 (.inl h2)
   rw[hE,lq (by rw[hE];decide)]
   refine aR rfl rfl rfl (by decide)<|aR rfl rfl rfl (by decide)<|xc rfl rfl rfl (by decide) (fun _=>wk [0,0,0,0] [0] rfl rfl)<|aR rfl rfl rfl (by decide)<|an (bM rfl rfl)<|bD<|al (ρ' :=[(31,_),(7,_),(8,_),(17,_),(6,_),(5,_),(4,_),(3,_),(0,_),(1,_)]) ⟨rfl,rfl,rfl,rfl,rfl,rfl,rfl,rfl,rfl,rfl,trivial⟩<|ag<| ?_
   refine ia rfl (rfl) ?_
   refine ah<|aj<|hy (fun _=>ab rfl)<|hy (fun _=>ab rfl)<|ai<|ag<|aX<|aw<| ?_
   refine ak (fun w m=>m.dm (r' :=aG 5 1 (.slice none 0 0) 0 []) (.refl _ _) (Own.nil _ _ _ _) (fun k hk=>hk.elim)) ?_
   exact dF trivial rfl rfl rfl [2,0] rfl [] rfl ⟨_,rfl,rfl,rfl⟩
  ·have h2:=Decidable.not_not.1 h2
   refine bj (o:=_) rfl rfl rfl (aa rfl)<|iS (o:=_) rfl rfl rfl (fun m=>aU rfl b9 bf (by rw[az];exact hm) ((m.a6 3 rfl).ax))<| ?_
   refine tr (o:=_) rfl rfl rfl (cM rfl Tryz.call102 (wa (by omega)) [] rfl (.x 0 rfl .own (.s 0 rfl .nil)) ?_)
   rintro _ _ _ ⟨rfl,rfl,rfl⟩
   refine⟨rfl, ?_⟩
   refine⟨(fun _=>wk [0,0,0,0] [0] rfl rfl), ?_⟩
   refine bj (o:=_) rfl rfl rfl (o1 rfl rfl (br _) hm)<|an (bC rfl rfl)<|bD<|al (ρ' :=[(31,_),(7,_),(8,_),(17,_),(6,_),(5,_),(4,_),(3,_),(0,_),(1,_)]) ⟨rfl,rfl,rfl,rfl,rfl,rfl,rfl,rfl,rfl,rfl,trivial⟩<|ak (X' :=[_,_,_,_]) (S' :=[_]) (fun _ m=>m)<|ag<| ?_
   refine cD rfl (fun h3=> ?_) (fun h3=> ?_)
   ·have hE:=nf (d:=d) (nm:=nm) h1 (.inr h3)
    rw[hE,lq (by rw[hE];decide)]
    refine ah<|aj<|hy (fun _=>ab rfl)<|hy (fun _=>ab rfl)<|ai<|ag<|aX<|aw<| ?_
    refine ak (fun w m=>m.dm (r' :=aG 5 1 (.slice none 0 0) 0 []) (.refl _ _) (Own.nil _ _ _ _) (fun k hk=>hk.elim)) ?_
    exact dF trivial rfl rfl rfl [2,0] rfl [] rfl ⟨_,rfl,rfl,rfl⟩
   ·have hE:=sk (d:=d) (nm:=nm) h1 (fun q=>q.elim (fun q=>q h2) h3)
    rw[hE,r7 hE]
    refine aD<|ag<|ah<|aj<|hy (fun _=>aa rfl)<|hy (fun _=>ab rfl)<|hy (fun _=>ab rfl)<|ai<|al (ρ' :=[(5,_),(4,_),(31,_),(7,_),(8,_),(17,_),(6,_),(3,_),(0,_),(1,_)]) ⟨rfl,rfl,rfl,rfl,rfl,rfl,rfl,rfl,rfl,rfl,trivial⟩<|ag<|aX<| ?_
    exact dF trivial rfl rfl rfl [1,0] rfl [] rfl ⟨_,rfl,rfl,rfl⟩
theorem FU{g:Nat}{st:cN}{d:RD}{kk:Nat}{nm:List UInt8}(hD:DS st d kk)(hm:nm.length=32):ck Tryz.prog 145 [.pointer (some ⟨g,0,none⟩),.agg (aV nm).toArray] [bs g st] [fh] (fun v_ X_ S_=>v_=(.bool (decide (d.fg nm=0)))∧X_=[bs g st]∧S_=[]):=by
 refine aP (N:=15) Tryz.func145 rfl rfl (by simp) fun b=> ?_
 refine ah<|aj<| ?_
 refine hx (cw rfl (fun g3=> ?_))
 refine aO (fun w m=>m.bQ 0 rfl (show _=aL g3 53 (aV nm)from congrArg (aL _ _) (bp _))) ?_
 refine hy (fun _=>ab rfl)<|ai<|ak (X' :=[_,_]) (S' :=[_]) (fun _ m=>m)<|ag<|ah<|aj<|hy (fun _=>aa rfl)<|hy (fun m=>aU rfl b9 bf (by rw[az];exact hm) ((m.a6 0 rfl).ax))<| ?_
 refine hx (aq rfl Tryz.call73 (Gi hD hm) [1] rfl [0] rfl ?_)
 rintro _ _ _ ⟨v,rfl,rfl,rfl⟩
 refine aA (fun m=>(m.own 1 rfl).slice) ?_
 rintro⟨A_x,c_x,rfl,hc_x⟩
 refine aA (fun m=>(m.ord 1 rfl).2.1) fun hA_x=> ?_
 refine hy (fun _=>aa rfl)<|hy (fun _=>ar rfl rfl)<|hy (fun _=>ar rfl rfl)<|hy (fun _=>ab rfl)<|hy (fun _=>ab rfl)<|ai<|al (ρ' :=[(6,_),(4,_),(3,_),(0,_),(1,_)]) ⟨rfl,rfl,rfl,rfl,rfl,trivial⟩<|ak (X' :=[_,_,_]) (S' :=[_]) (fun _ m=>m)<|ag<|ah<|aj<|hy (fun _=>aa rfl)<|hy (fun _=>cJ rfl rfl)<|hy (fun _=>ab rfl)<|ai<|al (ρ' :=[(4,_),(6,_),(3,_),(0,_),(1,_)]) ⟨rfl,rfl,rfl,rfl,rfl,trivial⟩<|ag<|aX<| ?_
 exact bg trivial rfl rfl [0] rfl [] rfl ⟨rfl,rfl,rfl⟩
end Go.Proofs.YtmibdabdlgmafaaGreatDoor
end
section
set_option maxRecDepth 20000
set_option maxHeartbeats 4000000
namespace Go.Proofs.YtmibdabdlgmafaaGreatDoor
open Go.Eng Go.Hx
theorem Gd:dD Tryz.prog 179=some false:=by kernel_rfl
theorem F4:fA Tryz.prog 179=some 1:=by kernel_rfl
theorem GS:TI Tryz.prog 179 .nilFunc 1 8:=by unfold TI;kernel_rfl
def tp(g:Nat)(L:List bn)(v:Value)(F:RD→RD×Int):Prop:=∃(f:Nat) (first cap:List Value),v= .func (.func f) first.toArray cap.toArray∧(∀args w,(callFunc f args).run Tryz.prog w= .ok (.enter f args) w)∧
 ∀(st:cN) (d:RD) (kk:Nat),DS st d kk→kk≤99000→ck Tryz.prog f (first++[]++cap) [bs g st] [gn L] (fun v_ X_ S_=>∃st1,v_= .int .i64 (F d).2∧X_=[bs g st1]∧S_=[]∧DS st1 (F d).1 (kk+1))
theorem Hy{g:Nat}{st:cN}{d:RD}{kk:Nat}{A:Option Addr}{n c:Nat}{fs:List Value}{Fs:List (RD→RD×Int)}{L:List bn}(hD:DS st d kk)(hkk:kk+n≤99000)(hn:n≤100000)(hF:Fs.length=n)(hfs:∀(i:Nat) (F:RD→RD×Int),Fs[i]? =some F→∃v,fs[i]? =some v∧tp g L v F):ck Tryz.prog 109 [.slice A n c] [bs g st] [dr 1 A n fs,gn L] (fun v_ X_ S_=>∃st1,v_=(.int .i64 (cB Fs d).2)∧X_=[bs g st1]∧S_=[]∧(DS st1 (cB Fs d).1 (kk+n))):=by
 obtain⟨d0,hd0⟩:∃d0,d0=cB Fs d:=⟨_,rfl⟩
 rw[←hd0]
 refine aP (N:=18) Tryz.func109 rfl rfl (by simp) fun b=> ?_
 refine aY (fun m=>gE (m.rd 0 rfl)) ?_
 rintro⟨hl_f,hA_f⟩
 refine ah<|aj<|hy (fun _=>ab rfl)<|ai<|ag<|ah<|ah<|aj<|hy (fun _=>aa rfl)<|hy (fun _=>aS rfl Tryz.underlying239)<|hy (fun _=>aa rfl)<|ai<|ag<|aI<| ?_
 refine fH (fun k st d=>n-k) (fun k st d=>[(8,.int .i64 (k:Nat))]) (fun k st d=>[bs g st]) (fun k st d=>[]) (fun k st d=>k≤n∧DS st d (kk+k)∧cB (Fs.drop k) d=d0) 0 st d [(7,_),(6,_),(0,_)] ⟨rfl,rfl,rfl,trivial⟩ [0] rfl [] rfl (⟨Nat.zero_le _,hD,hd0.symm⟩) ⟨rfl,trivial⟩ (fun k st d ⟨hk,hD,hR⟩=> ?_)
 refine ah<|aj<|hy (fun _=>bq rfl rfl)<|ai<|ag<|ah<| ?_
 refine cD rfl (fun hlt=> ?_) (fun hlt=> ?_)
 ·obtain⟨F,hFk⟩:∃F,Fs[k]? =some F:=⟨_,List.getElem?_eq_getElem (by omega)⟩
  obtain⟨v,hv,f,first,cap,rfl,hcall,hcon⟩:=hfs k F hFk
  have hdr:Fs.drop k=F::Fs.drop (k+1):=by
   have hlt2:k<Fs.length:=by omega
   rw[List.drop_eq_getElem_cons hlt2]
   congr 1
   exact Option.some.inj ((List.getElem?_eq_getElem hlt2).symm.trans hFk)
  rw[hdr]at hR
  refine aD<|ag<|ah<|aI<|ah<|aj<|hy (fun _=>aT rfl rfl Tryz.underlying239 F4 hA_f rfl (by omega))<|hy (fun m=>ay rfl Gd ((m.rd 0 rfl).cell hv))<|hy (fun _=>ab rfl)<|ai<|al (ρ' :=[(4,_),(9,_),(8,_),(7,_),(6,_),(0,_)]) ⟨rfl,rfl,rfl,rfl,rfl,rfl,trivial⟩<|ag<|ah<|aj<|hy (fun _=>aa rfl)<| ?_
  refine hx (qg rfl rfl hcall (hcon st d (kk+k) hD (by omega)) [0] rfl [1] rfl ?_)
  rintro _ _ _ ⟨st1,rfl,rfl,rfl,hD1⟩
  refine hy (fun _=>ab rfl)<|ai<|al (ρ' :=[(5,_),(4,_),(9,_),(8,_),(7,_),(6,_),(0,_)]) ⟨rfl,rfl,rfl,rfl,rfl,rfl,rfl,trivial⟩<|ak (X' :=[_]) (S' :=[_,_]) (fun _ m=>m)<|ag<|ah<|aj<|hy (fun _=>aa rfl)<|hy (fun _=>db rfl rfl)<|ai<|al (ρ' :=[(15,_),(5,_),(4,_),(9,_),(8,_),(7,_),(6,_),(0,_)]) ⟨rfl,rfl,rfl,rfl,rfl,rfl,rfl,rfl,trivial⟩<|ag<| ?_
  refine cD rfl (fun he=> ?_) (fun he=> ?_)
  ·have e0:cB (F::Fs.drop (k+1)) d=F d:=if_pos he
   rw[e0]at hR
   rw[←hR]
   refine ah<|aj<|hy (fun _=>aa rfl)<|hy (fun _=>ab rfl)<|ai<|al (ρ' :=[(2,_),(15,_),(5,_),(4,_),(9,_),(8,_),(7,_),(6,_),(0,_)]) ⟨rfl,rfl,rfl,rfl,rfl,rfl,rfl,rfl,rfl,trivial⟩<|ag<|aX<|a8<|aw<|aw<|a8<|aw<| ?_
   exact bg trivial rfl rfl [0] rfl [] rfl ⟨st1,rfl,rfl,rfl,(hD1.le (by omega))⟩
  ·have e0:cB (F::Fs.drop (k+1)) d=cB (Fs.drop (k+1)) (F d).1:=if_neg he
   rw[e0]at hR
   refine aD<|aQ<|ag<|aj<|hy (fun _=>aM rfl rfl (bG (by omega) (by omega)))<|hy (fun _=>aa rfl)<|ai<|al (ρ' :=[(8,_),(15,_),(5,_),(4,_),(9,_),(7,_),(6,_),(0,_)]) ⟨rfl,rfl,rfl,rfl,rfl,rfl,rfl,rfl,trivial⟩<| ?_
   refine fx (k+1) st1 (F d).1 ⟨rfl,rfl,rfl,rfl,trivial⟩ [0] rfl [0,1] rfl (⟨by omega,hD1,hR⟩) (by omega)
 ·obtain rfl:k=n:=by omega
  rw[List.drop_of_length_le (by omega)]at hR
  have hR:(d,0)=d0:=hR
  rw[←hR]
  refine bJ<|ao<|ao<|aB<|ag<|ah<|aj<|hy (fun _=>ab rfl)<|ai<|ag<|aX<| ?_
  exact bg trivial rfl rfl [0] rfl [] rfl ⟨st,rfl,rfl,rfl,hD⟩
end Go.Proofs.YtmibdabdlgmafaaGreatDoor
end
section
set_option maxRecDepth 20000
set_option maxHeartbeats 4000000
namespace Go.Proofs.YtmibdabdlgmafaaGreatDoor
open Go.Eng Go.Hx
theorem Fq{g g2 g9 g3:Nat}{st:cN}{d:RD}{kk:Nat}{p:List UInt8}{A:Option Addr}{n c:Nat}{bb:List UInt8}(hD:DS st d kk)(hkk:kk≤99000)(hc:n≤c)(hl:bb.length=n)(hn:n≤4096):ck Tryz.prog 105 [.pointer (some ⟨g2,0,none⟩),.pointer (some ⟨g9,0,none⟩),.pointer (some ⟨g3,0,none⟩)] [bs g st] [aL g2 35 [.pointer (some ⟨g,0,none⟩)],aL g9 9 [SV p],aL g3 27 [.slice A n c],dr 1 A n (aV bb)] (fun v_ X_ S_=>∃st1,v_=(.int .i64 (d.bO p (bK bb)))∧X_=[bs g st1]∧S_=[]∧(DS st1 (d.write p (bK bb)) (kk+1))):=by
 have hsl:=lg bb
 refine aP (N:=9) Tryz.func105 rfl rfl (by simp) fun b=> ?_
 refine aY (fun m=>gY (m.rd 3 rfl)) ?_
 rintro⟨hl_r,hA_r⟩
 refine ah<|aj<|hy (fun _=>ab rfl)<|ai<|ag<|ah<|c5 [3,4] [(0,some 1),(1,some 1),(2,some 0),(3,none),(4,none),(5,some 2)] (by kernel_rfl) (by kernel_rfl) rfl 1<|cr (fun m=>ay rfl kV (aE (m.vA 0 rfl) (i:=0) rfl))<|cr (fun m=>ay rfl lF (aE (m.vA 1 rfl) (i:=0) rfl))<|cr (fun m=>ay rfl ek (aE (m.vA 2 rfl) (i:=0) rfl))<| ?_
 refine ew (aq rfl Tryz.call106 (Gt (by omega) (by omega) hl) [] rfl [3] rfl ?_)
 rintro _ _ _ ⟨v,rfl,rfl,rfl⟩
 refine⟨(fun _=>wk [1] [0,1,2,3] rfl rfl), ?_⟩
 refine cA (fun m=>(m.own 0 rfl).slice) ?_
 rintro⟨A_x,c_x,rfl,hc_x⟩
 refine cA (fun m=>(m.ord 0 rfl).2.1) fun hA_x=> ?_
 refine ew (cM rfl Tryz.call33 (wL hD (by omega) rfl (by omega)) [1] rfl (.x 0 rfl .own .nil) ?_)
 rintro _ _ _ ⟨st1,rfl,rfl,rfl,hp⟩
 refine⟨rfl, ?_⟩
 refine⟨(fun h=>absurd h (by decide)), ?_⟩
 refine an (ab rfl)<|bD<|al (ρ' :=[(3,_),(0,_),(1,_),(2,_)]) ⟨rfl,rfl,rfl,rfl,trivial⟩<|ak (X' :=[_,_]) (S' :=[_,_,_,_]) (fun _ m=>m)<|ag<|aX<| ?_
 exact bg trivial rfl rfl [0] rfl [] rfl ⟨st1,rfl,rfl,rfl,hp⟩
theorem GK{g g2 g9 g6:Nat}{st:cN}{d:RD}{kk:Nat}{p nm:List UInt8}(hD:DS st d kk)(hkk:kk≤99000)(hm:nm.length=32):ck Tryz.prog 107 [.pointer (some ⟨g2,0,none⟩),.pointer (some ⟨g9,0,none⟩),.pointer (some ⟨g6,0,none⟩)] [bs g st] [aL g2 35 [.pointer (some ⟨g,0,none⟩)],aL g9 9 [SV p],aL g6 53 (aV nm)] (fun v_ X_ S_=>∃st1,v_=(.int .i64 (d.b7 p (aH nm)))∧X_=[bs g st1]∧S_=[]∧(DS st1 (d.rename p (aH nm)) (kk+1))):=by
 refine aP (N:=9) Tryz.func107 rfl rfl (by simp) fun b=> ?_
 refine ah<|aj<|hy (fun _=>ab rfl)<|ai<|ag<|ah<|c5 [3,4] [(0,some 1),(1,some 1),(2,some 0),(3,none),(4,none),(5,some 2)] (by kernel_rfl) (by kernel_rfl) rfl 1<|cr (fun m=>ay rfl kV (aE (m.vA 0 rfl) (i:=0) rfl))<|cr (fun m=>ay rfl lF (aE (m.vA 1 rfl) (i:=0) rfl))<|cr (fun m=>aU rfl b9 bf (by rw[az];exact hm) ((m.vA 2 rfl).ax))<| ?_
 refine ew (aq rfl Tryz.call94 (se hm) [] rfl [] rfl ?_)
 rintro _ _ _ ⟨rfl,rfl,rfl⟩
 refine⟨(fun _=>wk [0] [0,1,2] rfl rfl), ?_⟩
 refine ew (aq rfl Tryz.call108 (yP hD (by omega) (a:=p) (c:=aH nm)) [0] rfl [] rfl ?_)
 rintro _ _ _ ⟨st1,rfl,rfl,rfl,hp⟩
 refine⟨(fun h=>absurd h (by decide)), ?_⟩
 refine an (ab rfl)<|bD<|al (ρ' :=[(3,_),(0,_),(1,_),(2,_)]) ⟨rfl,rfl,rfl,rfl,trivial⟩<|ak (X' :=[_]) (S' :=[_,_,_]) (fun _ m=>m)<|ag<|aX<| ?_
 exact bg trivial rfl rfl [0] rfl [] rfl ⟨st1,rfl,rfl,rfl,hp⟩
abbrev jR(g g2 g9 g3 g6:Nat)(A:Option Addr)(n c:Nat)(bb nm p:List UInt8):List bn:=[aL g2 35 [.pointer (some ⟨g,0,none⟩)],aL g9 9 [SV p],aL g3 27 [.slice A n c],aL g6 53 (aV nm),dr 1 A n (aV bb)]
theorem u0{g g2 g9 g3 g6:Nat}{A:Option Addr}{n c:Nat}{bb nm p:List UInt8}(hc:n≤c)(hl:bb.length=n)(hn:n≤4096):
  tp g (jR g g2 g9 g3 g6 A n c bb nm p) (.func (.func 105) #[] #[.pointer (some ⟨g2,0,none⟩),.pointer (some ⟨g9,0,none⟩),.pointer (some ⟨g3,0,none⟩)]) (sS p (bK bb)):=
 ⟨105,[],[.pointer (some ⟨g2,0,none⟩),.pointer (some ⟨g9,0,none⟩),.pointer (some ⟨g3,0,none⟩)],rfl,Tryz.call105,fun st d kk hD hk=>ck.vc (Fq hD hk hc hl hn) (by
  intro s hs
  simp only[List.mem_cons,List.not_mem_nil,or_false]at hs
  rcases hs with rfl|rfl|rfl|rfl
  ·exact⟨_,List.mem_singleton.2 rfl,View.oN 0 rfl⟩
  ·exact⟨_,List.mem_singleton.2 rfl,View.oN 1 rfl⟩
  ·exact⟨_,List.mem_singleton.2 rfl,View.oN 2 rfl⟩
  ·exact⟨_,List.mem_singleton.2 rfl,View.oN 4 rfl⟩) (fun v X S h=>by
  obtain⟨st1,h1,h2,h3,h4⟩:=h
  exact⟨[],⟨st1,h1,h2,rfl,h4⟩,sV.nil⟩)⟩
theorem x5{g g2 g9 g3 g6:Nat}{A:Option Addr}{n c:Nat}{bb nm p:List UInt8}(hm:nm.length=32):
  tp g (jR g g2 g9 g3 g6 A n c bb nm p) (.func (.func 107) #[] #[.pointer (some ⟨g2,0,none⟩),.pointer (some ⟨g9,0,none⟩),.pointer (some ⟨g6,0,none⟩)]) (sG p (aH nm)):=
 ⟨107,[],[.pointer (some ⟨g2,0,none⟩),.pointer (some ⟨g9,0,none⟩),.pointer (some ⟨g6,0,none⟩)],rfl,Tryz.call107,fun st d kk hD hk=>ck.vc (GK hD hk hm) (by
  intro s hs
  simp only[List.mem_cons,List.not_mem_nil,or_false]at hs
  rcases hs with rfl|rfl|rfl
  ·exact⟨_,List.mem_singleton.2 rfl,View.oN 0 rfl⟩
  ·exact⟨_,List.mem_singleton.2 rfl,View.oN 1 rfl⟩
  ·exact⟨_,List.mem_singleton.2 rfl,View.oN 3 rfl⟩) (fun v X S h=>by
  obtain⟨st1,h1,h2,h3,h4⟩:=h
  exact⟨[],⟨st1,h1,h2,rfl,h4⟩,sV.nil⟩)⟩
theorem rb{g:Nat}{L:List bn}:tp g L (.func (.func 110) #[.pointer (some ⟨g,0,none⟩)] #[]) cH:=
 ⟨110,[.pointer (some ⟨g,0,none⟩)],[],rfl,Tryz.call110,fun st d kk hD hk=>ck.vc (u5 hD) (fun s hs=>by cases hs) (fun v X S h=>by
  obtain⟨st1,h1,h2,h3,h4⟩:=h
  exact⟨[],⟨st1,h1,h2,rfl,h4.le (by omega)⟩,sV.nil⟩)⟩
theorem fm:ec.length=32:=List.length_replicate
theorem ya:(aV ec).length=32:=by rw[az,fm]
theorem v7{d:RD}{b:List UInt8}(h:4096<b.length):d.put b=(d,ec,3):=by unfold RD.put;rw[if_pos h]
theorem zk{d:RD}{b:List UInt8}(h:¬4096<b.length)(h6:d.fg (bk b)=6):d.put b=(d,ec,6):=by unfold RD.put;rw[if_neg h,if_pos h6]
theorem yp{d:RD}{b:List UInt8}(h:¬4096<b.length)(h6:d.fg (bk b)=0):d.put b=(d,bk b,0):=by unfold RD.put;rw[if_neg h,if_neg (by rw[h6];decide),if_pos h6]
theorem BB{d:RD}{b:List UInt8}(h:¬4096<b.length)(h6:¬d.fg (bk b)=6)(h0:¬d.fg (bk b)=0):d.put b=((d.iY b).1,if(d.iY b).2=0 then bk b else ec,(d.iY b).2):=by unfold RD.put;rw[if_neg h,if_neg h6,if_neg h0]
abbrev zM(g g2 g9 g3 g6:Nat):List Value:=[.func (.func 105) #[] #[.pointer (some ⟨g2,0,none⟩),.pointer (some ⟨g9,0,none⟩),.pointer (some ⟨g3,0,none⟩)],.func (.func 110) #[.pointer (some ⟨g,0,none⟩)] #[],.func (.func 107) #[] #[.pointer (some ⟨g2,0,none⟩),.pointer (some ⟨g9,0,none⟩),.pointer (some ⟨g6,0,none⟩)],.func (.func 110) #[.pointer (some ⟨g,0,none⟩)] #[]]
abbrev wq(p b nm:List UInt8):List (RD→RD×Int):=[sS p (bK b),cH,sG p (aH nm),cH]
theorem yo{g g2 g9 g3 g6:Nat}{A:Option Addr}{n c:Nat}{bb nm p:List UInt8}(hc:n≤c)(hl:bb.length=n)(hn:n≤4096)(hm:nm.length=32):
  ∀(i:Nat) (F:RD→RD×Int),(wq p bb nm)[i]? =some F→∃v,(zM g g2 g9 g3 g6)[i]? =some v∧tp g (jR g g2 g9 g3 g6 A n c bb nm p) v F:=by
 intro i F h
 match i with
 |0=>cases h;exact⟨_,rfl,u0 hc hl hn⟩
 |1=>cases h;exact⟨_,rfl,rb⟩
 |2=>cases h;exact⟨_,rfl,x5 hm⟩
 |3=>cases h;exact⟨_,rfl,rb⟩
 |i+4=>cases h
theorem FG{g:Nat}{st:cN}{d:RD}{kk:Nat}{A:Option Addr}{n c:Nat}{bb:List UInt8}(hD:DS st d kk)(hkk:kk≤90000)(hc:n≤c)(hl:bb.length=n)(hn:n≤100000):ck Tryz.prog 28 [.pointer (some ⟨g,0,none⟩),.slice A n c] [bs g st] [dr 1 A n (aV bb),fh] (fun v_ X_ S_=>∃st1,v_=(.tuple #[.agg (aV (d.put bb).2.1).toArray,.int .i64 (d.put bb).2.2])∧X_=[bs g st1]∧S_=[]∧(DS st1 (d.put bb).1 (kk+4))):=by
 have h32:(aV (bk bb)).length=32:=by rw[az,br]
 have hhl:(cf (bk bb)).length=64:=by rw[dQ,br]
 refine aP (N:=53) Tryz.func28 rfl rfl (by simp) fun b=> ?_
 refine aY (fun m=>gY (m.rd 0 rfl)) ?_
 rintro⟨hl_r,hA_r⟩
 refine ah<|aj<| ?_
 refine hx (cw rfl (fun g2=> ?_))
 refine aO (fun w m=>m.bQ 0 rfl (show _=aL g2 35 [.pointer (some ⟨g,0,none⟩)]from rfl)) ?_
 refine hx (cw rfl (fun g3=> ?_))
 refine aO (fun w m=>m.bQ 0 rfl (show _=aL g3 27 [.slice A n c]from rfl)) ?_
 refine hx (aN cS (fun g4=> ?_))
 refine hy (fun _=>ab rfl)<|ai<|ak (X' :=[_,_,_,_]) (S' :=[_,_]) (fun _ m=>m)<|ag<|ah<|ah<|aj<|hy (fun m=>ay rfl ek (aE (m.a6 1 rfl) rfl))<|hy (fun _=>aS rfl Tryz.underlying27)<|hy (fun _=>da rfl rfl)<|ai<|al (ρ' :=[(15,_),(5,_),(4,_),(3,_),(2,_),(0,_),(1,_)]) ⟨rfl,rfl,rfl,rfl,rfl,rfl,rfl,trivial⟩<|ag<| ?_
 refine cD rfl (fun h1=> ?_) (fun h1=> ?_)
 ·have hb:4096<bb.length:=by omega
  rw[v7 hb]
  refine ah<|aj<|hy (fun _=>yV (ep cS rfl (by kernel_rfl)) ((rfl:_=Value.agg (aV ec).toArray)))<| ?_
  refine cL (aJ 0 rfl rfl rfl bf ya aZ rfl ?_)
  refine hy (fun _=>ab rfl)<|ai<|al (ρ' :=[(5,_),(15,_),(4,_),(3,_),(2,_),(0,_),(1,_)]) ⟨rfl,rfl,rfl,rfl,rfl,rfl,rfl,trivial⟩<|ak (X' :=[_,_,_,_]) (S' :=[_,_]) (fun _ m=>m)<|ag<|aX<|aw<| ?_
  exact dW trivial rfl rfl rfl b9 bf ya (fun m=>(m.a6 0 rfl).ax) [3] rfl [] rfl ⟨st,rfl,rfl,rfl,(hD.le (by omega))⟩
 ·have hb:¬4096<bb.length:=by omega
  refine aD<|ag<|ah<|aj<|hy (fun m=>ay rfl ek (aE (m.a6 1 rfl) rfl))<| ?_
  refine hx (aq rfl Tryz.call102 (wa (by omega)) [] rfl [0,1] rfl ?_)
  rintro _ _ _ ⟨rfl,rfl,rfl⟩
  refine hx (aN cS (fun g6=> ?_))
  refine cL (aJ 0 rfl rfl rfl bf h32 aZ rfl ?_)
  refine ai<|al (ρ' :=[(6,_),(15,_),(5,_),(4,_),(3,_),(2,_),(0,_),(1,_)]) ⟨rfl,rfl,rfl,rfl,rfl,rfl,rfl,rfl,trivial⟩<|ak (X' :=[_,_,_,_,_]) (S' :=[_,_]) (fun _ m=>m)<|ag<|ah<|aj<|hy (fun m=>ay rfl kV (aE (m.a6 3 rfl) rfl))<|hy (fun m=>aU rfl b9 bf h32 ((m.a6 0 rfl).ax))<| ?_
  refine hx (aq rfl Tryz.call73 (Gi hD (br _)) [4] rfl [1] rfl ?_)
  rintro _ _ _ ⟨v,rfl,rfl,rfl⟩
  refine aA (fun m=>(m.own 1 rfl).slice) ?_
  rintro⟨A_x,c_x,rfl,hc_x⟩
  refine aA (fun m=>(m.ord 1 rfl).2.1) fun hA_x=> ?_
  refine hy (fun _=>aa rfl)<|hy (fun _=>ar rfl rfl)<|hy (fun _=>ar rfl rfl)<|hy (fun _=>ab rfl)<|hy (fun _=>ab rfl)<|ai<|al (ρ' :=[(8,_),(6,_),(15,_),(5,_),(4,_),(3,_),(2,_),(0,_),(1,_)]) ⟨rfl,rfl,rfl,rfl,rfl,rfl,rfl,rfl,rfl,trivial⟩<|ak (X' :=[_,_,_,_,_,_]) (S' :=[_,_]) (fun _ m=>m)<|ag<|ah<|ah<|aj<|hy (fun _=>aa rfl)<|hy (fun _=>kU rfl Tryz.underlying47 (fun _ h=>by cases h))<|hy (fun _=>kU rfl Tryz.underlying47 (fun _ h=>by cases h))<| ?_
  refine hx (aq rfl Tryz.call103 (Ef) [] rfl [] rfl ?_)
  rintro _ _ _ ⟨rfl,rfl,rfl⟩
  refine ai<|al (ρ' :=[(28,_),(8,_),(6,_),(15,_),(5,_),(4,_),(3,_),(2,_),(0,_),(1,_)]) ⟨rfl,rfl,rfl,rfl,rfl,rfl,rfl,rfl,rfl,rfl,trivial⟩<|ak (X' :=[_,_,_,_,_,_]) (S' :=[_,_]) (fun _ m=>m)<|ag<| ?_
  refine cD rfl (fun h6=> ?_) (fun h6=> ?_)
  ·rw[zk hb h6]
   have h6' :d.fg (bk bb)=6:=h6
   rw[h6']
   refine ah<|aj<|hy (fun _=>yV (ep cS rfl (by kernel_rfl)) ((rfl:_=Value.agg (aV ec).toArray)))<|hy (fun _=>aa rfl)<| ?_
   refine cL (aJ 3 rfl rfl rfl bf ya aZ rfl ?_)
   refine hy (fun _=>ab rfl)<|ai<|al (ρ' :=[(5,_),(28,_),(8,_),(6,_),(15,_),(4,_),(3,_),(2,_),(0,_),(1,_)]) ⟨rfl,rfl,rfl,rfl,rfl,rfl,rfl,rfl,rfl,rfl,trivial⟩<|ak (X' :=[_,_,_,_,_,_]) (S' :=[_,_]) (fun _ m=>m)<|ag<|aX<|aw<| ?_
   exact dW trivial rfl rfl rfl b9 bf ya (fun m=>(m.a6 0 rfl).ax) [1] rfl [] rfl ⟨st,rfl,rfl,rfl,(hD.le (by omega))⟩
  ·refine aD<|ag<|ah<|ah<|aj<|hy (fun _=>aa rfl)<|hy (fun _=>cJ rfl rfl)<|ai<|al (ρ' :=[(32,_),(28,_),(8,_),(6,_),(15,_),(5,_),(4,_),(3,_),(2,_),(0,_),(1,_)]) ⟨rfl,rfl,rfl,rfl,rfl,rfl,rfl,rfl,rfl,rfl,rfl,trivial⟩<|ag<| ?_
   refine cD rfl (fun h0=> ?_) (fun h0=> ?_)
   ·rw[yp hb h0]
    have h0' :d.fg (bk bb)=0:=h0
    rw[h0']
    refine ah<|aj<|hy (fun m=>aU rfl b9 bf h32 ((m.a6 2 rfl).ax))<|hy (fun _=>aa rfl)<| ?_
    refine cL (aJ 3 rfl rfl rfl bf h32 aZ rfl ?_)
    refine hy (fun _=>ab rfl)<|ai<|al (ρ' :=[(5,_),(32,_),(28,_),(8,_),(6,_),(15,_),(4,_),(3,_),(2,_),(0,_),(1,_)]) ⟨rfl,rfl,rfl,rfl,rfl,rfl,rfl,rfl,rfl,rfl,rfl,trivial⟩<|ak (X' :=[_,_,_,_,_,_]) (S' :=[_,_]) (fun _ m=>m)<|ag<|aX<|aw<| ?_
    exact dW trivial rfl rfl rfl b9 bf h32 (fun m=>(m.a6 0 rfl).ax) [1] rfl [] rfl ⟨st,rfl,rfl,rfl,(hD.le (by omega))⟩
   ·rw[BB hb h6 h0]
    refine aD<|ag<|ah<|aj<|hy (fun m=>aU rfl b9 bf h32 ((m.a6 2 rfl).ax))<| ?_
    refine hx (aq rfl Tryz.call104 (A9 (br _)) [] rfl [] rfl ?_)
    rintro _ _ _ ⟨rfl,rfl,rfl⟩
    refine hy (fun _=>yV (jA rfl rfl (ja (a:=[116,47]) (b:=cf (bk bb)) (by simp[hhl]))) ((show Value.string (strOf [116,47]++strOf (cf (bk bb)))=SV (bT (bk bb))from congrArg Value.string (dA _ _))))<| ?_
    refine hx (aN Hr (fun g9=> ?_))
    refine cL (dV 0 rfl rfl rfl Hp rfl (by first|exact Nat.le_of_ble_eq_true rfl|simp) ?_)
    refine ai<|al (ρ' :=[(9,_),(32,_),(28,_),(8,_),(6,_),(15,_),(5,_),(4,_),(3,_),(2,_),(0,_),(1,_)]) ⟨rfl,rfl,rfl,rfl,rfl,rfl,rfl,rfl,rfl,rfl,rfl,rfl,trivial⟩<|ak (X' :=[_,_,_,_,_,_,_]) (S' :=[_,_]) (fun _ m=>m)<|ag<|ah<|aj<|hy (fun _=>kD rfl rfl)<|hy (fun _=>ab rfl)<|ai<|al (ρ' :=[(10,_),(9,_),(32,_),(28,_),(8,_),(6,_),(15,_),(5,_),(4,_),(3,_),(2,_),(0,_),(1,_)]) ⟨rfl,rfl,rfl,rfl,rfl,rfl,rfl,rfl,rfl,rfl,rfl,rfl,rfl,trivial⟩<|ag<|ah<|aj<|hy (fun _=>kD rfl rfl)<|hy (fun _=>ab rfl)<|ai<|al (ρ' :=[(11,_),(10,_),(9,_),(32,_),(28,_),(8,_),(6,_),(15,_),(5,_),(4,_),(3,_),(2,_),(0,_),(1,_)]) ⟨rfl,rfl,rfl,rfl,rfl,rfl,rfl,rfl,rfl,rfl,rfl,rfl,rfl,rfl,trivial⟩<|ag<|ah<|ah<|aj<|hy (fun _=>aa rfl)<|hy (fun m=>ay rfl kV (aE (m.a6 6 rfl) rfl))<|hy (fun _=>kD rfl rfl)<|hy (fun _=>aa rfl)<|hy (fun m=>ay rfl kV (aE (m.a6 6 rfl) rfl))<|hy (fun _=>kD rfl rfl)<| ?_
    refine hx (b5 Tryz.underlying239 GS rfl rfl rfl (by simp[Value.cells,B8]) (by decide) (by decide) (fun g46=> ?_))
    have hA_b46:0<4→(some (⟨g46,0,none⟩:Addr))≠none:=fun _ h=>by cases h
    refine aO (fun w m=>m.bQ 1 rfl (show _=aL g9 9 [SV (bT (bk bb))]from rfl)) ?_
    refine aO (fun w m=>m.bQ 4 rfl (show _=aL g6 53 (aV (bk bb))from rfl)) ?_
    refine aO (fun w m=>m.bQ 2 rfl (show _=aG 179 1 (.slice (some ⟨g46,0,none⟩) 4 4) 4 (zM g g2 g9 g3 g6)from rfl)) ?_
    refine aO (fun w m=>(m.perm (au [7] _ [_] _ rfl)).freeze) ?_
    refine aO (fun w m=>(m.perm (au [2] _ [_] _ rfl)).freeze) ?_
    refine aO (fun w m=>(m.perm (au [5] _ [_] _ rfl)).freeze) ?_
    refine aO (fun w m=>(m.perm (au [1] _ [_] _ rfl)).freeze) ?_
    refine aO (S' :=gn (jR g g2 g9 g3 g6 A n c bb (bk bb) (bT (bk bb)))::_) (fun w m=>m.xr [3,2,1,0,4] rfl) ?_
    refine hx (cM rfl Tryz.call109 (Hy hD (by omega) (show 4≤100000 by decide) rfl (yo hc hl (by omega) (br _)) (kk:=kk) (Fs:=(wq (bT (bk bb)) bb (bk bb))) (fs:=(zM g g2 g9 g3 g6)) (L:=(jR g g2 g9 g3 g6 A n c bb (bk bb) (bT (bk bb))))) [1] rfl (.x 0 rfl .own (.s 0 rfl .nil)) ?_)
    rintro _ _ _ ⟨st1,rfl,rfl,rfl,hD1⟩
    refine⟨rfl, ?_⟩
    refine hy (fun _=>ab rfl)<|ai<|al (ρ' :=[(12,_),(11,_),(10,_),(9,_),(32,_),(28,_),(8,_),(6,_),(15,_),(5,_),(4,_),(3,_),(2,_),(0,_),(1,_)]) ⟨rfl,rfl,rfl,rfl,rfl,rfl,rfl,rfl,rfl,rfl,rfl,rfl,rfl,rfl,rfl,trivial⟩<|ak (X' :=[_,_,_,_]) (S' :=[_,_,_,_,_,_,_]) (fun _ m=>m)<|ag<|ah<|aj<|hy (fun _=>aa rfl)<|hy (fun _=>db rfl rfl)<|ai<|al (ρ' :=[(49,_),(12,_),(11,_),(10,_),(9,_),(32,_),(28,_),(8,_),(6,_),(15,_),(5,_),(4,_),(3,_),(2,_),(0,_),(1,_)]) ⟨rfl,rfl,rfl,rfl,rfl,rfl,rfl,rfl,rfl,rfl,rfl,rfl,rfl,rfl,rfl,rfl,trivial⟩<|ag<| ?_
    refine cD rfl (fun h2=> ?_) (fun h2=> ?_)
    ·have hn2:¬(d.iY bb).2=0:=h2
     rw[if_neg hn2]
     refine ah<|aj<|hy (fun _=>yV (ep cS rfl (by kernel_rfl)) ((rfl:_=Value.agg (aV ec).toArray)))<|hy (fun _=>aa rfl)<| ?_
     refine cL (aJ 3 rfl rfl rfl bf ya aZ rfl ?_)
     refine hy (fun _=>ab rfl)<|ai<|al (ρ' :=[(5,_),(49,_),(12,_),(11,_),(10,_),(9,_),(32,_),(28,_),(8,_),(6,_),(15,_),(4,_),(3,_),(2,_),(0,_),(1,_)]) ⟨rfl,rfl,rfl,rfl,rfl,rfl,rfl,rfl,rfl,rfl,rfl,rfl,rfl,rfl,rfl,rfl,trivial⟩<|ak (X' :=[_,_,_,_]) (S' :=[_,_,_,_,_,_,_]) (fun _ m=>m)<|ag<|aX<|aw<| ?_
     exact dW trivial rfl rfl rfl b9 bf ya (fun m=>(m.a6 0 rfl).ax) [1] rfl [] rfl ⟨st1,rfl,rfl,rfl,hD1⟩
    ·have h2:=Decidable.not_not.1 h2
     have h2' :(cB (wq (bT (bk bb)) bb (bk bb)) d).2=0:=h2
     have h2'' :(d.iY bb).2=0:=h2'
     rw[if_pos h2'',h2'']
     refine aD<|ag<|ah<|aj<|hy (fun m=>aU rfl b9 bf h32 ((m.vA 1 rfl).ax))<| ?_
     refine cL (aJ 3 rfl rfl rfl bf h32 aZ rfl ?_)
     refine hy (fun _=>ab rfl)<|ai<|al (ρ' :=[(5,_),(49,_),(12,_),(11,_),(10,_),(9,_),(32,_),(28,_),(8,_),(6,_),(15,_),(4,_),(3,_),(2,_),(0,_),(1,_)]) ⟨rfl,rfl,rfl,rfl,rfl,rfl,rfl,rfl,rfl,rfl,rfl,rfl,rfl,rfl,rfl,rfl,trivial⟩<|ak (X' :=[_,_,_,_]) (S' :=[_,_,_,_,_,_,_]) (fun _ m=>m)<|ag<|aX<| ?_
     exact dW trivial rfl rfl rfl b9 bf h32 (fun m=>(m.a6 0 rfl).ax) [1] rfl [] rfl ⟨st1,rfl,rfl,rfl,hD1⟩
end Go.Proofs.YtmibdabdlgmafaaGreatDoor
end
section
set_option maxRecDepth 20000
namespace Go.Proofs.YtmibdabdlgmafaaGreatDoor
open Go.Eng Go.Hx
def ss(l:List (List UInt8)):List Value:=l.map SV
theorem zS{l:List (List UInt8)}{i:Nat}(h:i<l.length):(ss l)[i]? =some (SV (l.getD i [])):=by simp[ss,List.getElem?_map,List.getElem?_eq_getElem h,List.getD]
theorem DD{l:List (List UInt8)}:∀u∈ss l,u.oneCell' =true:=by
 intro u hu
 obtain⟨x,_,rfl⟩:=List.mem_map.1 hu
 rfl
end Go.Proofs.YtmibdabdlgmafaaGreatDoor
end
section
namespace Go.Proofs
open Go.Shelf
def Tryz.uj:Go.Shelf.Ren:=⟨fun|190=>165|125=>207|258=>223|128=>254|129=>255|302=>258|303=>259|304=>260|305=>261|306=>262|307=>263|308=>264|309=>265|310=>266|333=>291|329=>287|330=>288|334=>292|335=>293|336=>294|344=>307|n=>n,fun|31=>152|9=>9|3=>3|46=>263|0=>0|51=>166|53=>310|4=>4|183=>339|182=>338|131=>343|5=>5|218=>376|222=>380|228=>391|229=>324|n=>n,fun|n=>n⟩
theorem Tryz.BV:Go.Proofs.Lays.n190 Tryz.prog Tryz.uj:={
 mixed:=by kernel_rfl
 f125:=Tryz.func207.trans (congrArg some (by kernel_rfl))
 f128:=Tryz.func254.trans (congrArg some (by kernel_rfl))
 f129:=Tryz.func255.trans (congrArg some (by kernel_rfl))
 f190:=Tryz.func165.trans (congrArg some (by kernel_rfl))
 f258:=Tryz.func223.trans (congrArg some (by kernel_rfl))
 f302:=Tryz.func258.trans (congrArg some (by kernel_rfl))
 f303:=Tryz.func259.trans (congrArg some (by kernel_rfl))
 f304:=Tryz.func260.trans (congrArg some (by kernel_rfl))
 f305:=Tryz.func261.trans (congrArg some (by kernel_rfl))
 f306:=Tryz.func262.trans (congrArg some (by kernel_rfl))
 f307:=Tryz.func263.trans (congrArg some (by kernel_rfl))
 f308:=Tryz.func264.trans (congrArg some (by kernel_rfl))
 f309:=Tryz.func265.trans (congrArg some (by kernel_rfl))
 f310:=Tryz.func266.trans (congrArg some (by kernel_rfl))
 f329:=Tryz.func287.trans (congrArg some (by kernel_rfl))
 f330:=Tryz.func288.trans (congrArg some (by kernel_rfl))
 f333:=Tryz.func291.trans (congrArg some (by kernel_rfl))
 f334:=Tryz.func292.trans (congrArg some (by kernel_rfl))
 f335:=Tryz.func293.trans (congrArg some (by kernel_rfl))
 f336:=Tryz.func294.trans (congrArg some (by kernel_rfl))
 f344:=Tryz.func307.trans (congrArg some (by kernel_rfl))
 t0:=Tryz.underlying0
 a0:=Tryz.isAgg0
 z0:=Tryz.sizeOf0
 v0:=Tryz.zeroValue0
 t3:=Tryz.underlying3
 a3:=Tryz.isAgg3
 z3:=Tryz.sizeOf3
 v3:=Tryz.zeroValue3
 t4:=Tryz.underlying4
 a4:=Tryz.isAgg4
 z4:=Tryz.sizeOf4
 v4:=Tryz.zeroValue4
 t5:=Tryz.underlying5
 a5:=Tryz.isAgg5
 z5:=Tryz.sizeOf5
 v5:=Tryz.zeroValue5
 t9:=Tryz.underlying9
 a9:=Tryz.isAgg9
 z9:=Tryz.sizeOf9
 v9:=Tryz.zeroValue9
 t31:=Tryz.underlying152
 a31:=Tryz.isAgg152
 z31:=Tryz.sizeOf152
 v31:=Tryz.zeroValue152
 t46:=Tryz.underlying263
 a46:=Tryz.isAgg263
 z46:=Tryz.sizeOf263
 v46:=Tryz.zeroValue263
 t51:=Tryz.underlying166
 a51:=Tryz.isAgg166
 z51:=Tryz.sizeOf166
 v51:=Tryz.zeroValue166
 t53:=Tryz.underlying310
 a53:=Tryz.isAgg310
 z53:=Tryz.sizeOf310
 v53:=Tryz.zeroValue310
 t131:=Tryz.underlying343
 a131:=Tryz.isAgg343
 z131:=Tryz.sizeOf343
 v131:=Tryz.zeroValue343
 t182:=Tryz.underlying338
 a182:=Tryz.isAgg338
 z182:=Tryz.sizeOf338
 v182:=Tryz.zeroValue338
 t183:=Tryz.underlying339
 a183:=Tryz.isAgg339
 z183:=Tryz.sizeOf339
 v183:=Tryz.zeroValue339
 t218:=Tryz.underlying376
 a218:=Tryz.isAgg376
 z218:=Tryz.sizeOf376
 v218:=Tryz.zeroValue376
 t222:=Tryz.underlying380
 a222:=Tryz.isAgg380
 z222:=Tryz.sizeOf380
 v222:=Tryz.zeroValue380
 t228:=Tryz.underlying391
 a228:=Tryz.isAgg391
 z228:=Tryz.sizeOf391
 v228:=Tryz.zeroValue391
 t229:=Tryz.underlying324
 a229:=Tryz.isAgg324
 z229:=Tryz.sizeOf324
 v229:=Tryz.zeroValue324}
end Go.Proofs
end
section
set_option maxRecDepth 20000
namespace Go.Proofs.YtmibdabdlgmafaaGreatDoor
open Go.Eng Go.Hx Go.Sort
def uO(l:List (List UInt8)):List (List UInt8):=l.mergeSort fun x y=>decide (x≤y)
theorem Ah{w:World}{g n o:Nat}{os:Array Obj}{cur:Array Value}{e:TypeId}{fr:Nat×Nat}(d:Array (List UInt8))(hb:w.heap[g]? =some (.cells cur e fr)):
  (grow (putRow encStr (Go.Sort.ahead w n) g o d) os).heap[g]? =some (.cells (putCells encStr o d cur) e fr):=by
 have hg:g<w.heap.size:=(Array.getElem?_eq_some_iff.1 hb).1
 rw[heap_grow_old _ _ (by simpa using hg)]
 simp[putRow,mapBlock,Go.Sort.ahead,Array.getElem?_modify,hb,onCells]
theorem E6{w:World}{g n o:Nat}{os:Array Obj}(d:Array (List UInt8)):Fr (fun k=>k=g) w (grow (putRow encStr (Go.Sort.ahead w n) g o d) os):=by
 refine⟨rfl,rfl,rfl,by simp,fun k hk hne=> ?_⟩
 rw[heap_grow_old _ _ (by simpa using hk)]
 have:g≠k:=fun e=>hne e.symm
 simp[putRow,mapBlock,Go.Sort.ahead,Array.getElem?_modify,this]
theorem Ap(cur:List Value)(o:Nat)(ts:List (List UInt8))(h:o+ts.length≤cur.length):((putCells encStr o ts.toArray cur.toArray).toList.drop o).take ts.length=ss ts:=by
 apply List.ext_getElem?
 intro j
 by_cases hj:j<ts.length
 ·rw[List.getElem?_take_of_lt hj,List.getElem?_drop,Array.getElem?_toList]
  simp[putCells,hj,ss,show o+j<cur.length by omega,SV,strOf]
 ·rw[List.getElem?_take_eq_none (by omega),List.getElem?_eq_none (by simp[ss];omega)]
theorem r8(l:List (List UInt8)):(uO l).length=l.length:=List.length_mergeSort ..
theorem Es{A:Option Addr}{n c base:Nat}{e:TypeId}{l:List (List UInt8)}{w:World}(h:Go.Eng.Own w base e 1 (.slice A n c) n (ss l))(hn6:n≤1000000):
  Calls Tryz.prog 165 #[.slice A n c] w fun r w' =>r= .returned (.tuple #[])∧Go.Eng.Own w' base e 1 (.slice A n c) n (ss (uO l))∧Fr (jD (.slice A n c)) w w' :=by
 obtain⟨h1,h2⟩:=h
 have hl:l.length=n:=by simpa[ss]using h1
 rcases h2 with⟨hv,hn⟩|⟨g,o,cap,cur,hv,hb,⟨fr,hh,hf,hfl⟩,hnc,hcm,hfit,hcs⟩
 ·cases hv
  obtain rfl:l=[]:=List.eq_nil_of_length_eq_zero hl
  refine Calls.mono (qY CT (by intro s hs;cases hs)) (fun r w' ⟨hr,hf⟩=>⟨hr,⟨by simp[uO,ss],.inl ⟨rfl,rfl⟩⟩,hf.mono (fun _ _ e=>e.elim)⟩)
 ·cases hv
  subst hl
  have hB:e8 w g e cur:=⟨fr,hh,hf,hfl⟩
  have hH:Holds encStr w g o l.toArray:=by
   intro j hj
   have hj' :j<l.length:=by simpa using hj
   have h3:((cur.drop o).take (l.length*1))[j]? =(ss l)[j]? :=by rw[hcs]
   rw[List.getElem?_take_of_lt (by omega),List.getElem?_drop,zS hj']at h3
   refine⟨?_,hB.frozen (by omega)⟩
   rw[hB.cell h3]
   simp[List.getD,List.getElem?_eq_getElem hj',hj',SV,strOf]
  refine Calls.mono (Any.slices_Sort_string Tryz.BV g o c l w hH hB.lt (by omega)) ?_
  rintro r w' ⟨hr,k,os,rfl⟩
  refine⟨hr,⟨by simp[ss,r8],.inr ⟨g,o,c,(putCells encStr o (uO l).toArray cur.toArray).toList,rfl,hb, ?_,hnc,hcm,by simp[putCells];omega, ?_⟩⟩,E6 _⟩
  ·have:=Ah (n:=k) (o:=o) (os:=os) (uO l).toArray hh
   exact⟨fr,by simpa[uO]using this,fun i hi=>hf i (by simpa[putCells]using hi),by simpa[putCells]using hfl⟩
  ·have:=Ap cur o (uO l) (by rw[r8];omega)
   rw[r8]at this
   rw[Nat.mul_one];exact this
theorem Gg{A:Option Addr}{n c:Nat}{e:TypeId}{l:List (List UInt8)}(hn:n≤1000000):ck Tryz.prog 165 [.slice A n c] [aG e 1 (.slice A n c) n (ss l)] [] (fun v_ X_ S_=>v_=(.tuple #[])∧X_=[aG e 1 (.slice A n c) n (ss (uO l))]∧S_=[]):=by
 refine fun w m=>Calls.mono (Es (m.own 0 rfl) hn) ?_
 rintro r w' ⟨hr,ho,hf⟩
 exact⟨_,_,_,hr,⟨rfl,rfl,rfl⟩,m.change (r' :=aG e 1 (.slice A n c) n (ss (uO l))) hf ho (fun k hk=>.inl hk)⟩
end Go.Proofs.YtmibdabdlgmafaaGreatDoor
end
section
set_option maxRecDepth 20000
namespace Go.Proofs.YtmibdabdlgmafaaGreatDoor
open Go.Eng Go.Hx
theorem mr{α:Type}:∀{l:List α} {j:Nat} {x:α},l[j]? =some x→l.Perm (x::l.eraseIdx j)
 | [],j,x,h=>by simp at h
 |a::r,0,x,h=>by
  simp only[List.getElem?_cons_zero,Option.some.injEq]at h
  subst h;exact List.Perm.refl _
 |a::r,j+1,x,h=>by
  have:=mr (l:=r) (j:=j) (x:=x) (by simpa using h)
  exact(List.Perm.cons a this).trans (List.Perm.swap x a _)
def pre(p s:List UInt8):Bool:=decide (s.take p.length=p)
theorem sJ{s p:List UInt8}:ck Tryz.prog 222 [.string (strOf s),.string (strOf p)] [] [] (fun v_ X_ S_=>v_=(.bool (pre p s))∧X_=[]∧S_=[]):=by
 have hs1:=cY s
 have hs2:=cY p
 refine aP (N:=18) Tryz.func222 rfl rfl (by simp) fun b=> ?_
 by_cases h:p.length≤s.length
 ·refine ah<|aj<|hy (fun _=>ab rfl)<|ai<|ag<|ah<|aj<|hy (fun _=>aa rfl)<|hy (fun _=>cV rfl Tryz.underlying9)<|hy (fun _=>aa rfl)<|hy (fun _=>cV rfl Tryz.underlying9)<|hy (fun _=>yT (iP rfl rfl) ((decide_eq_true (by omega))))<|hy (fun _=>aa rfl)<|dU (o:=_) rfl rfl rfl (fun _=>aa rfl)<|dU (o:=_) rfl rfl rfl (fun _=>aa rfl)<|dU (o:=_) rfl rfl rfl (fun _=>cV rfl Tryz.underlying9)<|dU (o:=_) rfl rfl rfl (fun _=>yV (sT rfl rfl Tryz.underlying9 (show((p.length:Nat):Int)=_ by omega) (by rw[qU];exact h)) ((rfl:Value.string _= .string (strOf (s.take p.length)))))<|dU (o:=_) rfl rfl rfl (fun _=>aa rfl)<|dU (o:=_) rfl rfl rfl (fun _=>rj rfl rfl)<|hy (fun _=>bM rfl rfl)<|hy (fun _=>ab rfl)<|ai<|al (ρ' :=[(4,_),(0,_),(1,_)]) ⟨rfl,rfl,rfl,trivial⟩<|ag<|aX<| ?_
  exact bg trivial rfl rfl [] rfl [] rfl ⟨(congrArg Value.bool (decide_eq_decide.2 cI)),rfl,rfl⟩
 ·refine ah<|aj<|hy (fun _=>ab rfl)<|ai<|ag<|ah<|aj<|hy (fun _=>aa rfl)<|hy (fun _=>cV rfl Tryz.underlying9)<|hy (fun _=>aa rfl)<|hy (fun _=>cV rfl Tryz.underlying9)<|hy (fun _=>yF (iP rfl rfl) ((decide_eq_false (by omega))))<|hy (fun _=>aa rfl)<|bE rfl rfl rfl (by decide)<|bE rfl rfl rfl (by decide)<|bE rfl rfl rfl (by decide)<|bE rfl rfl rfl (by decide)<|bE rfl rfl rfl (by decide)<|bE rfl rfl rfl (by decide)<|hy (fun _=>bC rfl rfl)<|hy (fun _=>ab rfl)<|ai<|al (ρ' :=[(4,_),(0,_),(1,_)]) ⟨rfl,rfl,rfl,trivial⟩<|ag<|aX<| ?_
  exact bg trivial rfl rfl [] rfl [] rfl ⟨(congrArg Value.bool (decide_eq_false (fun e=>h (by rw[←e,List.length_take];omega))).symm),rfl,rfl⟩
theorem u6{s p:List UInt8}:ck Tryz.prog 164 [.string (strOf s),.string (strOf p)] [] [] (fun v_ X_ S_=>v_=(.bool (pre p s))∧X_=[]∧S_=[]):=by
 refine aP (N:=8) Tryz.func164 rfl rfl (by simp) fun b=> ?_
 refine ah<|aj<|hy (fun _=>ab rfl)<|ai<|ag<|ah<|aj<|hy (fun _=>aa rfl)<|hy (fun _=>aa rfl)<| ?_
 refine hx (aq rfl Tryz.call222 (sJ) [] rfl [] rfl ?_)
 rintro _ _ _ ⟨rfl,rfl,rfl⟩
 refine hy (fun _=>ab rfl)<|ai<|al (ρ' :=[(4,_),(0,_),(1,_)]) ⟨rfl,rfl,rfl,trivial⟩<|ak (X' :=[]) (S' :=[]) (fun _ m=>m)<|ag<|aX<| ?_
 exact bg trivial rfl rfl [] rfl [] rfl ⟨rfl,rfl,rfl⟩
theorem Dl{g:Nat}{st:cN}{p:List UInt8}(hk:st.seen.length≤100000):ck Tryz.prog 86 [.pointer (some ⟨g,0,none⟩),.string (strOf p)] [bs g st] [] (fun v_ X_ S_=>∃v n ks,v_=v∧X_=[bs g st,aG 9 1 v n (ss (uO ks))]∧S_=[]∧(n=ks.length∧ks.Perm ((cp st.seen).filter (pre p)))):=by
 refine aP (N:=26) Tryz.func86 rfl rfl (by simp) fun b=> ?_
 refine bx (fun w m=>(m.perm (au [0] _ [_] _ rfl)).unpack) ?_
 refine ah<|aj<|hy (fun _=>ab rfl)<|ai<|ag<|ah<|aj<|hy (fun _=>ab rfl)<|ai<|ag<|ah<|ah<|aj<|hy (fun _=>aa rfl)<|hy (fun _=>bd rfl)<|hy (fun _=>aK rfl ic (by decide))<|hy (fun m=>ay rfl nk (aE (m.a6 0 rfl) rfl))<| ?_
 refine hx (qi 1 rfl rfl Tryz.underlying174 (fun r11=> ?_))
 refine ai<|al (ρ' :=[(11,_),(5,_),(4,_),(0,_),(1,_)]) ⟨rfl,rfl,rfl,rfl,rfl,trivial⟩<|ak (X' :=[_,_,_,_,_]) (S' :=[]) (fun _ m=>m)<|ag<|aI<| ?_
 refine bx (fun w m=>m.dm (r' :=aG 9 1 (.slice none 0 0) 0 []) (.refl _ _) (Own.nil _ _ _ _) (fun k hk=>hk.elim)) ?_
 refine nP (fun left cur A1 k c1 ks=>left.length) (fun left cur A1 k c1 ks=>[(5,.slice A1 k c1)]) (fun left cur A1 k c1 ks=>[aG 9 1 (.slice A1 k c1) k (ss ks),jY SV r11 st.gs (dX st.seen) (dX left) cur]) (fun left cur A1 k c1 ks=>[]) (fun left cur A1 k c1 ks=>k=ks.length∧k+left.length≤st.seen.length∧(ks++(cp left).filter (pre p)).Perm ((cp st.seen).filter (pre p))) st.seen none none 0 0 [] [(11,_),(4,_),(0,_),(1,_)] ⟨rfl,rfl,rfl,rfl,trivial⟩ [0,0] rfl [] rfl (⟨rfl,by omega,List.Perm.refl _⟩) ⟨rfl,trivial⟩ (fun left cur A1 k c1 ks ⟨hkn,hkl,hpm⟩=> ?_)
 refine ah<|aj<| ?_
 refine hx (r6 1 rfl rfl (fun h0=> ?_) (fun j x hx1=> ?_))
 ·obtain rfl:left=[]:=List.map_eq_nil_iff.1 h0
  refine hy (fun _=>ar rfl rfl)<|ai<|al (ρ' :=[(13,_),(5,_),(11,_),(4,_),(0,_),(1,_)]) ⟨rfl,rfl,rfl,rfl,rfl,rfl,trivial⟩<|ag<|ah<| ?_
  refine dB rfl (rfl) ?_
  refine bJ<|ao<|ao<|aB<|ag<|ah<|aj<|hy (fun _=>aa rfl)<| ?_
  refine hx (aq rfl Tryz.call165 (Gg (by omega)) [0] rfl [] rfl ?_)
  rintro _ _ _ ⟨rfl,rfl,rfl⟩
  refine ai<|al (ρ' :=[(13,_),(5,_),(11,_),(4,_),(0,_),(1,_)]) ⟨rfl,rfl,rfl,rfl,rfl,rfl,trivial⟩<|ak (X' :=[_,_,_,_,_,_]) (S' :=[]) (fun _ m=>m)<|ag<|ah<|aj<|hy (fun _=>aa rfl)<|hy (fun _=>ab rfl)<|ai<|al (ρ' :=[(4,_),(13,_),(5,_),(11,_),(0,_),(1,_)]) ⟨rfl,rfl,rfl,rfl,rfl,rfl,trivial⟩<|ag<|aX<| ?_
  refine ak (fun w m=>m.vr 1 rfl) ?_
  refine ak (X' :=bs g st::_) (fun w m=>(m.perm (au [2,0,1,1,1] _ [_,_,_,_,_] _ rfl)).pack) ?_
  exact bg trivial rfl rfl [0,0] rfl [] rfl ⟨_,_,_,rfl,rfl,rfl,⟨hkn,by simpa[cp]using hpm⟩⟩
 ·obtain⟨key,v⟩:=x
  obtain⟨r,hr,e⟩:=w8 hx1
  obtain rfl:v=r.val:=e
  have hlt:=(List.getElem?_eq_some_iff.1 hr).1
  simp only at hr
  have hpe:=mr hr
  have hpa:(cp left).Perm (key::cp (left.eraseIdx j)):=by simpa[cp]using hpe.map Prod.fst
  have hpf:=hpa.filter (pre p)
  refine hy (fun _=>ar rfl rfl)<|ai<|al (ρ' :=[(13,_),(5,_),(11,_),(4,_),(0,_),(1,_)]) ⟨rfl,rfl,rfl,rfl,rfl,rfl,trivial⟩<|ag<|ah<| ?_
  refine ia rfl (rfl) ?_
  refine aD<|ag<|aI<|ah<|aj<|hy (fun m=>pK rfl (m.DM 0 rfl))<|hy (fun _=>ar rfl rfl)<|hy (fun _=>ab rfl)<|ai<|al (ρ' :=[(6,_),(13,_),(5,_),(11,_),(4,_),(0,_),(1,_)]) ⟨rfl,rfl,rfl,rfl,rfl,rfl,rfl,trivial⟩<|ag<|ah<|aj<|hy (fun _=>aa rfl)<|hy (fun _=>aa rfl)<| ?_
  refine hx (aq rfl Tryz.call164 (u6) [] rfl [] rfl ?_)
  rintro _ _ _ ⟨rfl,rfl,rfl⟩
  refine ai<|al (ρ' :=[(18,_),(6,_),(13,_),(5,_),(11,_),(4,_),(0,_),(1,_)]) ⟨rfl,rfl,rfl,rfl,rfl,rfl,rfl,rfl,trivial⟩<|ak (X' :=[_,_,_,_,_,_]) (S' :=[]) (fun _ m=>m)<|ag<| ?_
  refine AH rfl (fun hpr=> ?_) (fun hpr=> ?_)
  ·have hp2:(ks++[key]++(cp (left.eraseIdx j)).filter (pre p)).Perm ((cp st.seen).filter (pre p)):=by
    rw[List.filter_cons,if_pos hpr]at hpf
    rw[List.append_assoc]
    exact((List.Perm.append_left ks hpf).symm.trans hpm)
   refine aj<|hy (fun _=>aa rfl)<|hy (fun _=>aa rfl)<| ?_
   refine hx (b5 Tryz.underlying152 Hr rfl rfl rfl (by simp[Value.cells,SV]) (by decide) (by decide) (fun g21=> ?_))
   have hA_b21:0<1→(some (⟨g21,0,none⟩:Addr))≠none:=fun _ h=>by cases h
   refine aO (fun w m=>m.bQ 0 rfl (show _=aG 9 1 (.slice (some ⟨g21,0,none⟩) 1 1) 1 (ss [key])from rfl)) ?_
   refine hx (bu 2 rfl rfl rfl Tryz.underlying152 Tryz.underlying152 (by exact .inl rfl) Hr rfl (fun m=>Src.bP (m.ord 0 rfl)) DD (by unfold maxLen;omega) (by omega) (fun u=> ?_))
   refine aA (fun m=>(m.own 0 rfl).slice) ?_
   rintro⟨A_o,c_o,rfl,hc_o⟩
   refine aA (fun m=>(m.ord 0 rfl).2.1) fun hA_o=> ?_
   refine aO (fun w m=>m.bQ 0 rfl (show _=aG 9 1 (.slice A_o (k+1) c_o) (k+1) (ss (ks++[key]))from by simp[ss])) ?_
   refine hy (fun _=>ab rfl)<|ai<|al (ρ' :=[(5,_),(18,_),(6,_),(13,_),(11,_),(4,_),(0,_),(1,_)]) ⟨rfl,rfl,rfl,rfl,rfl,rfl,rfl,rfl,trivial⟩<|ak (X' :=[_,_,_,_,_,_,_]) (S' :=[]) (fun _ m=>m)<|aQ<| ?_
   refine ak (fun w m=>m.bQ 2 rfl (show _=jY SV r11 st.gs (dX st.seen) (dX (left.eraseIdx j)) (some (key,r.val))from congrArg (fun q=>jY SV r11 st.gs (dX st.seen) q (some (key,r.val))) (ml left j))) ?_
   refine gg (left.eraseIdx j) (some (key,r.val)) A_o (k+1) c_o (ks++[key]) ⟨rfl,rfl,rfl,rfl,rfl,trivial⟩ [1,0,1,1,1,1] rfl [] rfl (⟨by rw[List.length_append,hkn];rfl,by rw[List.length_eraseIdx,if_pos hlt];omega,hp2⟩) (by rw[List.length_eraseIdx,if_pos hlt];omega)
  ·have hp2:(ks++(cp (left.eraseIdx j)).filter (pre p)).Perm ((cp st.seen).filter (pre p)):=by
    rw[List.filter_cons,if_neg (by rw[show pre p key=false from hpr];decide)]at hpf
    exact((List.Perm.append_left ks hpf).symm.trans hpm)
   refine aD<|aQ<| ?_
   refine ak (fun w m=>m.bQ 0 rfl (show _=jY SV r11 st.gs (dX st.seen) (dX (left.eraseIdx j)) (some (key,r.val))from congrArg (fun q=>jY SV r11 st.gs (dX st.seen) q (some (key,r.val))) (ml left j))) ?_
   refine gg (left.eraseIdx j) (some (key,r.val)) A1 k c1 ks ⟨rfl,rfl,rfl,rfl,rfl,trivial⟩ [1,0,0,0,0,0] rfl [] rfl (⟨hkn,by rw[List.length_eraseIdx,if_pos hlt];omega,hp2⟩) (by rw[List.length_eraseIdx,if_pos hlt];omega)
end Go.Proofs.YtmibdabdlgmafaaGreatDoor
end
section
set_option maxRecDepth 20000
namespace Go.Proofs.YtmibdabdlgmafaaGreatDoor
open Go.Eng Go.Hx
theorem Ar{g:Nat}{st:cN}{d:RD}{kk:Nat}{p:List UInt8}(hD:DS st d kk)(hkk:kk≤99000):ck Tryz.prog 79 [.pointer (some ⟨g,0,none⟩),.string (strOf p)] [bs g st] [] (fun v_ X_ S_=>∃st1,v_=(.int .i64 (d.cj p))∧X_=[bs g st1]∧S_=[]∧(DS st1 (d.remove p) (kk+1))):=by
 exact ck.mono (Bx hD.ok (by omega)) (fun v X S h=>by
  obtain⟨st1,A,j,h1,h2,h3,hw⟩:=h
  exact⟨st1,by rw[hD.cj];exact h1,h2,h3,hD.remove hw⟩)
theorem BY{g:Nat}{st:cN}{d:RD}{kk:Nat}{n:Int}(hD:DS st d kk)(hn:n≤1000000000000):ck Tryz.prog 57 [.pointer (some ⟨g,0,none⟩),.int .i64 n] [bs g st] [] (fun v_ X_ S_=>∃st1,v_=(.tuple #[])∧X_=[bs g st1]∧S_=[]∧(DS st1 (d.bY n) kk)):=by
 exact ck.mono Et (fun v X S h=>⟨_,h.1,h.2.1,h.2.2,hD.bY hn⟩)
def gU(d:RD)(p:List UInt8):List (List UInt8):=(d.seen.map (·.1)).filter (pre p)
theorem fL.gU{fs:dK}{l:List FP}(h:fL fs l){q:List UInt8→Bool}{ks:List (List UInt8)}(hk:ks.Perm ((cp fs).filter q)):uO ks=(l.map (·.1)).filter q:=by
 have h1:(uO ks).Perm ((l.map (·.1)).filter q):=(List.mergeSort_perm _ _).trans (hk.trans (h.keys.filter q))
 have h2:(uO ks).Pairwise (· ≤·):=by
  have:=List.pairwise_mergeSort (le:=fun x y:List UInt8=>decide (x≤y)) (fun a b c hab hbc=>by simpa using List.le_trans (by simpa using hab) (by simpa using hbc)) (fun a b=>by simpa using List.le_total a b) ks
  exact this.imp (fun hab=>by simpa using hab)
 have h3:((l.map (·.1)).filter q).Pairwise (· ≤·):=(h.ord.imp (fun hlt=>List.le_of_lt hlt)).filter q
 exact h1.eq_of_pairwise (fun a b _ _ hab hba=>List.le_antisymm hab hba) h2 h3
theorem Fa{g:Nat}{st:cN}{d:RD}{kk:Nat}{p:List UInt8}(hD:DS st d kk)(hkk:kk≤99000):ck Tryz.prog 86 [.pointer (some ⟨g,0,none⟩),.string (strOf p)] [bs g st] [] (fun v_ X_ S_=>∃v,v_=v∧X_=[bs g st,aG 9 1 v (gU d p).length (ss (gU d p))]∧S_=[]∧((gU d p).length≤kk)):=by
 have h1:st.seen.length≤kk:=hD.ok.seen
 have h2:d.seen.length≤kk:=hD.qM.seen
 have h3:(gU d p).length≤kk:=Nat.le_trans (List.length_filter_le _ _) (by rw[List.length_map];exact h2)
 exact ck.mono (Dl (p:=p) (by omega)) (fun v X S h=>by
  obtain⟨v1,n,ks,h1,h2,h3',h4,h5⟩:=h
  have e:=hD.mE.files.gU h5
  have hl:n=(gU d p).length:=by
   unfold gU
   rw[←e,h4]
   exact(List.mergeSort_perm _ _).length_eq.symm
  subst hl
  refine⟨v1,h1, ?_,h3',h3⟩
  rw[h2,e]
  rfl)
end Go.Proofs.YtmibdabdlgmafaaGreatDoor
end
section
namespace Go.Hx
open Go.Eng
end Go.Hx
end
section
namespace Go.Proofs.YtmibdabdlgmafaaGreatDoor
open Go.Eng Go.Hx
end Go.Proofs.YtmibdabdlgmafaaGreatDoor
end
section
namespace Go.Proofs.YtmibdabdlgmafaaGreatDoor
open Go.Eng Go.Hx
theorem oh(q:FP→Bool)(l:List FP):dH (l.filter q)≤dH l:=by
 induction l with
 |nil=>exact Nat.le_refl _
 |cons x r ih=>
  rw[List.filter_cons]
  have e:dH (x::r)=x.2.length+dH r:=by simp[dH]
  split
  ·have e2:dH (x::r.filter q)=x.2.length+dH (r.filter q):=by simp[dH]
   omega
  ·omega
theorem oT{q:FP→Bool}{l:List FP}{x:FP}(hx:x∈l)(hq:q x=false):dH (l.filter q)+x.2.length≤dH l:=by
 induction l with
 |nil=>cases hx
 |cons y r ih=>
  rw[List.filter_cons]
  have e:dH (y::r)=y.2.length+dH r:=by simp[dH]
  rcases List.mem_cons.1 hx with rfl|hm
  ·rw[hq]
   have:=oh q r
   simp only[Bool.false_eq_true,if_false]
   omega
  ·have h1:=ih hm
   split
   ·have e2:dH (y::r.filter q)=y.2.length+dH (r.filter q):=by simp[dH]
    omega
   ·omega
theorem ug(l:List FP)(f:FP):dH (ib l f)≤dH l+f.2.length:=by
 induction l with
 |nil=>simp[ib,dH]
 |cons x r ih=>
  have e:dH (x::r)=x.2.length+dH r:=by simp[dH]
  rw[ib]
  split
  ·have e2:dH (x::ib r f)=x.2.length+dH (ib r f):=by simp[dH]
   omega
  ·have e2:dH (f::(x::r).filter fun y=>decide (y.1≠f.1))=f.2.length+dH ((x::r).filter fun y=>decide (y.1≠f.1)):=by simp[dH]
   have:=oh (fun y=>decide (y.1≠f.1)) (x::r)
   omega
structure At(d:RD)(F:List UInt8→Option (List UInt8))(T:Nat)(room:Int):Prop where
 pw:d.pw=-1
 room:d.room=room
 look:∀p,lk d.seen p=F p
 mg:dH d.seen≤T
def sP(F:List UInt8→Option (List UInt8))(p:List UInt8)(v:Option (List UInt8)):List UInt8→Option (List UInt8):=fun q=>if q=p then v else F q
theorem At.cj{d:RD}{F:List UInt8→Option (List UInt8)}{T:Nat}{room:Int}(h:At d F T room)(p:List UInt8):d.cj p=if F p=none then 4 else 0:=by
 have h1:=h.look p
 rw[←fI]at h1
 rw[RD.cj,if_neg (by rw[h.pw];decide)]
 cases hq:d.seen[cE d.seen p]? with
 |none=>rw[hq]at h1;rw[if_pos rfl,if_pos (by rw[←h1];rfl)]
 |some x=>rw[hq]at h1;rw[if_neg (by simp),if_neg (by rw[←h1];simp)]
theorem At.cF{d:RD}{F:List UInt8→Option (List UInt8)}{T:Nat}{room:Int}(h:At d F T room)(p:List UInt8):d.cF p=(F p).getD []:=by
 have h1:=h.look p
 rw[←fI]at h1
 rw[RD.cF,if_neg (by rw[h.pw];decide),h1]
theorem At.bO{d:RD}{F:List UInt8→Option (List UInt8)}{T:Nat}{room:Int}(h:At d F T room){p l:List UInt8}(hp:fV p)(hr:(T:Int)+(l.length:Nat)≤room):d.bO p l=0:=by
 have h1:=h.mg
 have h2:=h.room
 rw[RD.bO,if_neg (fun h=>h hp),if_neg (by rw[h.pw];decide),if_neg (by omega)]
theorem At.write{d:RD}{F:List UInt8→Option (List UInt8)}{T:Nat}{room:Int}(h:At d F T room){p l:List UInt8}(hp:fV p)(hr:(T:Int)+(l.length:Nat)≤room):At (d.write p l) (sP F p (some l)) (T+l.length) room:=by
 have hs:(d.write p l).seen=ib d.seen (p,l):=by
  rw[RD.write,if_pos (h.bO hp hr)]
  show dL d.seen 0 p [] l=_
  rw[dL,if_pos rfl,jM]
 refine⟨?_, ?_,fun q=> ?_, ?_⟩
 ·rw[RD.write,if_pos (h.bO hp hr)]
  show en d.pw=-1
  rw[h.pw];rfl
 ·rw[RD.write,if_pos (h.bO hp hr)];exact h.room
 ·rw[hs,sD]
  unfold sP
  split
  ·rfl
  ·exact h.look q
 ·rw[hs]
  have:=ug d.seen (p,l)
  have:=h.mg
  have e:(p,l).2.length=l.length:=rfl
  omega
theorem At.dp{d:RD}{F:List UInt8→Option (List UInt8)}{T:Nat}{room:Int}(h:At d F T room):d.dp=0:=by rw[RD.dp,if_neg (by rw[h.pw];decide)]
theorem At.sync{d:RD}{F:List UInt8→Option (List UInt8)}{T:Nat}{room:Int}(h:At d F T room):At d.sync F T room:=by
 have e:d.sync={d with cO:=d.seen,waits:=[],pw:=en d.pw}:=by rw[RD.sync,if_neg (by rw[h.pw];decide)]
 rw[e]
 exact⟨by show en d.pw=-1;rw[h.pw];rfl,h.room,h.look,h.mg⟩
theorem At.b7{d:RD}{F:List UInt8→Option (List UInt8)}{T:Nat}{room:Int}(h:At d F T room){a c x:List UInt8}(hc:fV c)(hx:F a=some x):d.b7 a c=0:=by
 rw[RD.b7,if_neg (fun h=>h hc),h.cj,if_neg (by rw[hx];simp)]
theorem At.rename{d:RD}{F:List UInt8→Option (List UInt8)}{T:Nat}{room:Int}(h:At d F T room){a c x:List UInt8}(hc:fV c)(hx:F a=some x):At (d.rename a c) (sP (sP F a none) c (some x)) T room:=by
 have h1:=h.look a
 rw[←fI,hx]at h1
 obtain⟨y,hy,hyx⟩:∃y,d.seen[cE d.seen a]? =some y∧y.2=x:=by
  cases hq:d.seen[cE d.seen a]? with
  |none=>rw[hq]at h1;cases h1
  |some y=>rw[hq]at h1;exact⟨y,rfl,by simpa using h1⟩
 have hya:y.1=a:=by
  obtain⟨hi,he⟩:=List.getElem?_eq_some_iff.1 hy
  have:=List.findIdx_getElem (p:=fun x:FP=>decide (x.1=a)) (xs:=d.seen) (w:=hi)
  rw[←he]
  exact of_decide_eq_true this
 have hs:(d.rename a c).seen=ib (dw d.seen a) (c,x):=by
  rw[RD.rename,if_pos (h.b7 hc hx)]
  show dL d.seen 1 a c []=_
  rw[dL,if_neg (by decide),hy]
  show(if(1:Int)=2 then _ else _)=_
  rw[if_neg (by decide),jM,hyx]
 refine⟨?_, ?_,fun q=> ?_, ?_⟩
 ·rw[RD.rename,if_pos (h.b7 hc hx)]
  show en d.pw=-1
  rw[h.pw];rfl
 ·rw[RD.rename,if_pos (h.b7 hc hx)];exact h.room
 ·rw[hs,sD]
  unfold sP dw
  split
  ·rfl
  ·rw[ix]
   split
   ·rfl
   ·exact h.look q
 ·rw[hs]
  have h2:=ug (dw d.seen a) (c,x)
  have h3:dH (dw d.seen a)+y.2.length≤dH d.seen:=oT (List.mem_of_getElem? hy) (by simp[hya])
  have:=h.mg
  have e:(c,x).2.length=x.length:=rfl
  rw[hyx]at h3
  omega
end Go.Proofs.YtmibdabdlgmafaaGreatDoor
end
