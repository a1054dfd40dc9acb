/- Part. -/
import Derived.Test.YtmibdabdlgmafaaGreatDoorSWK3
import Derived.OrdersIn
import Derived.RangeFuncNested
import Derived.RangeFuncLeaves
import Derived.RangeFuncCalls
import Derived.RangeFuncBox
import Derived.Shelf.Abstract
import Derived.WalkKit
import Derived.OwnWalkIn
import Derived.TacticsInMore
import Derived.LoopNIn
import Derived.LoopIn
import Derived.ScopeJumps
import Derived.Shelf.Sort.Plain
import Derived.Test.YtmibdabdlgmafaaGreatDoorProg
import Derived.Sort.OwnSorted
set_option linter.all false
section
set_option maxRecDepth 20000
set_option maxHeartbeats 2000000
namespace Go.Proofs.YtmibdabdlgmafaaGreatDoor
open Go.Eng Go.Hx
theorem Dp{A:Option Addr}{n c i k:Nat}{l:List UInt8}(hn:n≤1000000000)(hl:l.length=n)(hi:i≤n)(hk:k≤i):cj Tryz.prog 272 [.slice A n c,.int .i64 (i:Nat),.int .i64 (k:Nat)] [] [cV 1 A n (aR l)] (fun v_ X_ S_=>v_=(.int .i64 (mi l i k:Nat))∧X_=[]∧S_=[]):=by
 refine aQ (N:=36) Tryz.func272 rfl rfl (by simp) fun b=> ?_
 refine aY (fun m=>ig (m.rd 0 rfl)) ?_
 rintro⟨hl_r,hA_r⟩
 refine ah<|aj<|hy (fun _=>ab rfl)<|ai<|ag<|ah<|aj<|hy (fun _=>ab rfl)<|ai<|ag<|ah<|aI<| ?_
 refine dD (fun m=>131-m) (fun m=>[(7,.int .i64 (m:Nat))]) (fun m=>[]) (fun m=>[]) (fun m=>m≤131∧i+m≤n∧lM l i k (131-m) m=mi l i k) 0 [(6,_),(0,_),(1,_),(2,_)] ⟨rfl,rfl,rfl,rfl,trivial⟩ [] rfl [] rfl (⟨by decide,hi,rfl⟩) ⟨rfl,trivial⟩ (fun m ⟨hm,him,hL⟩=> ?_)
 refine ah<|ah<|cG [] [(0,some 0),(1,some 0),(2,some 0),(3,some 0),(4,some 0),(5,some 0),(6,some 0),(7,some 0),(8,some 0),(9,some 0),(10,some 0),(11,some 0),(12,some 0),(13,some 0),(14,some 0),(15,some 0),(16,some 0),(17,some 0),(18,some 0),(19,some 0),(20,some 0),(21,some 0),(22,some 0),(23,some 0),(24,some 0)] (by kernel_rfl) (by kernel_rfl) rfl 99<|an (aa rfl)<|an (bu rfl rfl)<|an (aa rfl)<| ?_
 refine lH 10 rfl (fun h1=> ?_) (fun h1=> ?_)
 ·refine bI (o:=_) rfl rfl rfl (aa rfl)<|bI (o:=_) rfl rfl rfl (aa rfl)<|bI (o:=_) rfl rfl rfl (aN rfl rfl (bC (by omega) (by omega)))<|bI (o:=_) rfl rfl rfl (aa rfl)<|bI (o:=_) rfl rfl rfl (aU rfl Tryz.underlying27)<|bI (o:=_) rfl rfl rfl (bu rfl rfl)<|an (bX rfl rfl)<|an (aa rfl)<| ?_
  refine lH 18 rfl (fun h2=> ?_) (fun h2=> ?_)
  ·refine bI (o:=_) rfl rfl rfl (aa rfl)<|bI (o:=_) rfl rfl rfl (aa rfl)<|bI (o:=_) rfl rfl rfl (aa rfl)<|bI (o:=_) rfl rfl rfl (aN rfl rfl (bC (by omega) (by omega)))<|bI (o:=_) rfl rfl rfl (aO rfl rfl Tryz.underlying27 ek hA_r (show((i+m:Nat):Int)=_ by omega) (by omega))<|lL (o:=_) rfl rfl rfl (fun m=>aw rfl jL ((m.rd 0 rfl).cell (bM (by omega))))<|bI (o:=_) rfl rfl rfl (aa rfl)<|bI (o:=_) rfl rfl rfl (aa rfl)<|bI (o:=_) rfl rfl rfl (aa rfl)<|bI (o:=_) rfl rfl rfl (aN rfl rfl (bC (by omega) (by omega)))<|bI (o:=_) rfl rfl rfl (aO rfl rfl Tryz.underlying27 ek hA_r (show((k+m:Nat):Int)=_ by omega) (by omega))<|lL (o:=_) rfl rfl rfl (fun m=>aw rfl jL ((m.rd 0 rfl).cell (bM (by omega))))<|bI (o:=_) rfl rfl rfl (cM rfl rfl)<|an (bX rfl rfl)<|br<|al (ρ' :=[(32,_),(7,_),(6,_),(0,_),(1,_),(2,_)]) ⟨rfl,rfl,rfl,rfl,rfl,rfl,trivial⟩<|ag<| ?_
   refine cD rfl (fun h3=> ?_) (fun h3=> ?_)
   ·have e3:l.getD (i+m) 0=l.getD (k+m) 0:=UInt8.toNat_inj.1 (by omega)
    rw[ik (by omega) ⟨by omega,e3⟩]at hL
    refine aC<|ag<|aI<|aj<|hy (fun _=>aa rfl)<|hy (fun _=>aN rfl rfl (bC (by omega) (by omega)))<|hy (fun _=>ab rfl)<|ai<|al (ρ' :=[(7,_),(32,_),(6,_),(0,_),(1,_),(2,_)]) ⟨rfl,rfl,rfl,rfl,rfl,rfl,trivial⟩<|aM<| ?_
    refine cR (m+1) ⟨rfl,rfl,rfl,rfl,rfl,trivial⟩ [] rfl [0] rfl (⟨by omega,by omega,by rw[←hL];rfl⟩) (by omega)
   ·rw[lf (fun q=>h3 (by rw[q.2]))]at hL
    rw[←hL]
    refine bK<|ao<|ao<|aB<|ag<|ah<|aj<|hy (fun _=>aa rfl)<|hy (fun _=>ab rfl)<|ai<|al (ρ' :=[(6,_),(32,_),(7,_),(0,_),(1,_),(2,_)]) ⟨rfl,rfl,rfl,rfl,rfl,rfl,trivial⟩<|ag<|aX<| ?_
    exact bf trivial rfl rfl [] rfl [] rfl ⟨rfl,rfl,rfl⟩
  ·rw[lf (fun q=>h2 (by omega))]at hL
   rw[←hL]
   refine aV rfl rfl rfl (by decide)<|aV rfl rfl rfl (by decide)<|aV rfl rfl rfl (by decide)<|aV rfl rfl rfl (by decide)<|aV rfl rfl rfl (by decide)<|aV rfl rfl rfl (by decide)<|aV rfl rfl rfl (by decide)<|aV rfl rfl rfl (by decide)<|aV rfl rfl rfl (by decide)<|aV rfl rfl rfl (by decide)<|aV rfl rfl rfl (by decide)<|aV rfl rfl rfl (by decide)<|aV rfl rfl rfl (by decide)<|an (bP rfl rfl)<|br<|al (ρ' :=[(32,_),(7,_),(6,_),(0,_),(1,_),(2,_)]) ⟨rfl,rfl,rfl,rfl,rfl,rfl,trivial⟩<|ag<| ?_
   refine dL rfl (rfl) ?_
   refine bK<|ao<|ao<|aB<|ag<|ah<|aj<|hy (fun _=>aa rfl)<|hy (fun _=>ab rfl)<|ai<|al (ρ' :=[(6,_),(32,_),(7,_),(0,_),(1,_),(2,_)]) ⟨rfl,rfl,rfl,rfl,rfl,rfl,trivial⟩<|ag<|aX<| ?_
   exact bf trivial rfl rfl [] rfl [] rfl ⟨rfl,rfl,rfl⟩
 ·obtain rfl:m=131:=by omega
  have hL:131=mi l i k:=hL
  rw[←hL]
  refine aV rfl rfl rfl (by decide)<|aV rfl rfl rfl (by decide)<|aV rfl rfl rfl (by decide)<|aV rfl rfl rfl (by decide)<|aV rfl rfl rfl (by decide)<|aV rfl rfl rfl (by decide)<|an (bP rfl rfl)<|an (aa rfl)<| ?_
  refine aV rfl rfl rfl (by decide)<|aV rfl rfl rfl (by decide)<|aV rfl rfl rfl (by decide)<|aV rfl rfl rfl (by decide)<|aV rfl rfl rfl (by decide)<|aV rfl rfl rfl (by decide)<|aV rfl rfl rfl (by decide)<|aV rfl rfl rfl (by decide)<|aV rfl rfl rfl (by decide)<|aV rfl rfl rfl (by decide)<|aV rfl rfl rfl (by decide)<|aV rfl rfl rfl (by decide)<|aV rfl rfl rfl (by decide)<|an (bP rfl rfl)<|br<|al (ρ' :=[(32,_),(7,_),(6,_),(0,_),(1,_),(2,_)]) ⟨rfl,rfl,rfl,rfl,rfl,rfl,trivial⟩<|ag<| ?_
  refine dL rfl (rfl) ?_
  refine bK<|ao<|ao<|aB<|ag<|ah<|aj<|hy (fun _=>aa rfl)<|hy (fun _=>ab rfl)<|ai<|al (ρ' :=[(6,_),(32,_),(7,_),(0,_),(1,_),(2,_)]) ⟨rfl,rfl,rfl,rfl,rfl,rfl,trivial⟩<|ag<|aX<| ?_
  exact bf trivial rfl rfl [] rfl [] rfl ⟨rfl,rfl,rfl⟩
structure kP where
 A:Option Addr
 c:Nat
 l:List Nat
def kP.val(r:kP):Value:=.slice r.A r.l.length r.c
def BU(l:List Nat):List Value:=l.map fun n=>Value.int .i64 (n:Nat)
theorem wy{l:List Nat}:∀u∈BU l,u.oneCell' =true:=by
 intro u hu
 obtain⟨n,_,rfl⟩:=List.mem_map.1 hu
 rfl
def kP.res(r:kP):bh:=aG 3 1 (.slice r.A r.l.length r.c) r.l.length (BU r.l)
abbrev vr:=List (Bn 4×kP)
def jz(es:vr):List (Bn 4×Value):=es.map fun x=>(x.1,x.2.val)
def fT(es:vr):List bh:=es.map fun x=>x.2.res
abbrev n0(g gm:Nat)(A:Option Addr)(n c m:Nat)(es:vr):bh:=fG [aL g 359 [.slice A n c,.map (some gm),.int .i64 (m:Nat)],cT (KN (n:=4)) gm (jz es),fG (fT es)]
def yp(l:List UInt8)(m:Nat)(es:vr):Prop:=∀k:Bn 4,((b8 es k).map kP.l).getD []=kC l m k.1
theorem k9(k:Bn 4):∀es:vr,b8 (jz es) k=(b8 es k).map kP.val
 | []=>rfl
 |(q,r)::t=>by
  have ih:=k9 k t
  unfold jz at ih ⊢
  simp only[List.map_cons,b8]
  split
  ·rfl
  ·exact ih
theorem nK(k:Bn 4)(r:kP):∀es:vr,cE (jz es) k r.val=jz (cE es k r)
 | []=>rfl
 |(q,x)::t=>by
  have ih:=nK k r t
  unfold jz at ih ⊢
  simp only[List.map_cons,cE]
  split
  ·rfl
  ·rw[ih];rfl
theorem pc{k:Bn 4}(r:kP):∀{es:vr},b8 es k=none→fT (cE es k r)=fT es++[r.res]
 | [],_=>rfl
 |(q,x)::t,h=>by
  simp only[b8]at h
  split at h
  ·cases h
  ·rename_i hq
   have ih:=pc r h
   unfold fT at ih ⊢
   simp only[cE,if_neg hq,List.map_cons,ih,List.cons_append]
theorem kR{k:Bn 4}:∀{es:vr} {x:kP},b8 es k=some x→∃i,(fT es)[i]? =some x.res∧∀r:kP,fT (cE es k r)=(fT es).set i r.res
 | [],_,h=>by cases h
 |(q,y)::t,x,h=>by
  simp only[b8]at h
  split at h
  ·rename_i hq
   cases h
   exact⟨0,rfl,fun r=>by simp[fT,cE,hq]⟩
  ·rename_i hq
   obtain⟨i,h1,h2⟩:=kR h
   refine⟨i+1,by simpa[fT]using h1,fun r=> ?_⟩
   have h2:=h2 r
   unfold fT at h2 ⊢
   simp only[cE,if_neg hq,List.map_cons,h2,List.set_cons_succ]
theorem set_perm{α:Type}:∀(l:List α) (i:Nat) (x:α),i<l.length→(l.set i x).Perm (x::l.eraseIdx i)
 | [],i,x,h=>by simp at h
 |a::t,0,x,h=>by simp
 |a::t,i+1,x,h=>by
  have:=set_perm t i x (by simpa using h)
  simp only[List.set_cons_succ,List.eraseIdx_cons_succ]
  exact(this.cons a).trans (List.Perm.swap ..)
theorem wQ{l:List UInt8}{m:Nat}{es:vr}{A:Option Addr}{c:Nat}(h:yp l m es)(hm:m+4≤l.length):yp l (m+1) (cE es ⟨ez l m,bG hm⟩ ⟨A,c,kC l m (ez l m)++[m]⟩):=by
 intro k
 rw[qY,x6]
 by_cases hk:ez l m=k.1
 ·rw[if_pos (Subtype.ext hk),if_pos hk,←hk];rfl
 ·rw[if_neg (fun e=>hk (congrArg Subtype.val e)),if_neg hk,List.append_nil]
  exact h k
theorem BB(l:List UInt8):yp l 0 []:=fun k=>rfl
theorem tH{es:vr}{l:List UInt8}{m:Nat}{k:Bn 4}{r:kP}(h:yp l m es)(hr:b8 es k=some r):r.l=kC l m k.1:=by
 have:=h k
 rw[hr]at this
 exact this
theorem q8{es:vr}{l:List UInt8}{m:Nat}{k:Bn 4}(h:yp l m es)(hr:b8 es k=none):kC l m k.1=[]:=by
 have:=h k
 rw[hr]at this
 exact this.symm
theorem Gj{g gm:Nat}{A:Option Addr}{n c p i:Nat}{l:List UInt8}{es:vr}(hc:n≤c)(hn:n≤1000000000)(hl:l.length=n)(hpi:p≤i)(hi:i+4≤n)(hF:yp l p es):cj Tryz.prog 270 [.pointer (some ⟨g,0,none⟩),.int .i64 (i:Nat)] [n0 g gm A n c p es] [cV 1 A n (aR l)] (fun v_ X_ S_=>∃es1,v_=(.tuple #[])∧X_=[n0 g gm A n c i es1]∧S_=[]∧(yp l i es1)):=by
 refine aQ (N:=61) Tryz.func270 rfl rfl (by simp) fun b=> ?_
 refine aY (fun m=>ig (m.rd 0 rfl)) ?_
 rintro⟨hl_r,hA_r⟩
 refine bw (fun w m=>(m.perm (ar [0] _ [_] _ rfl)).unpack) ?_
 refine aI<| ?_
 refine uU (fun p es=>i-p) (fun p es=>[]) (fun p es=>[aL g 359 [.slice A n c,.map (some gm),.int .i64 (p:Nat)],cT (KN (n:=4)) gm (jz es),fG (fT es)]) (fun p es=>[]) (fun p es=>p≤i∧yp l p es) p es [(0,_),(1,_)] ⟨rfl,rfl,trivial⟩ [0,0,0] rfl [] rfl (⟨hpi,hF⟩) trivial (fun p es ⟨hpi,hF⟩=> ?_)
 refine ah<|ah<|cG [] [(0,some 0),(1,some 0),(2,some 0),(3,some 0),(4,some 0),(5,some 0),(6,some 0),(7,some 0),(8,some 0),(9,some 0),(10,some 0),(11,some 0),(12,some 0),(13,some 0),(14,some 0),(15,some 0),(16,some 0),(17,some 0),(18,some 0)] (by kernel_rfl) (by kernel_rfl) rfl 99<|an (aa rfl)<|an (a7 rfl)<|an (aH rfl gW (by decide))<|ca (fun m=>aw rfl fS (aA (m.aZ 0 rfl) rfl))<|an (aa rfl)<|an (bu rfl rfl)<|an (aa rfl)<| ?_
 refine lH 11 rfl (fun h1=> ?_) (fun h1=> ?_)
 ·refine bI (o:=_) rfl rfl rfl (aa rfl)<|bI (o:=_) rfl rfl rfl (a7 rfl)<|bI (o:=_) rfl rfl rfl (aH rfl gW (by decide))<|lL (o:=_) rfl rfl rfl (fun m=>aw rfl fS (aA (m.aZ 0 rfl) rfl))<|bI (o:=_) rfl rfl rfl (aN rfl rfl (bC (by omega) (by omega)))<|bI (o:=_) rfl rfl rfl (aa rfl)<|bI (o:=_) rfl rfl rfl (a7 rfl)<|bI (o:=_) rfl rfl rfl (aH rfl kd (by decide))<|lL (o:=_) rfl rfl rfl (fun m=>aw rfl ea (aA (m.aZ 0 rfl) rfl))<|bI (o:=_) rfl rfl rfl (aU rfl Tryz.underlying27)<|bI (o:=_) rfl rfl rfl (qG rfl rfl)<|an (bX rfl rfl)<|br<|al (ρ' :=[(23,_),(0,_),(1,_)]) ⟨rfl,rfl,rfl,trivial⟩<|ag<| ?_
  refine ic rfl ((decide_eq_true (by omega))) ?_
  refine aY (fun m=>(m.rd 0 rfl).some (by omega)) fun h_=> ?_
  obtain⟨a,rfl⟩:∃a_,A=some a_:=⟨_,h_⟩
  clear h_
  refine aC<|ag<|ah<|aI<|ah<|cG [16,17] [(0,some 1),(1,some 1),(2,some 1),(3,some 1),(4,some 1),(5,some 1),(6,some 1),(7,some 1),(8,some 1),(9,some 1),(10,some 1),(11,some 1),(12,some 1),(13,some 1),(14,some 1),(15,some 1),(16,none),(17,none)] (by kernel_rfl) (by kernel_rfl) rfl 1<|an (aa rfl)<|an (a7 rfl)<|an (aH rfl kd (by decide))<|ca (fun m=>aw rfl ea (aA (m.aZ 0 rfl) rfl))<|an (aa rfl)<|an (a7 rfl)<|an (aH rfl gW (by decide))<|ca (fun m=>aw rfl fS (aA (m.aZ 0 rfl) rfl))<|an (aa rfl)<|an (a7 rfl)<|an (aH rfl gW (by decide))<|ca (fun m=>aw rfl fS (aA (m.aZ 0 rfl) rfl))<|an (aN rfl rfl (bC (by omega) (by omega)))<|an (yV (eG rfl rfl rfl Tryz.underlying27 ek rfl (show((p+4:Nat):Int)=_ by omega) (by omega) (by omega)) ((show Value.slice (if c=p then some a else(some a).map (·.add (p*1))) (p+4-p) (c-p)= .slice (some (a.add p)) 4 (c-p) by rw[if_neg (by omega),Nat.mul_one,Nat.add_sub_cancel_left];rfl)))<|an (oR rfl Tryz.underlying364 (by omega))<|ca (fun m=>yV (a6 rfl v7 tY (by rw[ay];exact bG (by omega)) (Rd.part (m.rd 0 rfl))) ((rfl:Value.agg _= .agg (aR (ez l p)).toArray)))<| ?_
  refine dV (aP Gl (fun g4=>⟨(fun _=>wk [1,1,1] [0] rfl rfl), ?_⟩))
  refine kr (aK 0 rfl rfl rfl tY (by rw[ay];exact bG (by omega)) aS rfl ⟨(fun h=>absurd h (by decide)), ?_⟩)
  refine br<|al (ρ' :=[(4,_),(23,_),(0,_),(1,_)]) ⟨rfl,rfl,rfl,rfl,trivial⟩<|ak (X' :=[_,_,_,_]) (S' :=[_]) (fun _ m=>m)<|ag<| ?_
  refine cG [9,10,12,14] [(0,some 1),(1,some 1),(2,some 1),(3,some 1),(4,some 1),(5,some 0),(6,some 0),(7,some 0),(8,some 0),(9,none),(10,none),(11,some 2),(13,some 3),(12,none),(14,none)] (by kernel_rfl) (by kernel_rfl) rfl 1<|an (aa rfl)<|an (a7 rfl)<|an (aH rfl sK (by decide))<|ca (fun m=>aw rfl yN (aA (m.aZ 1 rfl) rfl))<|ca (fun m=>yV (a6 rfl v7 tY (by rw[ay];exact bG (by omega)) ((m.aZ 0 rfl).az)) ((rfl:Value.agg _=KN ⟨ez l p,bG (by omega)⟩)))<|an (aa rfl)<|an (a7 rfl)<|an (aH rfl gW (by decide))<|ca (fun m=>aw rfl fS (aA (m.aZ 1 rfl) rfl))<| ?_
  refine dV (bY Tryz.underlying44 DI rfl rfl rfl (by simp[Value.cells,B8]) (by decide) (by decide) (fun g57=>⟨(fun _=>wk [1,1,1,1] [0] rfl rfl), ?_⟩))
  have hA_b57:0<1→(some (⟨g57,0,none⟩:Addr))≠none:=fun _ h=>by cases h
  refine eE (fun w m=>m.bQ 0 rfl (show _=aG 3 1 (.slice (some ⟨g57,0,none⟩) 1 1) 1 (BU [p])from rfl)) ?_
  refine dV (zA (enc:=(KN (n:=4))) (k:=⟨ez l p,bG (by omega)⟩) 3 rfl rfl rfl Tryz.underlying357 Ep (zN Tryz.underlying364 Tryz.underlying5 (by kernel_rfl) (by kernel_rfl) (by kernel_rfl)) (fun st58=>⟨(fun h=>absurd h (by decide)), ?_⟩))
  rw[k9]
  rcases hq:b8 es ⟨ez l p,bG (by omega)⟩with _|x
  ·have e0:=q8 hF hq
   refine eE (fun w m=>m.dG (r' :=aG 3 1 (.slice none 0 0) 0 []) (.refl _ _) (Own.nil _ _ _ _) (fun k hk=>hk.elim)) ?_
   refine an (au rfl rfl)<|an (au rfl rfl)<| ?_
   refine dV (bL 0 rfl rfl rfl Tryz.underlying44 Tryz.underlying44 (by exact .inl rfl) DI rfl (fun m=>Src.b7 (m.ord 2 rfl)) (wy (l:=[p])) (by unfold maxLen;omega) (by omega) (fun u=>⟨(fun h=>absurd h (by decide)), ?_⟩))
   refine b5 (fun m=>(m.own 0 rfl).slice) ?_
   rintro⟨A_x,c_x,rfl,hc_x⟩
   refine b5 (fun m=>(m.ord 0 rfl).2.1) fun hA_x=> ?_
   refine kr (qT (enc:=(KN (n:=4))) 1 rfl rfl rfl rfl ⟨(fun h=>absurd h (by decide)), ?_⟩)
   refine br<|al (ρ' :=[(4,_),(23,_),(0,_),(1,_)]) ⟨rfl,rfl,rfl,rfl,trivial⟩<|ak (X' :=[_,_,_,_,_,_]) (S' :=[_]) (fun _ m=>m)<|aM<|ag<|aj<|hy (fun _=>aa rfl)<|hy (fun _=>a7 rfl)<|hy (fun _=>aH rfl gW (by decide))<|hy (fun m=>aw rfl fS (aA (m.aZ 4 rfl) rfl))<|hy (fun _=>aN rfl rfl (bC (by omega) (by omega)))<|hy (fun _=>a7 rfl)<|hy (fun _=>aH rfl gW (by decide))<| ?_
   refine cJ (cm 4 rfl rfl rfl sS rfl (by first|exact Nat.le_of_ble_eq_true rfl|simp) ?_)
   refine ai<|al (ρ' :=[(4,_),(23,_),(0,_),(1,_)]) ⟨rfl,rfl,rfl,rfl,trivial⟩<|ak (X' :=[_,_,_,_,_,_]) (S' :=[_]) (fun _ m=>m)<| ?_
   refine ak (fun w m=>m.bQ 0 rfl (show _=aL g 359 [.slice (some a) n c,.map (some gm),.int .i64 ((p+1:Nat):Int)]from rfl)) ?_
   refine ak (fun w m=>m.bQ 1 rfl (show _=cT (KN (n:=4)) gm (jz (cE es ⟨ez l p,bG (by omega)⟩ ⟨A_x,c_x,[p]⟩))from congrArg (cT _ _) (qM.trans (nK _ ⟨A_x,c_x,[p]⟩ es)))) ?_
   refine ak (X' :=fG (fT (cE es ⟨ez l p,bG (by omega)⟩ ⟨A_x,c_x,[p]⟩))::_) (fun w m=>(Mem.si (m.perm (ar [2,4] _ [_,_] _ rfl))).my (by rw[pc _ hq];exact(List.perm_append_singleton _ _).symm)) ?_
   refine pf (p+1) (cE es ⟨ez l p,bG (by omega)⟩ ⟨A_x,c_x,[p]⟩) ⟨rfl,rfl,trivial⟩ [2,1,0] rfl [0] rfl (⟨by omega,by have:=wQ (A:=A_x) (c:=c_x) hF (by omega);rw[e0]at this;exact this⟩) (by omega)
  ·obtain⟨j,hj1,hj2⟩:=kR hq
   have e0:=tH hF hq
   have hxl:x.l.length≤n:=by rw[e0];exact Nat.le_trans (oe _ _ _) (by omega)
   refine eE (X' :=aG 3 1 (.slice x.A x.l.length x.c) x.l.length (BU x.l)::_) (fun w m=>(m.perm (ar [4] _ [_] _ rfl)).tR j hj1) ?_
   refine an (au rfl rfl)<|an (au rfl rfl)<| ?_
   refine dV (bL 0 rfl rfl rfl Tryz.underlying44 Tryz.underlying44 (by exact .inl rfl) DI rfl (fun m=>Src.b7 (m.ord 3 rfl)) (wy (l:=[p])) (by unfold maxLen;omega) (by omega) (fun u=>⟨(fun h=>absurd h (by decide)), ?_⟩))
   refine b5 (fun m=>(m.own 0 rfl).slice) ?_
   rintro⟨A_y,c_y,rfl,hc_y⟩
   refine b5 (fun m=>(m.ord 0 rfl).2.1) fun hA_y=> ?_
   refine kr (qT (enc:=(KN (n:=4))) 2 rfl rfl rfl rfl ⟨(fun h=>absurd h (by decide)), ?_⟩)
   refine br<|al (ρ' :=[(4,_),(23,_),(0,_),(1,_)]) ⟨rfl,rfl,rfl,rfl,trivial⟩<|ak (X' :=[_,_,_,_,_,_]) (S' :=[_]) (fun _ m=>m)<|aM<|ag<|aj<|hy (fun _=>aa rfl)<|hy (fun _=>a7 rfl)<|hy (fun _=>aH rfl gW (by decide))<|hy (fun m=>aw rfl fS (aA (m.aZ 5 rfl) rfl))<|hy (fun _=>aN rfl rfl (bC (by omega) (by omega)))<|hy (fun _=>a7 rfl)<|hy (fun _=>aH rfl gW (by decide))<| ?_
   refine cJ (cm 5 rfl rfl rfl sS rfl (by first|exact Nat.le_of_ble_eq_true rfl|simp) ?_)
   refine ai<|al (ρ' :=[(4,_),(23,_),(0,_),(1,_)]) ⟨rfl,rfl,rfl,rfl,trivial⟩<|ak (X' :=[_,_,_,_,_,_]) (S' :=[_]) (fun _ m=>m)<| ?_
   refine ak (fun w m=>m.bQ 0 rfl (show _=aL g 359 [.slice (some a) n c,.map (some gm),.int .i64 ((p+1:Nat):Int)]from rfl)) ?_
   have h1e:cE (jz es) ⟨ez l p,bG (by omega)⟩ (.slice A_y (x.l.length+1) c_y)=jz (cE es ⟨ez l p,bG (by omega)⟩ ⟨A_y,c_y,x.l++[p]⟩):=by rw[←nK];simp[kP.val]
   refine ak (fun w m=>m.bQ 1 rfl (show _=cT (KN (n:=4)) gm (jz (cE es ⟨ez l p,bG (by omega)⟩ ⟨A_y,c_y,x.l++[p]⟩))from congrArg (cT _ _) (qM.trans h1e))) ?_
   have h2e:aG 3 1 (.slice A_y (x.l.length+1) c_y) (x.l.length+1) (BU x.l++BU [p])=(⟨A_y,c_y,x.l++[p]⟩:kP).res:=by simp[kP.res,BU]
   refine ak (fun w m=>m.bQ 2 rfl (show _=(⟨A_y,c_y,x.l++[p]⟩:kP).res from h2e)) ?_
   have hjl:=(List.getElem?_eq_some_iff.1 hj1).1
   refine ak (X' :=fG (fT (cE es ⟨ez l p,bG (by omega)⟩ ⟨A_y,c_y,x.l++[p]⟩))::_) (fun w m=>(Mem.si (m.perm (ar [0,2] _ [_,_] _ rfl))).my (by rw[hj2];exact(set_perm _ _ _ hjl).symm)) ?_
   refine pf (p+1) (cE es ⟨ez l p,bG (by omega)⟩ ⟨A_y,c_y,x.l++[p]⟩) ⟨rfl,rfl,trivial⟩ [2,1,0] rfl [0] rfl (⟨by omega,by have:=wQ (A:=A_y) (c:=c_y) hF (by omega);rw[←e0]at this;exact this⟩) (by omega)
 ·obtain rfl:p=i:=by omega
  refine aV rfl rfl rfl (by decide)<|aV rfl rfl rfl (by decide)<|aV rfl rfl rfl (by decide)<|aV rfl rfl rfl (by decide)<|aV rfl rfl rfl (by decide)<|aV rfl rfl rfl (by decide)<|aV rfl rfl rfl (by decide)<|aV rfl rfl rfl (by decide)<|aV rfl rfl rfl (by decide)<|aV rfl rfl rfl (by decide)<|aV rfl rfl rfl (by decide)<|an (bP rfl rfl)<|br<|al (ρ' :=[(23,_),(0,_),(1,_)]) ⟨rfl,rfl,rfl,trivial⟩<|ag<| ?_
  refine dL rfl (rfl) ?_
  refine bK<|ao<|ao<|aB<| ?_
  refine ak (X' :=n0 g gm A n c p es::_) (fun w m=>(m.perm (ar [0,0,0] _ [_,_,_] _ rfl)).pack) ?_
  exact fD trivial rfl [0] rfl [] rfl ⟨es,rfl,rfl,rfl,hF⟩
end Go.Proofs.YtmibdabdlgmafaaGreatDoor
end
section
namespace Go.Eng
open Go.RowKit
def rJ:Op→Bool
 | .defer _=>true
 |_=>false
abbrev nV(l:Nat):Fence:=Fence.wide.inRound l
section
variable{P:Program}{Q:Exit→Act→World→Prop}{a:Act}{w:World}{l n:Nat}
theorem Gp{o:Oper}{next next' :Act→World→Prop}(h:o.wp P a w next Q)(hd:rJ o.op=false)(hn:∀a w,next a w→next' a w):o.wpIn (nV l) n P a w next' Q:=by
 refine⟨fun _ _=>trivial, ?_⟩
 have e:o.semAt (nV l).round a.eval=execOp a.eval o:=Oper.semAt_eq _ _ _ (fun c hc=>by rw[hc]at hd;cases hd)
 rw[e]
 unfold Oper.wp at h
 generalize(execOp a.eval o).run P w=r at h
 match r,h with
 | .ok (.value v) w',h=>exact hn _ _ h
 | .ok .skip w',h=>exact hn _ _ h
 | .ok (.defer d) w',h=>exact hn _ _ h
 | .ok (.enter f args) w',h=>
  refine⟨fun h=>by simp[Fence.wide]at h,CallsIn.inRound l (callsIn_wide.2 (Calls.mono h ?_))⟩
  intro e w'' q
  cases e with
  |returned v=>exact hn _ _ q
  |panicked c=>exact q
  |outgrown=>exact q
 | .ok (.row row args) w',h=>exact⟨fun h=>by simp[Fence.wide]at h,fun c cs _=>let⟨v,w'',r,s⟩:=h c cs;⟨v,w'',hn _ _ r,stepsIn_wide.2 s⟩⟩
 | .halt (.panic v) w',h=>exact h
theorem nJ{ops:Array Oper}(hQ:¬LetsOut Q)(hd:ops.toList.all (fun o=> !rJ o.op)=true):∀(il:List Nat) (a:Act) (w:World),wpOps P ops Q il a w→wpOpsIn (nV l) n P ops Q il a w
 | [],a,w,h=>h
 |i::rest,a,w,h=>by
  unfold wpOps at h
  unfold wpOpsIn
  cases ho:ops[i]? with
  |none=>simp only[ho]at h ⊢;exact nJ hQ hd rest a w h
  |some o=>
   simp only[ho]at h ⊢
   have hod:rJ o.op=false:=by
    have h1:=List.all_eq_true.1 hd o (by obtain⟨hi,he⟩:=Array.getElem?_eq_some_iff.1 ho;rw[←he];exact Array.getElem_mem_toList ..)
    simpa using h1
   split
   ·rename_i hw
    rw[if_pos hw]at h
    rcases h with h|⟨_,h⟩
    ·exact Gp h hod (fun a w h=>nJ hQ hd rest a w h)
    ·exact absurd h hQ
   ·rename_i hw
    rw[if_neg hw]at h
    exact⟨fun _ _=>trivial,nJ hQ hd rest _ w h⟩
end
def u4(l n:Nat)(P:Program)(Q:Exit→Act→World→Prop)(N:Nat)(D:List Deferred)(c:Code)(ρ:Env)(b:cC)(X S:List bh):Prop:=
 ¬LetsOut Q→∀w,Mem b X S w→∀a,Ag N D ρ a→c.wpIn (nV l) n P Q a w
section
variable{P:Program}{Q:Exit→Act→World→Prop}{N:Nat}{D:List Deferred}{ρ ρ' :Env}{b:cC}{X X' X1 Xr S S' S1:List bh}{c c' :Code}{l n:Nat}{ops:Array Oper}
theorem sQ{K:Act→World→Prop}:LetsOut (Exit.then K Q)→LetsOut Q:=fun⟨a,w,h⟩=>⟨a,w,h⟩
theorem qz{id:Nat}:LetsOut (Exit.inBlock id Q)→LetsOut Q:=fun⟨a,w,h⟩=>⟨a,w,h⟩
theorem lO:LetsOut (eW Q)→LetsOut Q:=fun⟨a,w,h⟩=>⟨a,w,by first|exact h|exact h.elim⟩
theorem ob(h:u4 l n P (Exit.then (fun a w=>¬LetsOut Q→c'.wpIn (nV l) n P Q a w) Q) N D c ρ b X S):u4 l n P Q N D (.seq c c') ρ b X S:=fun hQ w m a ha=>
 wpIn_seq (wpIn_mono (h (fun k=>hQ (sQ k)) w m a ha) (fun e a w q=>by cases e <;> first|exact q hQ|exact q))
theorem rK{id:Nat}{il:List Oper}(h:HL P il.toArray Q N D il ρ b X S)(hd:il.all (fun o=> !rJ o.op)=true:=by rfl):u4 l n P Q N D (.region id il.toArray false) ρ b X S:=fun hQ w m a ha=>by
 refine wpIn_region (nJ hQ (by simpa using hd) _ _ _ ?_)
 have h1:=h w m a ha
 rw[List.range_eq_range',←Array.length_toList,wpOps_eq_wpList il.toArray.toList 0 (by simp)]
 simpa using h1
theorem oV(h:HQ Q N D .normal ρ b X S):u4 l n P Q N D .skip ρ b X S:=fun hQ w m a ha=>wpIn_skip (h w m a ha)
theorem yS{id:Nat}(h:HQ Q N D (.exit id) ρ b X S):u4 l n P Q N D (.exit id) ρ b X S:=fun hQ w m a ha=>wpIn_exit (h w m a ha)
theorem wq{id:Nat}(h:u4 l n P (Exit.inBlock id Q) N D c ρ b X S):u4 l n P Q N D (.block id c) ρ b X S:=fun hQ w m a ha=>wpIn_block (h (fun k=>hQ (qz k)) w m a ha)
theorem BC{p:Prop}[Decidable p]{x:Operand}(hc:ev ρ x=some (.bool (decide p)))(ht:p→u4 l n P Q N D c ρ b X S)(he:¬p→u4 l n P Q N D c' ρ b X S):u4 l n P Q N D (.cond x c c') ρ b X S:=
 fun hQ w m a ha=>wpIn_cond_split (ha.eval hc) (fun h=>ht (of_decide_eq_true h) hQ w m a ha) (fun h=>he (of_decide_eq_false h) hQ w m a ha)
theorem kQ(h:u4 l n P Q N D c ρ b X S):HQ (Exit.then (fun a w=>¬LetsOut Q→c.wpIn (nV l) n P Q a w) Q) N D .normal ρ b X S:=fun w m a ha hQ=>h hQ w m a ha
theorem Du{id:Nat}{il:List (Option Nat×Oper)}(Xs:List Nat)(L:List (Nat×Option Nat))(hm:P.follows .mixedOrders=true)(hk:(Region.noSelect ops && eC ops Xs L (Array.replicate ops.size false) && decide (L.length≤ops.size))=true)
  (hp:iI ops L=some il) (cc:Nat) (h:HT P ops (eW Q) (TT b X S cc) N D 0 il ρ b X S) (hd:ops.toList.all (fun o=> !rJ o.op)=true:=by rfl):u4 l n P Q N D (.region id ops true) ρ b X S:=fun hQ w m a ha=>by
 simp only[Bool.and_eq_true,decide_eq_true_eq]at hk
 refine wpIn_mono (Q:=eW Q) ?_ (fun e a w q=>by cases e <;> first|exact q|exact q.elim)
 refine wpIn_region_draw fun t=>nJ (fun k=>hQ (lO k)) hd _ _ _ ?_
 simp only[Region.schedule,hm,Bool.true_or,if_true]
 refine wpAny_sound ops.size t _ a _ ?_
 refine eR _ _ _ _ (gn (X:=Xs) hk.1.1 (fun c a d v w q=>q.elim) L il _ a _ _ 0 hp hk.1.2 hk.2 ?_ ?_ (T:=TT b X S cc) (fun _=>m.lift (Fr.drew w)) (h _ (m.lift (Fr.drew w)) a ha))
 ·intro j hj
  simp[Array.getElem?_replicate]at hj
  split at hj <;> cases hj
 ·unfold jc
  rw[List.countP_eq_zero]
  intro x _
  simp[Array.getElem?_replicate]
  split <;> rfl
theorem AW{id:Nat}{il:List (Option Nat×Oper)}(is js:List Nat)(hX:bT is X=some (X1,Xr))(hS:dS js S=some S1)(Xs:List Nat)(L:List (Nat×Option Nat))(hm:P.follows .mixedOrders=true)(hk:(Region.noSelect ops && eC ops Xs L (Array.replicate ops.size false) && decide (L.length≤ops.size))=true)
  (hp:iI ops L=some il) (cc:Nat) (h:HT P ops (eW Q) (TT b X1 S1 cc) N D 0 il ρ b X S) (hd:ops.toList.all (fun o=> !rJ o.op)=true:=by rfl):u4 l n P Q N D (.region id ops true) ρ b X S:=fun hQ w m a ha=>by
 simp only[Bool.and_eq_true,decide_eq_true_eq]at hk
 refine wpIn_mono (Q:=eW Q) ?_ (fun e a w q=>by cases e <;> first|exact q|exact q.elim)
 refine wpIn_region_draw fun t=>nJ (fun k=>hQ (lO k)) hd _ _ _ ?_
 simp only[Region.schedule,hm,Bool.true_or,if_true]
 refine wpAny_sound ops.size t _ a _ ?_
 refine eR _ _ _ _ (gn (X:=Xs) hk.1.1 (fun c a d v w q=>q.elim) L il _ a _ _ 0 hp hk.1.2 hk.2 ?_ ?_ (T:=TT b X1 S1 cc) (fun _=>(wk is js hX hS).mem (m.lift (Fr.drew w))) (h _ (m.lift (Fr.drew w)) a ha))
 ·intro j hj
  simp[Array.getElem?_replicate]at hj
  split at hj <;> cases hj
 ·unfold jc
  rw[List.countP_eq_zero]
  intro x _
  simp[Array.getElem?_replicate]
  split <;> rfl
end
end Go.Eng
end
section
namespace Go.Eng
open Go.RowKit
def xB(D:Nat):bh where
 dm k:=k=D
 holds w:=w.heap[D]? =some (.deferred (some []))
 keep:=fun{S w w'} f h e=>by
  have hlt:=(Array.getElem?_eq_some_iff.1 e).1
  exact(f.block D hlt (h D rfl)).trans e
 low:=fun{w k} e hk=>by
  have hk' :k=D:=hk
  rw[hk'];exact(Array.getElem?_eq_some_iff.1 e).1
theorem Mem.grown{b:cC}{X S:List bh}{w w' :World}{R:Nat→Prop}(m:Mem b X S w)(f:Fr R w w')(h1:∀k,R k→b.w.heap.size≤k)(h2:∀k,R k→∀x∈X,¬x.dm k)(h3:∀k,R k→∀s∈S,¬s.dm k):Mem b X S w' :=
 ⟨m.fr.trans f (fun _ e=>e) (fun i hi e=>absurd (h1 i e) (by omega)),m.xx,m.xs,fun x hx=>x.keep f (fun k hk hr=>h2 k hr x hx hk) (m.hx x hx),fun s hs=>s.keep f (fun k hk hr=>h3 k hr s hs hk) (m.hs s hs),m.nx,m.ns⟩
theorem ud{w w' :World}{row:Option Nat}(h:w.grownBy w' row):Fr (fun k=>row=some k) w w' :=⟨h.os,h.tape,h.output,h.size,fun k hk hn=>h.block k hk (fun e=>hn e.symm)⟩
def FF(B:Nat)(M:Nat→Prop)(W W' :World):Prop:=∀k,k<B→¬M k→W'.heap[k]? =W.heap[k]?
def CW(ps:Array Tmp)(vs:List Value):Env:=(ps.toList.zip vs)
theorem Mem.Af{b:cC}{X S:List bh}{w:World}{D B:Nat}(m:Mem b X S w)(hb:b.w.heap.size≤B)(hD:B≤D)(hx:∀x∈X,∀k,x.dm k→k<B)(hs:∀s∈S,∀k,s.dm k→k<B)(h:w.heap[D]? =some (.deferred (some []))):Mem b (xB D::X) S w:=by
 refine⟨m.fr,List.pairwise_cons.2 ⟨fun y hy k hk hy' => ?_,m.xx⟩,fun x hx' s hs' k hk hk' => ?_,fun x hx' => ?_,m.hs,fun x hx' k hk=> ?_,m.ns⟩
 ·have hk' :k=D:=hk
  have:=hx y hy k hy'
  omega
 ·rcases List.mem_cons.1 hx' with rfl|hx'
  ·have h1:k=D:=hk
   have:=hs s hs' k hk'
   omega
  ·exact m.xs x hx' s hs' k hk hk'
 ·rcases List.mem_cons.1 hx' with rfl|hx'
  ·exact h
  ·exact m.hx x hx'
 ·rcases List.mem_cons.1 hx' with rfl|hx'
  ·have h1:k=D:=hk
   exact .inr (by omega)
  ·exact m.nx x hx' k hk
theorem Mem.off{b:cC}{X S X1 Xr:List bh}{w:World}{is:List Nat}(m:Mem b X S w)(hX:bT is X=some (X1,Xr))(j:Nat){r:bh}(hj:Xr[j]? =some r){k:Nat}(hk:r.dm k):¬dB X1 k:=by
 have m1:=m.perm (ar _ _ _ _ hX)
 rintro⟨x,hx,hxk⟩
 exact(List.pairwise_append.1 m1.xx).2.2 x hx r (List.mem_of_getElem? hj) k hxk hk
def RQ{α σ:Type}(b:cC)(X1:σ→List bh)(Sb:List bh)(id:Nat)(step:σ→α→σ)(brk:σ→α→Prop)(s:σ)(x:α):Exit→Act→World→Prop
 | .normal,_,w=>Mem b (X1 (step s x)) Sb w
 | .exit i,_,w=>i=id∧Mem b (X1 s) Sb w∧brk s x
 |_,_,_=>False
theorem lh{α σ:Type}{b:cC}{X1:σ→List bh}{Sb:List bh}{id:Nat}{step:σ→α→σ}{brk:σ→α→Prop}{s:σ}{x:α}{N:Nat}{D:List Deferred}{ρ:Env}{X S Xz:List bh}(s' :σ)(he:step s x=s')(is:List Nat)(hX:bT is X=some (X1 s',Xz))(js:List Nat)(hS:dS js S=some Sb):
  HQ (RQ b X1 Sb id step brk s x) N D .normal ρ b X S:=fun w m a ha=>by
 show Mem b (X1 (step s x)) Sb w
 rw[he]
 exact m.out is hX js hS
theorem qW{α σ:Type}{b:cC}{X1:σ→List bh}{Sb:List bh}{id:Nat}{step:σ→α→σ}{brk:σ→α→Prop}{s:σ}{x:α}{N:Nat}{D:List Deferred}{ρ:Env}{X S Xz:List bh}(is:List Nat)(hX:bT is X=some (X1 s,Xz))(js:List Nat)(hS:dS js S=some Sb)(hb:brk s x):
  HQ (RQ b X1 Sb id step brk s x) N D (.exit id) ρ b X S:=fun w m a ha=>⟨rfl,m.out is hX js hS,hb⟩
section
variable{P:Program}{Q:Exit→Act→World→Prop}{N:Nat}{D:List Deferred}{ρ ρ' :Env}{b:cC}{X X' Xr S S' Sb:List bh}
theorem Ad{α σ:Type}{g gf id:Nat}{ps:Array Tmp}{assign body:Code}{lb:List Value}(X1:σ→List bh)(s0:σ)(step:σ→α→σ)(brk:σ→α→Prop)(encs:α→List Value)(xs:List α)(ρx:α→Env)(ρk:Env)(hk:fv ρk ρ)
  (hv:get ρ g=some (.func (.func gf) #[] lb.toArray)) (heg:∀args w,(callFunc gf args).run P w= .ok (.enter gf args) w)
  (is:List Nat) (hX:bT is X=some (X1 s0,Xr)) (hft:∀s k,dB (X1 s) k↔dB (X1 s0) k) (js:List Nat) (hS:dS js S=some Sb)
  (ah:∀w,Mem b X S w→SeqStopsK Fence.wide 2 P gf lb.toArray (fun x=>(encs x).toArray) (FF w.heap.size (dB (X1 s0))) (fun ys=>ys=xs) (fun pre=>pre<+:xs) xs.length w)
  (hps:∀x,(encs x).length=ps.size) (hpn:∀p∈ps.toList,p<N) (hnd:∀x (a:Act),Ag N D ρ a→Ag N [] (ρ' ++CW ps (encs x)++ρ) {tmps:=(ps.zip (encs x).toArray).foldl (fun t (p,v)=>t.setIfInBounds p v) a.tmps,defers:=[]})
  (hasg:∀(l:Nat) (b' :cC) (s:σ) (x:α) (Q' :Exit→Act→World→Prop),HQ Q' N [] .normal (ρx x++ρk) b' (X1 s) Sb→u4 l 1 P Q' N [] assign (ρ' ++CW ps (encs x)++ρ) b' (X1 s) Sb)
  (hbody:∀(l:Nat) (b' :cC) (s:σ) (x:α),u4 l 1 P (RQ b' X1 Sb id step brk s x) N [] body (ρx x++ρk) b' (X1 s) Sb)
  (k:∀(Dk:Nat) (s:σ),(s=xs.foldl step s0∨∃pre x rest,xs=pre++x::rest∧s=pre.foldl step s0∧brk s x)→HQ Q N (⟨.collected Dk, #[]⟩::D) .normal ρ b (xB Dk::(X1 s++Xr)) S):
  HC P Q N D (.block id (.rangeFunc (.tmp g) ps assign body)) ρ b X S:=by
 intro w m a ha
 have m1:=m.perm (ar _ _ _ _ hX)
 have hSb:=cr _ _ _ hS
 obtain⟨M,hM⟩:∃M,M=dB (X1 s0):=⟨_,rfl⟩
 have hbz:b.w.heap.size≤w.heap.size:=m.fr.size
 have lowM:∀k,M k→k<w.heap.size:=by
  rw[hM]
  rintro k ⟨x,hx,hk⟩
  exact x.low (m1.hx x (List.mem_append_left _ hx)) hk
 have lowX:∀s x,x∈X1 s++Xr→∀k,x.dm k→k<w.heap.size:=by
  intro s x hx k hk
  rcases List.mem_append.1 hx with hx|hx
  ·exact lowM k (by rw[hM];exact(hft s k).1 ⟨x,hx,hk⟩)
  ·exact x.low (m1.hx x (List.mem_append_right _ hx)) hk
 have lowS:∀s∈S,∀k,s.dm k→k<w.heap.size:=fun s hs k hk=>s.low (m.hs s hs) hk
 refine wpIn_wide (n:=3).1 (wpIn_block ?_)
 have hown:∀{s:σ} {W W' :World} {row:Option Nat},Mem b (X1 s++Xr) S W→W.grownBy W' row→(∀r,row=some r→w.heap.size≤r∧∃o:Obj,W.heap[r]? =some o∧o.isCells=false)→Mem b (X1 s++Xr) S W' :=by
  intro s W W' row mW hg hr
  refine mW.grown (ud hg) (fun k e=>Nat.le_trans hbz (hr k e).1) (fun k e x hx hk=> ?_) (fun k e x hx hk=> ?_)
  ·have h1:=lowX s x hx k hk
   have h2:=(hr k e).1
   omega
  ·have h1:=lowS x hx k hk
   have h2:=(hr k e).1
   omega
 have hround:∀{s:σ} {W W' :World} {Y:List bh},Mem b (X1 s++Xr) S W→w.heap.size≤W.heap.size→Mem ⟨W,dB (X1 s),dB Sb⟩ Y Sb W' →KeepsFrom w.heap.size W W' ∧FF w.heap.size M W W' ∧Mem b (Y++Xr) S W' :=by
  intro s W W' Y mW hsz mY
  have e:∀k,dB (X1 s) k↔M k:=fun k=>by rw[hM];exact hft s k
  refine⟨⟨mY.fr.size,fun k o hk ho _=> ?_⟩,fun k hk hn=> ?_,(mW.frame hSb mY).mq (fun x hx=>List.mem_append_right _ hx)⟩
  ·have hlt:=(Array.getElem?_eq_some_iff.1 ho).1
   exact(mY.fr.block k hlt (fun q=>by have:=lowM k ((e k).1 q);omega)).trans ho
  ·exact mY.fr.block k (by show k<W.heap.size;omega) (fun q=>hn ((e k).1 q))
 refine wpIn_rangeFunc_ownH (n:=3) (α:=α) (gf:=gf) (lb:=lb.toArray) rfl (by decide) (ha.eval hv) trivial heg (ah w m)
  (fun{A B C} h1 h2 k hk hn=>(h2 k hk hn).trans (h1 k hk hn)) (fun W l o o' hl ho _ _ k hk hn=>World.putObj_heap_other (by omega)) (Below.refl _ w) (fun x=>by simpa using hps x)
  (fun pre W=>w.heap.size≤W.heap.size∧Mem b (X1 (pre.foldl step s0)++Xr) S W) (fun c pre W=>c= .exit id∧∃pre' x,pre=pre' ++[x]∧Mem b (X1 (pre'.foldl step s0)++Xr) S W∧brk (pre'.foldl step s0) x)
  (fun pre W W' row h hg hr=>⟨Nat.le_trans h.1 hg.size,hown h.2 hg hr⟩)
  (fun c pre W W' row h hg hr=>by
   obtain⟨hc,pre',x,e,h1,h2⟩:=h
   exact⟨hc,pre',x,e,hown h1 hg hr,h2⟩)
  ⟨Nat.le_refl _,m1⟩ (fun x a' _=>Ag N [] (ρx x++ρk) a') (fun x a' =>ownFrom_pure _ (fun _=>Ag N [] (ρx x++ρk) a')) ?_ ?_ ?_ ?_
 ·rintro l pre x W K ⟨hsz,mW⟩ hK
  refine hasg l ⟨W,dB (X1 (pre.foldl step s0)),dB Sb⟩ (pre.foldl step s0) x _ (fun W' m' a' ha' => ?_) (fun⟨_,_,h⟩=>h) W (mW.part hSb) _ (hnd x a ha)
  obtain⟨h1,h2,h3⟩:=hround mW hsz m'
  exact hK a' W' h1 (by rw[←hM];exact h2) ⟨Nat.le_trans hsz h1.size,h3⟩ ha'
 ·rintro l pre x a' W _ _ ⟨hsz,mW⟩ hax _
  refine wpIn_mono (hbody l ⟨W,dB (X1 (pre.foldl step s0)),dB Sb⟩ (pre.foldl step s0) x (fun⟨_,_,h⟩=>h) W (mW.part hSb) a' hax) ?_
  intro e a2 W2 q
  cases e with
  |normal=>
   have q' :Mem _ (X1 (step (pre.foldl step s0) x)) Sb W2:=q
   obtain⟨h1,h2,h3⟩:=hround mW hsz q'
   refine⟨h1,by rw[←hM];exact h2,Nat.le_trans hsz h1.size, ?_⟩
   rw[List.foldl_append]
   exact h3
  |exit i=>
   obtain⟨rfl,q1,q2⟩:=q
   obtain⟨h1,h2,h3⟩:=hround mW hsz q1
   exact⟨h1,rfl,pre,x,rfl,h3,q2⟩
  |ret=>exact q.elim
  |goto t=>exact q.elim
  |panic c=>exact q.elim
  |outgrown=>exact q.elim
 ·rintro Dk ys W hD rfl ⟨hsz,mW⟩ hdef
  exact k Dk _ (.inl rfl) W (mW.Af hbz hD (lowX _) lowS hdef) _ ⟨ha.sz,by rw[ha.df],ha.gt⟩
 ·rintro Dk c pre W hD hpre ⟨rfl,pre',x,rfl,mW,hb⟩ hdef
  obtain⟨rest,hr⟩:=hpre
  refine wpIn_exit ?_
  have hq:=k Dk _ (.inr ⟨pre',x,rest,by rw[←hr];simp,rfl,hb⟩) W (mW.Af hbz hD (lowX _) lowS hdef) {a with defers:=⟨.collected Dk, #[]⟩::a.defers} ⟨ha.sz,by show _::a.defers=_;rw[ha.df],ha.gt⟩
  show(Exit.inBlock id Q) (.exit id) _ W
  simp only[Exit.inBlock,if_pos]
  exact hq
end
theorem yr{N p q:Nat}{D:List Deferred}{ρ:Env}{a:Act}{u v:Value}(hpq:(p == q)=false)(hp:p<N)(hq:q<N)(ha:Ag N D ρ a):
  Ag N [] ([]++CW #[p,q] [u,v]++ρ) {tmps:=((#[p,q]:Array Tmp).zip [u,v].toArray).foldl (fun t (p,v)=>t.setIfInBounds p v) a.tmps,defers:=[]}:=by
 have hne:p≠q:=by simpa using hpq
 have e:(((#[p,q]:Array Tmp).zip [u,v].toArray).foldl (fun t (p,v)=>t.setIfInBounds p v) a.tmps)=(a.tmps.setIfInBounds p u).setIfInBounds q v:=by simp
 rw[e]
 have hsz:=ha.sz
 refine⟨by simpa using hsz,rfl,fun t z ht=> ?_⟩
 simp only[CW,List.nil_append,List.zip_cons_cons,List.zip_nil_right,List.cons_append,get]at ht
 show((a.tmps.setIfInBounds p u).setIfInBounds q v)[t]? =some z
 cases h1:Nat.beq p t with
 |true=>
  rw[h1]at ht
  have h1' :p=t:=Nat.eq_of_beq_eq_true h1
  simp only[cond_true,Option.some.injEq]at ht
  subst h1';subst ht
  rw[Array.getElem?_setIfInBounds_ne (Ne.symm hne),Array.getElem?_setIfInBounds_self_of_lt (by omega)]
 |false=>
  rw[h1]at ht
  simp only[cond_false]at ht
  have h1' :p≠t:=Nat.ne_of_beq_eq_false h1
  cases h2:Nat.beq q t with
  |true=>
   rw[h2]at ht
   have h2' :q=t:=Nat.eq_of_beq_eq_true h2
   simp only[cond_true,Option.some.injEq]at ht
   subst h2';subst ht
   rw[Array.getElem?_setIfInBounds_self_of_lt (by simp;omega)]
  |false=>
   rw[h2]at ht
   have h2' :q≠t:=Nat.ne_of_beq_eq_false h2
   rw[Array.getElem?_setIfInBounds_ne h2',Array.getElem?_setIfInBounds_ne h1']
   exact ha.gt t z (by simpa using ht)
theorem CR{P:Program}{f:Nat}{fn:Func}{c:Code}{vs:List Value}{R:Value→List bh→List bh→Prop}{N:Nat}{X0 S0:List bh}(hf:P.funcs[f]? =some fn)(hb:fn.body=some c)(hN:fn.ntmps=N)(hl:vs.length≤N)
  (h:∀b,HC P (bodyPostM Fence.wide 3 P fn (RB b R)) N [] c (gq vs 0) b X0 S0):cj P f vs X0 S0 R:=fun w m=>by
 refine callsIn_wide (n:=3).1 (callsIn_of_wp_marks hf hb trivial (wpIn_wide.2 (h _ w m _ ⟨?_,rfl,fun t v ht=> ?_⟩)))
 ·simp[hN];omega
 ·obtain⟨_,h2⟩:=gK vs 0 t v ht
  have hlt:=(List.getElem?_eq_some_iff.1 h2).1
  rw[Array.getElem?_append_left (by simpa using hlt)]
  simpa using h2
section
variable{P:Program}{fn:Func}{R:Value→List bh→List bh→Prop}{N n:Nat}{D:List Deferred}{ρ:Env}{b:cC}{X X' Xz S S' :List bh}{e:Exit}
theorem Gk{Dk:Nat}(he:Leaves e)(is:List Nat)(hX:bT is X=some ([xB Dk],X'))(k:HQ (bodyPostM Fence.wide n P fn (RB b R)) N D e ρ b X' S):HQ (bodyPostM Fence.wide n P fn (RB b R)) N (⟨.collected Dk, #[]⟩::D) e ρ b X S:=by
 intro w m a ha
 have m1:=m.perm (ar _ _ _ _ hX)
 have hc:w.heap[Dk]? =some (.deferred (some [])):=m1.hx (xB Dk) (by simp)
 have hx1:=(List.pairwise_cons.1 m1.xx).1
 have hr:=run_takeDeferred (P:=P) hc
 have hf:Fr (fun k=>k=Dk) w (w.putObj Dk (.deferred none)):=⟨rfl,rfl,rfl,by simp,fun k _ hk=>World.putObj_heap_other hk⟩
 have hbz:b.w.heap.size≤Dk∨b.M Dk:=(m1.nx (xB Dk) (by simp) Dk rfl).symm
 have m2:Mem b X' S (w.putObj Dk (.deferred none)):=by
  refine⟨m1.fr.trans hf (fun _ e=>e) (fun i hi e=> ?_),(List.pairwise_cons.1 m1.xx).2,fun x hx=>m1.xs x (List.mem_cons_of_mem _ hx),fun x hx=>x.keep hf (fun k hk e=> ?_) (m1.hx x (List.mem_cons_of_mem _ hx)),fun s hs=>s.keep hf (fun k hk e=> ?_) (m1.hs s hs),fun x hx=>m1.nx x (List.mem_cons_of_mem _ hx),m1.ns⟩
  ·subst e
   rcases hbz with h|h
   ·omega
   ·exact h
  ·exact hx1 x hx k e hk
  ·exact m1.xs (xB Dk) (by simp) s hs k e hk
 have hk:=k _ m2 {a with defers:=D} ⟨ha.sz,rfl,ha.gt⟩
 cases e with
 |normal=>
  show LeavesInM Fence.wide n P fn a.tmps _ a.defers .returning w
  rw[ha.df]
  exact⟨by simp,.inl ⟨Dk,_,rfl,hr,hk⟩⟩
 |ret=>
  show LeavesInM Fence.wide n P fn a.tmps _ a.defers .returning w
  rw[ha.df]
  exact⟨by simp,.inl ⟨Dk,_,rfl,hr,hk⟩⟩
 |_=>exact he.elim
theorem Gc{v:Value}(he:Leaves e)(h:∀a,Ag N [] ρ a→∀w,(results fn a.tmps).run P w= .ok v w)(is:List Nat)(hX:bT is X=some (X',Xz))(js:List Nat)(hS:dS js S=some S')(hR:R v X' S'):HQ (bodyPostM Fence.wide n P fn (RB b R)) N [] e ρ b X S:=by
 intro w m a ha
 have hm:=m.out is hX js hS
 cases e with
 |normal=>
  show LeavesInM Fence.wide n P fn a.tmps _ a.defers .returning w
  rw[ha.df]
  exact⟨v,h a ha w,_,_,_,rfl,hR,hm⟩
 |ret=>
  show LeavesInM Fence.wide n P fn a.tmps _ a.defers .returning w
  rw[ha.df]
  exact⟨v,h a ha w,_,_,_,rfl,hR,hm⟩
 |_=>exact he.elim
theorem vi{t t' :Nat}{v v' :Value}(he:Leaves e)(hr:fn.results= #[.tmp t,.tmp t'])(hv:get ρ t=some v)(hv' :get ρ t' =some v')(is:List Nat)(hX:bT is X=some (X',Xz))(js:List Nat)(hS:dS js S=some S')(hR:R (.tuple #[v,v']) X' S'):HQ (bodyPostM Fence.wide n P fn (RB b R)) N [] e ρ b X S:=
 Gc he (fun a ha w=>by have h1:=ha.getD hv;have h2:=ha.getD hv';simp at h1 h2;simp[results,hr,h1,h2]) is hX js hS hR
end
end Go.Eng
end
section
namespace Go.Proofs.YtmibdabdlgmafaaGreatDoor
open Go.Eng Go.RowKit Go.Shelf
attribute [local go_sem] Oper.semAt_some
set_option maxRecDepth 100000 in
set_option maxHeartbeats 4000000 in
theorem zo(F:Fence)(n:Nat)(h7:F.fn 297)(hro:F.round=none)(hn:1≤n)(l Bs B b off cap:Nat)(M:Nat→Prop)(zs:List Int){α:Type}(L:List α)(encs:α→List Value)(hL:L.length=zs.length)(henc:∀(k:Nat) (x:α),L[k]? =some x→encs x=[.int .i64 ((zs.length-1-k:Nat):Int),.int .i64 (zs[zs.length-1-k]?.getD 0)])(hreach:zs.length*8≤140737488351232)(hbs:Bs<B∧¬M Bs)(hb:b<B∧¬M b)(J Jx:List α→World→Prop)
  (hY:∀pre x W,J pre W→pre.length<L.length→YieldAt F (n-1) Tryz.prog l (encs x).toArray W fun e W' =>
   (e= .returned (.bool true)∧J (pre++[x]) W' ∧FF B M W W')∨(e= .returned (.bool false)∧Jx (pre++[x]) W'))
  (W:World) (hBs:W.cell? ⟨Bs,0,none⟩=some (.slice (some ⟨b,off,none⟩) zs.length cap)) (hc:∀j,j<zs.length→W.cell? ⟨b,off+j,none⟩=some (.int .i64 (zs[j]?.getD 0))) (h0:J [] W):
  CallsIn F n Tryz.prog 297 #[.func (.yield l) #[] #[],.pointer (some ⟨Bs,0,none⟩)] W fun e W' =>(∃v,e= .returned v)∧
   ((∃ys,ys=L∧J ys W')∨(∃pre,pre<+:L∧Jx pre W')):=by
 refine callsIn_of_wp Tryz.func297 rfl h7 ?_ hro
 simp only[Tryz.ntmps297,List.size_toArray,List.length_cons,List.length_nil,Nat.reduceAdd,Nat.reduceSub,Array.replicate_succ,Array.replicate_zero,List.push_toArray,List.append_toArray,List.nil_append,List.cons_append]
 gi_wp2
 gi_loopw [3] (fun i wr=>∃k:Nat,k≤zs.length∧i= .int .i64 ((zs.length:Int)-1-(k:Int))∧J (L.take k) wr∧FF B M W wr)
  (fun i _=>(intOf i+1).toNat)
 case atStart=>exact⟨0,Nat.zero_le _,by simp,h0,fun _ _ _=>rfl⟩
 case round=>
  obtain⟨k,hk,rfl,hJs,hnx⟩:=hrel
  have hBs' :wr.cell? ⟨Bs,0,none⟩=some (.slice (some ⟨b,off,none⟩) zs.length cap):=by rw[←hBs];simp only[World.cell?,hnx Bs hbs.1 hbs.2]
  have hcx:∀j,j<zs.length→wr.cell? ⟨b,off+j,none⟩=some (.int .i64 (zs[j]?.getD 0)):=fun j h=>by rw[←hc j h];simp only[World.cell?,hnx b hb.1 hb.2]
  by_cases hlt:k<zs.length
  ·obtain⟨j,hj⟩:∃j:Nat,j+1+k=zs.length:=⟨zs.length-1-k,by omega⟩
   have hjk:zs.length-1-k=j:=by omega
   have hji:(zs.length:Int)-1-(k:Int)=(j:Int):=by omega
   obtain⟨x,hx⟩:∃x,L[k]? =some x:=⟨_,List.getElem?_eq_getElem (by omega)⟩
   have htk:L.take (k+1)=L.take k++[x]:=by rw[List.take_add_one,hx];rfl
   obtain⟨fn,tmps,assign,body,hy,hR⟩:=hY _ x wr hJs (by rw[List.length_take];omega)
   rw[henc k x hx,hjk]at hy
   have hcx' :=hcx j (by omega)
   obtain⟨z,hz⟩:∃z,zs[j]?.getD 0=z:=⟨_,rfl⟩
   rw[hz]at hcx' hy
   clear hcx hz hc
   rw[hji]
   have hge:¬((j:Int)<0):=by omega
   have hjl:j<zs.length:=by omega
   gi_wp2
   refine hR.mono ?_
   rintro e W3 (⟨rfl,hJ3,hk3⟩|⟨rfl,hJx3⟩)
   ·gi_wp2
    go_roundw
    case rel=>exact⟨k+1,by omega,by congr 1 <;> omega,by rw[htk];exact hJ3,fun q h1 h2=>(hk3 q h1 h2).trans (hnx q h1 h2)⟩
    case measure=>simp[intOf] <;> omega
   ·gi_wp2
    refine bodyPost_ret (results_none rfl _ _ _) rfl ?_
    exact⟨⟨_,rfl⟩,.inr ⟨_,by rw[←htk];exact List.take_prefix _ _,hJx3⟩⟩
  ·obtain rfl:k=zs.length:=by omega
   have hge:¬((zs.length:Int)-1-(zs.length:Int)≥0):=by omega
   gi_wp2
   go_end0
   exact⟨⟨_,rfl⟩,.inl (by rw[←hL,List.take_length]at hJs;exact hJs)⟩
set_option maxRecDepth 100000 in
set_option maxHeartbeats 4000000 in
theorem um(F:Fence)(n:Nat)(h7:F.fn 297)(hro:F.round=none)(l Bs cap:Nat)(A:Option Addr)(J:World→Prop)
  (W:World) (hBs:W.cell? ⟨Bs,0,none⟩=some (.slice A 0 cap)) (h0:J W):
  CallsIn F n Tryz.prog 297 #[.func (.yield l) #[] #[],.pointer (some ⟨Bs,0,none⟩)] W fun e W' =>(∃v,e= .returned v)∧J W' :=by
 refine callsIn_of_wp Tryz.func297 rfl h7 ?_ hro
 simp only[Tryz.ntmps297,List.size_toArray,List.length_cons,List.length_nil,Nat.reduceAdd,Nat.reduceSub,Array.replicate_succ,Array.replicate_zero,List.push_toArray,List.append_toArray,List.nil_append,List.cons_append]
 gi_wp2
 gi_loopw [3] (fun i wr=>i= .int .i64 (-1)∧J wr) (fun _ _=>0)
 case atStart=>exact⟨by simp,h0⟩
 case round=>
  obtain⟨rfl,hJs⟩:=hrel
  gi_wp2
  go_end0
  exact⟨⟨_,rfl⟩,hJs⟩
theorem pS(F:Fence)(n:Nat)(h7:F.fn 297)(hro:F.round=none)(hn:1≤n){w:World}{Bs e:Nat}{v:Value}{zs:List Int}{M:Nat→Prop}{α:Type}(L:List α)(encs:α→List Value)(hL:L.length=zs.length)(henc:∀(k:Nat) (x:α),L[k]? =some x→encs x=[.int .i64 ((zs.length-1-k:Nat):Int),.int .i64 (zs[zs.length-1-k]?.getD 0)])(hreach:zs.length*8≤140737488351232)
  (hBs:w.cell? ⟨Bs,0,none⟩=some v) (hMB:¬M Bs) (h:Go.Eng.Own w 0 e 1 v zs.length (zs.map (Value.int .i64))) (hMA:∀k,je v k→¬M k):
  SeqStopsK F n Tryz.prog 297 #[.pointer (some ⟨Bs,0,none⟩)] (fun x=>(encs x).toArray) (FF w.heap.size M) (fun ys=>ys=L) (fun pre=>pre<+:L) L.length w:=by
 intro l J Jx W hW _ _ hY h0
 have hlt:=lZ hBs
 have hc' :W.cell? ⟨Bs,0,none⟩=some v:=(hW.cell (p:=⟨Bs,0,none⟩) hlt).trans hBs
 obtain⟨hl,⟨rfl,hz⟩|⟨g,o,cap,cur,rfl,_,hb,hcap,hml,hcl,hx⟩⟩:=h
 ·have hL0:L=[]:=List.eq_nil_of_length_eq_zero (by omega)
  subst hL0
  exact(um F n h7 hro l Bs 0 none (J []) W hc' h0).mono fun e W' ⟨he,hj⟩=>⟨he,.inl ⟨_,rfl,hj⟩⟩
 ·by_cases hz:zs.length=0
  ·have hL0:L=[]:=List.eq_nil_of_length_eq_zero (by omega)
   subst hL0
   rw[hz]at hc'
   exact(um F n h7 hro l Bs cap _ (J []) W hc' h0).mono fun e W' ⟨he,hj⟩=>⟨he,.inl ⟨_,rfl,hj⟩⟩
  ·have hcs:∀j,j<zs.length→W.cell? ⟨g,o+j,none⟩=some (.int .i64 (zs[j]?.getD 0)):=fun j hj=>by
    refine(hW.cell (p:=⟨g,o+j,none⟩) hb.lt).trans (hb.cell ?_)
    have h1:((cur.drop o).take (zs.length*1))[j]? =(zs.map (Value.int .i64))[j]? :=by rw[hx]
    rw[List.getElem?_take,if_pos (by omega),List.getElem?_drop,List.getElem?_map,List.getElem?_eq_getElem hj]at h1
    rw[h1,List.getElem?_eq_getElem hj]
    rfl
   have hsz:=hW.size
   have:=zo F n h7 hro hn l Bs w.heap.size g o cap M zs L encs hL henc hreach ⟨hlt,hMB⟩ ⟨hb.lt,hMA g rfl⟩ J Jx hY W hc' hcs h0
   refine this.mono ?_
   rintro e W' ⟨he,⟨ys,rfl,hj⟩|⟨pre,hp,hj⟩⟩
   ·exact⟨he,.inl ⟨_,rfl,hj⟩⟩
   ·exact⟨he,.inr ⟨_,hp,hj⟩⟩
end Go.Proofs.YtmibdabdlgmafaaGreatDoor
end
section
set_option maxRecDepth 20000
set_option maxHeartbeats 2000000
namespace Go.Proofs.YtmibdabdlgmafaaGreatDoor
open Go.Eng Go.Hx
def eQ(zs:List Nat)(i:Nat)(h:∀z∈zs,z<i):List {x:Nat×Nat//x.2<i}:=(zs.attach.zipIdx.map fun x=>(⟨(x.2,x.1.1),h _ x.1.2⟩:{x:Nat×Nat//x.2<i})).reverse
theorem iC(zs:List Nat)(i:Nat)(h:∀z∈zs,z<i):(eQ zs i h).length=zs.length:=by simp[eQ]
theorem ov(zs:List Nat)(i:Nat)(h:∀z∈zs,z<i):(eQ zs i h).map (fun x=>x.1.2)=zs.reverse:=by
 unfold eQ
 rw[List.map_reverse,List.map_map]
 congr 1
 apply List.ext_getElem
 ·simp
 ·intro j h1 h2
  simp
theorem uy(zs:List Nat)(i:Nat)(h:∀z∈zs,z<i)(k:Nat)(x:{x:Nat×Nat//x.2<i})(hx:(eQ zs i h)[k]? =some x):k<zs.length∧x.1.1=zs.length-1-k∧zs[zs.length-1-k]? =some x.1.2:=by
 have hk:k<zs.length:=by rw[←iC zs i h];exact(List.getElem?_eq_some_iff.1 hx).1
 unfold eQ at hx
 rw[List.getElem?_reverse (by simpa using hk)]at hx
 simp only[List.length_map,List.length_zipIdx,List.length_attach,List.getElem?_map,List.getElem?_zipIdx,Nat.zero_add]at hx
 have hlt:zs.length-1-k<zs.attach.length:=by simp;omega
 rw[List.getElem?_eq_getElem hlt]at hx
 simp only[Option.map_some,Option.some.injEq]at hx
 subst hx
 refine⟨hk,rfl, ?_⟩
 rw[List.getElem?_eq_getElem (by simpa using hlt)]
 simp
theorem lX(f:Nat×Nat→Nat→Nat×Nat)(s:Nat×Nat)(i:Nat)(L:List {x:Nat×Nat//x.2<i}):L.foldl (fun s x=>f s x.1.2) s=(L.map (fun x=>x.1.2)).foldl f s:=by rw[List.foldl_map]
theorem qt{l:List UInt8}{i:Nat}{zs:List Nat}(hz:zs=kC l i (ez l i))(hi:i+4≤l.length)(h:∀z∈zs,z<i){s:Nat×Nat}
  (hs:s=(eQ zs i h).foldl (fun s x=>fR l i s x.1.2) (0,0)∨∃pre x rest,eQ zs i h=pre++x::rest∧s=pre.foldl (fun s x=>fR l i s x.1.2) (0,0)∧1024<i-x.1.2):s=aW l i:=by
 subst hz
 rcases hs with rfl|⟨pre,x,rest,e,rfl,hb⟩
 ·rw[lX,ov,tA hi]
 ·have e2:=congrArg (List.map fun x=>x.1.2) e
  rw[ov,List.map_append,List.map_cons]at e2
  rw[lX,←tA hi]
  exact(xA e2 hb).symm
def lS(l:List Nat):List Int:=l.map fun n:Nat=>(n:Int)
theorem eS(l:List Nat):(lS l).length=l.length:=List.length_map ..
theorem zp{w:World}{e:TypeId}{v:Value}{l:List Nat}(h:Go.Eng.Own w 0 e 1 v l.length (BU l)):Go.Eng.Own w 0 e 1 v (lS l).length ((lS l).map (Value.int .i64)):=by
 rw[eS]
 unfold lS
 rw[List.map_map]
 exact h
theorem E2{es:vr}{j:Nat}{x:kP}(h:(fT es)[j]? =some x.res):(x.res::(fT es).eraseIdx j).Perm (fT es):=by
 obtain⟨h1,h2⟩:=List.getElem?_eq_some_iff.1 h
 have:=gr (fT es) j h1
 rwa [h2]at this
theorem Dl{A:Option Addr}{n c:Nat}:cj Tryz.prog 271 [.slice A n c] [] [] (fun v_ X_ S_=>∃gB,v_=(.func (.func 297) #[] #[.pointer (some ⟨gB,0,none⟩)])∧X_=[aL gB 44 [.slice A n c]]∧S_=[]):=by
 refine aQ (N:=4) Tryz.func271 rfl rfl (by simp) fun b=> ?_
 refine ah<|aj<| ?_
 refine hx (cI rfl (fun g1=> ?_))
 refine hy (fun _=>ab rfl)<|ai<|ak (X' :=[_]) (S' :=[]) (fun _ m=>m)<|ag<|ah<|aj<|hy (fun _=>iy rfl rfl)<|hy (fun _=>ab rfl)<|ai<|al (ρ' :=[(2,_),(1,_),(0,_)]) ⟨rfl,rfl,rfl,trivial⟩<|ag<|aX<| ?_
 refine ak (fun w m=>m.bQ 0 rfl (show _=aL g1 44 [.slice A n c]from rfl)) ?_
 exact bf trivial rfl rfl [0] rfl [] rfl ⟨_,rfl,rfl,rfl⟩
theorem Fo{A:Option Addr}{n c:Nat}:cj Tryz.prog 229 [.slice A n c] [] [] (fun v_ X_ S_=>∃g gm,v_=(.pointer (some ⟨g,0,none⟩))∧X_=[n0 g gm A n c 0 []]∧S_=[]):=by
 refine aQ (N:=7) Tryz.func229 rfl rfl (by simp) fun b=> ?_
 refine ah<|aj<|hy (fun _=>ab rfl)<|ai<|ag<|ah<|aj<|hy (fun _=>aa rfl)<| ?_
 refine hx (nw (KN (n:=4)) (fun g4=> ?_))
 refine hy (fun _=>cy Ge rfl rfl (by kernel_rfl) (.cons (o:=0) (sz:=1) (by kernel_rfl) rfl rfl (Nat.le_of_ble_eq_true rfl) (.cons (o:=1) (sz:=1) (by kernel_rfl) rfl rfl (Nat.le_of_ble_eq_true rfl) .nil)))<| ?_
 refine hx (cI rfl (fun g6=> ?_))
 refine hy (fun _=>ab rfl)<|ai<|al (ρ' :=[(2,_),(0,_)]) ⟨rfl,rfl,trivial⟩<|ak (X' :=[_,_]) (S' :=[]) (fun _ m=>m)<|ag<|aX<| ?_
 refine ak (fun w m=>m.Ch) ?_
 refine ak (fun w m=>m.bQ 1 rfl (show _=aL g6 359 [.slice A n c,.map (some g4),.int .i64 ((0:Nat):Int)]from rfl)) ?_
 refine ak (X' :=n0 g6 g4 A n c 0 []::_) (fun w m=>(m.perm (ar [0,1,0] _ [_,_,_] _ rfl)).pack) ?_
 exact bf trivial rfl rfl [0] rfl [] rfl ⟨_,_,rfl,rfl,rfl⟩
theorem Ab(zs:List Nat)(i:Nat)(h:∀z∈zs,z<i)(k:Nat)(x:{x:Nat×Nat//x.2<i})(hx:(eQ zs i h)[k]? =some x):[Value.int .i64 (x.1.1:Nat),.int .i64 (x.1.2:Nat)]=[.int .i64 (((lS zs).length-1-k:Nat):Int),.int .i64 ((lS zs)[(lS zs).length-1-k]?.getD 0)]:=by
 obtain⟨h1,h2,h3⟩:=uy zs i h k x hx
 rw[eS]
 unfold lS
 rw[List.getElem?_map,h3,h2]
 rfl
theorem DL{g gm:Nat}{A:Option Addr}{n c p i:Nat}{l:List UInt8}{es:vr}(hc:n≤c)(hn:n≤1000000000)(hl:l.length=n)(hpi:p≤i)(hi:i≤n)(hF:yp l p es):cj Tryz.prog 231 [.pointer (some ⟨g,0,none⟩),.int .i64 (i:Nat)] [n0 g gm A n c p es] [cV 1 A n (aR l)] (fun v_ X_ S_=>∃p1 es1,v_=(.tuple #[.int .i64 ((aW l i).1:Nat),.int .i64 ((aW l i).2:Nat)])∧X_=[n0 g gm A n c p1 es1]∧S_=[]∧(p1≤i∧yp l p1 es1)):=by
 refine CR (N:=60) Tryz.func231 rfl rfl (by simp) fun b=> ?_
 refine aY (fun m=>ig (m.rd 0 rfl)) ?_
 rintro⟨hl_r,hA_r⟩
 refine bw (fun w m=>(m.perm (ar [0] _ [_] _ rfl)).unpack) ?_
 refine ah<|aj<| ?_
 refine hx (cI rfl (fun g2=> ?_))
 refine hx (cI rfl (fun g3=> ?_))
 refine hy (fun _=>ab rfl)<|hy (fun _=>ab rfl)<|ai<|ak (X' :=[_,_,_,_,_]) (S' :=[_]) (fun _ m=>m)<|ag<|ah<|ah<|cG [] [(0,some 0),(1,some 0),(2,some 0),(3,some 0),(4,some 0),(5,some 0),(6,some 0),(7,some 0)] (by kernel_rfl) (by kernel_rfl) rfl 99<|ca (fun m=>aw rfl fS (aA (m.aZ 0 rfl) rfl))<|an (aN rfl rfl (bC (by omega) (by omega)))<|ca (fun m=>aw rfl oA (aA (m.aZ 1 rfl) rfl))<|an (a7 rfl)<|an (aH rfl kd (by decide))<|ca (fun m=>aw rfl ea (aA (m.aZ 2 rfl) rfl))<|an (aU rfl Tryz.underlying27)<|an (cY rfl rfl)<|br<|al (ρ' :=[(18,_),(5,_),(4,_),(3,_),(2,_),(0,_),(1,_)]) ⟨rfl,rfl,rfl,rfl,rfl,rfl,rfl,trivial⟩<|ag<| ?_
 refine cD rfl (fun h1=> ?_) (fun h1=> ?_)
 ·have e:=uC (b:=l) (i:=i) (by omega) (by omega)
  rw[e]
  refine ah<|aj<|hy (fun _=>ab rfl)<|hy (fun _=>ab rfl)<|ai<|ag<|aX<|ax<| ?_
  refine ak (X' :=n0 g gm A n c p es::_) (fun w m=>(m.perm (ar [2,2,2] _ [_,_,_] _ rfl)).pack) ?_
  exact vi trivial rfl rfl rfl [0] rfl [] rfl ⟨p,es,rfl,rfl,rfl,⟨hpi,hF⟩⟩
 ·have hi4:i+4≤n:=by omega
  refine aC<|ag<|ah<| ?_
  refine bw (X' :=n0 g gm A n c p es::_) (fun w m=>(m.perm (ar [2,2,2] _ [_,_,_] _ rfl)).pack) ?_
  refine aj<|hy (fun m=>aw rfl oA (aA (m.aZ 2 rfl) rfl))<|hy (fun m=>aw rfl fS (aA (m.aZ 1 rfl) rfl))<| ?_
  refine hx (aq rfl Tryz.call270 (Gj (by omega) (by omega) hl (by omega) (by omega) hF) [0] rfl [0] rfl ?_)
  rintro _ _ _ ⟨es1,rfl,rfl,rfl,hp⟩
  have hF1:=hp
  refine ai<|al (ρ' :=[(18,_),(5,_),(4,_),(3,_),(2,_),(0,_),(1,_)]) ⟨rfl,rfl,rfl,rfl,rfl,rfl,rfl,trivial⟩<|ak (X' :=[_,_,_]) (S' :=[_]) (fun _ m=>m)<|ag<|ah<|aj<| ?_
  refine hx (aP DI (fun g6=> ?_))
  refine hx (aP DI (fun g7=> ?_))
  refine cJ (dH 1 rfl rfl rfl sS rfl (by first|exact Nat.le_of_ble_eq_true rfl|simp) ?_)
  refine cJ (dH 1 rfl rfl rfl sS rfl (by first|exact Nat.le_of_ble_eq_true rfl|simp) ?_)
  refine ai<|ak (X' :=[_,_,_,_,_]) (S' :=[_]) (fun _ m=>m)<|ag<|ah<|ah<| ?_
  refine bw (fun w m=>(m.perm (ar [2] _ [_] _ rfl)).unpack) ?_
  refine aY (fun m=>(m.rd 0 rfl).some (by omega)) fun h_=> ?_
  obtain⟨a,rfl⟩:∃a_,A=some a_:=⟨_,h_⟩
  clear h_
  rcases hq:b8 es1 ⟨ez l i,bG (by omega)⟩with _|x
  ·have e0:=q8 hF1 hq
   refine cG [15] [(0,some 1),(1,some 0),(2,some 0),(3,some 0),(4,some 1),(5,some 1),(6,some 1),(7,some 1),(8,some 1),(9,some 1),(10,some 1),(11,some 0),(12,some 0),(13,some 0),(14,some 0),(15,none)] (by kernel_rfl) (by kernel_rfl) rfl 99<|ca (fun m=>aw rfl oA (aA (m.aZ 6 rfl) rfl))<|an (a7 rfl)<|an (aH rfl sK (by decide))<|ca (fun m=>aw rfl yN (aA (m.aZ 0 rfl) rfl))<|ca (fun m=>aw rfl oA (aA (m.aZ 6 rfl) rfl))<|an (a7 rfl)<|an (aH rfl kd (by decide))<|ca (fun m=>aw rfl ea (aA (m.aZ 0 rfl) rfl))<|ca (fun m=>aw rfl fS (aA (m.aZ 5 rfl) rfl))<|ca (fun m=>aw rfl fS (aA (m.aZ 5 rfl) rfl))<|an (aN rfl rfl (bC (by omega) (by omega)))<|an (yV (eG rfl rfl rfl Tryz.underlying27 ek rfl (show((i+4:Nat):Int)=_ by omega) (by omega) (by omega)) ((show Value.slice (if c=i then some a else(some a).map (·.add (i*1))) (i+4-i) (c-i)= .slice (some (a.add i)) 4 (c-i) by rw[if_neg (by omega),Nat.mul_one,Nat.add_sub_cancel_left];rfl)))<|an (oR rfl Tryz.underlying364 (by omega))<|ca (fun m=>yV (a6 rfl v7 tY (by rw[ay];exact bG (by omega)) (Rd.part (m.rd 0 rfl))) ((show Value.agg (aR ((l.drop i).take 4)).toArray=KN ⟨ez l i,bG (by omega)⟩from rfl)))<|ca (fun m=>yV (jS (enc:=(KN (n:=4))) (k:=⟨ez l i,bG (by omega)⟩) rfl rfl Tryz.underlying357 Ep (zN Tryz.underlying364 Tryz.underlying5 (by kernel_rfl) (by kernel_rfl) (by kernel_rfl)) (m.p4 1 rfl)) ((show hC false (.slice none 0 0) (b8 (jz es1) ⟨ez l i,bG (by omega)⟩)= .slice none 0 0 by rw[k9,hq];rfl)))<| ?_
   refine dV (aq rfl Tryz.call271 (Dl) [] rfl [] rfl ?_)
   rintro _ _ _ ⟨gB,rfl,rfl,rfl⟩
   refine⟨(fun _=>wk [1,1,1,1,1,1,1] [0] rfl rfl), ?_⟩
   refine br<|al (ρ' :=[(37,_),(7,_),(6,_),(18,_),(5,_),(4,_),(3,_),(2,_),(0,_),(1,_)]) ⟨rfl,rfl,rfl,rfl,rfl,rfl,rfl,rfl,rfl,rfl,trivial⟩<|ak (X' :=[_,_,_,_,_,_,_,_]) (S' :=[_]) (fun _ m=>m)<|ag<| ?_
   have hlt:∀z∈([]:List Nat),z<i:=fun z hz=>by cases hz
   refine Ad (σ:=Nat×Nat) (α:={x:Nat×Nat//x.2<i}) (ρ' :=[]) (fun s_:Nat×Nat=>[aL g6 3 [.int .i64 (s_.1:Nat)],aL g7 3 [.int .i64 (s_.2:Nat)],aL g3 3 [.int .i64 (i:Nat)],aL g2 322 [.pointer (some ⟨g,0,none⟩)],aL g 359 [.slice (some a) n c,.map (some gm),.int .i64 (i:Nat)]]) (0,0) (fun s_ x_=>fR l i s_ x_.1.2) (fun s_ x_=>1024<i-x_.1.2) (fun x_=>[.int .i64 (x_.1.1:Nat),.int .i64 (x_.1.2:Nat)]) (eQ (([]:List Nat)) i hlt) (fun x_=>[(9,.int .i64 (x_.1.2:Nat))]) [(37,_),(7,_),(6,_),(18,_),(5,_),(4,_),(3,_),(2,_),(0,_),(1,_)] ⟨rfl,rfl,rfl,rfl,rfl,rfl,rfl,rfl,rfl,rfl,trivial⟩ rfl Tryz.call297 [5,4,4,4,1] rfl (fun s_ k_=>by simp[dB,aL]) [0] rfl (fun w m=>pS Fence.wide 2 trivial rfl (by decide) (zs:=lS (([]:List Nat))) (e:=3) (eQ (([]:List Nat)) i hlt) (fun x_=>[.int .i64 (x_.1.1:Nat),.int .i64 (x_.1.2:Nat)]) (by rw[iC,eS]) (Ab _ _ _) (by rw[eS];first|omega|simp) (aA (m.aZ 0 rfl) rfl) (m.off (is:=[5,4,4,4,1]) rfl 0 rfl rfl) (Go.Eng.Own.nil _ _ _ _) (fun k hk=>hk.elim)) (fun _=>rfl) (by decide) (fun _ _ ha_=>yr rfl (by decide) (by decide) ha_) (fun l_ b_ s_ x_ Q_ h_=> ?_) (fun l_ b s_ x_=> ?_) (fun Dk_ s_ hs_=> ?_)
   ·exact rK (hy (fun _=>ab rfl) ((ai (by refine al ?_ h_;exact⟨rfl,rfl,rfl,rfl,rfl,rfl,rfl,rfl,rfl,rfl,rfl,trivial⟩))))
   ·obtain⟨u1,u2⟩:=s_
    obtain⟨⟨j,q⟩,hq2⟩:=x_
    try dsimp only
    have hq2:q<i:=hq2
    refine wq<|ob<|ob<|rK<|hy (fun m=>aw rfl fS (aA (m.aZ 2 rfl) rfl))<|hy (fun _=>aa rfl)<|hy (fun _=>cw rfl rfl (bC (by omega) (by omega)))<|hy (fun _=>cY rfl rfl)<|ai<|al (ρ' :=[(43,_),(9,_),(37,_),(7,_),(6,_),(18,_),(5,_),(4,_),(3,_),(2,_),(0,_),(1,_)]) ⟨rfl,rfl,rfl,rfl,rfl,rfl,rfl,rfl,rfl,rfl,rfl,rfl,trivial⟩<|kQ<| ?_
    refine BC rfl (fun hb=> ?_) (fun hb=> ?_)
    ·refine yS<|ao<|lR (by decide)<| ?_
     exact qW [0,0,0,0,0] rfl [0] rfl ((show 1024<i-q by omega))
    ·refine oV<|kQ<|ob<|Du [6] [(0,some 0),(1,some 0),(2,some 0),(3,some 0),(4,some 0),(5,some 0),(6,none),(7,some 1)] (by kernel_rfl) (by kernel_rfl) rfl 99<|ca (fun m=>aw rfl oA (aA (m.aZ 3 rfl) rfl))<|an (a7 rfl)<|an (aH rfl kd (by decide))<|ca (fun m=>aw rfl ea (aA (m.aZ 4 rfl) rfl))<|ca (fun m=>aw rfl fS (aA (m.aZ 2 rfl) rfl))<|an (aa rfl)<| ?_
     refine dV (aq rfl Tryz.call272 (Dp (by omega) hl (by omega) (by omega)) [] rfl [0] rfl ?_)
     rintro _ _ _ ⟨rfl,rfl,rfl⟩
     refine⟨(fun _=>wk [0,0,0,0,0] [0] rfl rfl), ?_⟩
     refine an (ab rfl)<|br<|al (ρ' :=[(10,_),(43,_),(9,_),(37,_),(7,_),(6,_),(18,_),(5,_),(4,_),(3,_),(2,_),(0,_),(1,_)]) ⟨rfl,rfl,rfl,rfl,rfl,rfl,rfl,rfl,rfl,rfl,rfl,rfl,rfl,trivial⟩<|ak (X' :=[_,_,_,_,_]) (S' :=[_]) (fun _ m=>m)<|kQ<|ob<|rK<|hy (fun _=>aa rfl)<|hy (fun m=>aw rfl fS (aA (m.aZ 0 rfl) rfl))<|hy (fun _=>cY rfl rfl)<|ai<|al (ρ' :=[(53,_),(10,_),(43,_),(9,_),(37,_),(7,_),(6,_),(18,_),(5,_),(4,_),(3,_),(2,_),(0,_),(1,_)]) ⟨rfl,rfl,rfl,rfl,rfl,rfl,rfl,rfl,rfl,rfl,rfl,rfl,rfl,rfl,trivial⟩<|kQ<| ?_
     refine BC rfl (fun hx1=> ?_) (fun hx1=> ?_)
     ·refine AW [2,2,2] [0] rfl rfl [4,5] [(0,some 0),(1,some 1),(2,some 1),(3,some 1),(4,none),(5,none)] (by kernel_rfl) (by kernel_rfl) rfl 99<|an (aa rfl)<|ca (fun m=>aw rfl fS (aA (m.aZ 0 rfl) rfl))<|an (aa rfl)<|an (yV (cw rfl rfl (bC (by omega) (by omega))) ((show Value.int .i64 ((i:Int)-(q:Int))= .int .i64 ((i-q:Nat):Int) by congr 1;omega)))<| ?_
      refine kr (dH 0 rfl rfl rfl sS rfl (by first|exact Nat.le_of_ble_eq_true rfl|simp) ⟨(fun _=>wk [2,2,2] [0] rfl rfl), ?_⟩)
      refine kr (dH 1 rfl rfl rfl sS rfl (by first|exact Nat.le_of_ble_eq_true rfl|simp) ⟨(fun _=>wk [2,2,2] [0] rfl rfl), ?_⟩)
      refine br<|al (ρ' :=[(53,_),(10,_),(43,_),(9,_),(37,_),(7,_),(6,_),(18,_),(5,_),(4,_),(3,_),(2,_),(0,_),(1,_)]) ⟨rfl,rfl,rfl,rfl,rfl,rfl,rfl,rfl,rfl,rfl,rfl,rfl,rfl,rfl,trivial⟩<|ak (X' :=[_,_,_,_,_]) (S' :=[_]) (fun _ m=>m)<|aM<| ?_
      exact lh (mi l i q,i-q) (by show fR l i (u1,u2) q=_;unfold fR;rw[if_neg (by omega),if_pos (by show u1<_;omega)]) [1,0,0,0,0] rfl [0] rfl
     ·refine oV<|aM<| ?_
      exact lh (u1,u2) (by show fR l i (u1,u2) q=_;unfold fR;rw[if_neg (by omega),if_neg (by show¬u1<_;omega)]) [0,0,0,0,0] rfl [0] rfl
   ·obtain⟨u1,u2⟩:=s_
    have ai:=qt e0.symm (by omega) hlt hs_
    have hu1:u1=(aW l i).1:=congrArg Prod.fst ai
    have hu2:u2=(aW l i).2:=congrArg Prod.snd ai
    refine ag<|ah<|cG [] [(0,some 0),(1,some 0),(2,some 0),(3,some 0)] (by kernel_rfl) (by kernel_rfl) rfl 99<|ca (fun m=>aw rfl fS (aA (m.aZ 1 rfl) rfl))<|ca (fun m=>aw rfl fS (aA (m.aZ 2 rfl) rfl))<|an (ab rfl)<|an (ab rfl)<|br<|al (ρ' :=[(5,_),(4,_),(37,_),(7,_),(6,_),(18,_),(3,_),(2,_),(0,_),(1,_)]) ⟨rfl,rfl,rfl,rfl,rfl,rfl,rfl,rfl,rfl,rfl,trivial⟩<|ag<|aX<| ?_
    refine Gk trivial [0] rfl ?_
    skip
    refine ak (X' :=n0 g gm (some a) n c i es1::_) (fun w m=>(m.perm (ar [4,5,5] _ [_,_,_] _ rfl)).pack) ?_
    exact vi trivial rfl rfl rfl [0] rfl [] rfl ⟨i,es1,(by rw[←hu1,←hu2]),rfl,rfl,⟨Nat.le_refl _,hF1⟩⟩
  ·have e0:=tH hF1 hq
   refine cG [15] [(0,some 1),(1,some 0),(2,some 0),(3,some 0),(4,some 1),(5,some 1),(6,some 1),(7,some 1),(8,some 1),(9,some 1),(10,some 1),(11,some 0),(12,some 0),(13,some 0),(14,some 0),(15,none)] (by kernel_rfl) (by kernel_rfl) rfl 99<|ca (fun m=>aw rfl oA (aA (m.aZ 6 rfl) rfl))<|an (a7 rfl)<|an (aH rfl sK (by decide))<|ca (fun m=>aw rfl yN (aA (m.aZ 0 rfl) rfl))<|ca (fun m=>aw rfl oA (aA (m.aZ 6 rfl) rfl))<|an (a7 rfl)<|an (aH rfl kd (by decide))<|ca (fun m=>aw rfl ea (aA (m.aZ 0 rfl) rfl))<|ca (fun m=>aw rfl fS (aA (m.aZ 5 rfl) rfl))<|ca (fun m=>aw rfl fS (aA (m.aZ 5 rfl) rfl))<|an (aN rfl rfl (bC (by omega) (by omega)))<|an (yV (eG rfl rfl rfl Tryz.underlying27 ek rfl (show((i+4:Nat):Int)=_ by omega) (by omega) (by omega)) ((show Value.slice (if c=i then some a else(some a).map (·.add (i*1))) (i+4-i) (c-i)= .slice (some (a.add i)) 4 (c-i) by rw[if_neg (by omega),Nat.mul_one,Nat.add_sub_cancel_left];rfl)))<|an (oR rfl Tryz.underlying364 (by omega))<|ca (fun m=>yV (a6 rfl v7 tY (by rw[ay];exact bG (by omega)) (Rd.part (m.rd 0 rfl))) ((show Value.agg (aR ((l.drop i).take 4)).toArray=KN ⟨ez l i,bG (by omega)⟩from rfl)))<|ca (fun m=>yV (jS (enc:=(KN (n:=4))) (k:=⟨ez l i,bG (by omega)⟩) rfl rfl Tryz.underlying357 Ep (zN Tryz.underlying364 Tryz.underlying5 (by kernel_rfl) (by kernel_rfl) (by kernel_rfl)) (m.p4 1 rfl)) ((show hC false (.slice none 0 0) (b8 (jz es1) ⟨ez l i,bG (by omega)⟩)= .slice x.A x.l.length x.c by rw[k9,hq];rfl)))<| ?_
   refine dV (aq rfl Tryz.call271 (Dl) [] rfl [] rfl ?_)
   rintro _ _ _ ⟨gB,rfl,rfl,rfl⟩
   refine⟨(fun _=>wk [1,1,1,1,1,1,1] [0] rfl rfl), ?_⟩
   refine br<|al (ρ' :=[(37,_),(7,_),(6,_),(18,_),(5,_),(4,_),(3,_),(2,_),(0,_),(1,_)]) ⟨rfl,rfl,rfl,rfl,rfl,rfl,rfl,rfl,rfl,rfl,trivial⟩<|ak (X' :=[_,_,_,_,_,_,_,_]) (S' :=[_]) (fun _ m=>m)<|ag<| ?_
   have hlt:∀z∈x.l,z<i:=fun z hz=>(Bi (e0▸hz)).1
   have hxl:x.l.length≤n:=by rw[e0];exact Nat.le_trans (oe _ _ _) (by omega)
   obtain⟨j,hj1,_⟩:=kR hq
   refine bw (X' :=aG 3 1 (.slice x.A x.l.length x.c) x.l.length (BU x.l)::_) (fun w m=>(m.perm (ar [3] _ [_] _ rfl)).tR j hj1) ?_
   refine Ad (σ:=Nat×Nat) (α:={x:Nat×Nat//x.2<i}) (ρ' :=[]) (fun s_:Nat×Nat=>[aL g6 3 [.int .i64 (s_.1:Nat)],aL g7 3 [.int .i64 (s_.2:Nat)],aL g3 3 [.int .i64 (i:Nat)],aL g2 322 [.pointer (some ⟨g,0,none⟩)],aL g 359 [.slice (some a) n c,.map (some gm),.int .i64 (i:Nat)]]) (0,0) (fun s_ x_=>fR l i s_ x_.1.2) (fun s_ x_=>1024<i-x_.1.2) (fun x_=>[.int .i64 (x_.1.1:Nat),.int .i64 (x_.1.2:Nat)]) (eQ (x.l) i hlt) (fun x_=>[(9,.int .i64 (x_.1.2:Nat))]) [(37,_),(7,_),(6,_),(18,_),(5,_),(4,_),(3,_),(2,_),(0,_),(1,_)] ⟨rfl,rfl,rfl,rfl,rfl,rfl,rfl,rfl,rfl,rfl,trivial⟩ rfl Tryz.call297 [6,5,5,5,3] rfl (fun s_ k_=>by simp[dB,aL]) [0] rfl (fun w m=>pS Fence.wide 2 trivial rfl (by decide) (zs:=lS (x.l)) (e:=3) (eQ (x.l) i hlt) (fun x_=>[.int .i64 (x_.1.1:Nat),.int .i64 (x_.1.2:Nat)]) (by rw[iC,eS]) (Ab _ _ _) (by rw[eS];first|omega|simp) (aA (m.aZ 2 rfl) rfl) (m.off (is:=[6,5,5,5,3]) rfl 2 rfl rfl) (zp (m.own 0 rfl)) (fun k hk=>m.off (is:=[6,5,5,5,3]) rfl 0 rfl hk)) (fun _=>rfl) (by decide) (fun _ _ ha_=>yr rfl (by decide) (by decide) ha_) (fun l_ b_ s_ x_ Q_ h_=> ?_) (fun l_ b s_ x_=> ?_) (fun Dk_ s_ hs_=> ?_)
   ·exact rK (hy (fun _=>ab rfl) ((ai (by refine al ?_ h_;exact⟨rfl,rfl,rfl,rfl,rfl,rfl,rfl,rfl,rfl,rfl,rfl,trivial⟩))))
   ·obtain⟨u1,u2⟩:=s_
    obtain⟨⟨j,q⟩,hq2⟩:=x_
    try dsimp only
    have hq2:q<i:=hq2
    refine wq<|ob<|ob<|rK<|hy (fun m=>aw rfl fS (aA (m.aZ 2 rfl) rfl))<|hy (fun _=>aa rfl)<|hy (fun _=>cw rfl rfl (bC (by omega) (by omega)))<|hy (fun _=>cY rfl rfl)<|ai<|al (ρ' :=[(43,_),(9,_),(37,_),(7,_),(6,_),(18,_),(5,_),(4,_),(3,_),(2,_),(0,_),(1,_)]) ⟨rfl,rfl,rfl,rfl,rfl,rfl,rfl,rfl,rfl,rfl,rfl,rfl,trivial⟩<|kQ<| ?_
    refine BC rfl (fun hb=> ?_) (fun hb=> ?_)
    ·refine yS<|ao<|lR (by decide)<| ?_
     exact qW [0,0,0,0,0] rfl [0] rfl ((show 1024<i-q by omega))
    ·refine oV<|kQ<|ob<|Du [6] [(0,some 0),(1,some 0),(2,some 0),(3,some 0),(4,some 0),(5,some 0),(6,none),(7,some 1)] (by kernel_rfl) (by kernel_rfl) rfl 99<|ca (fun m=>aw rfl oA (aA (m.aZ 3 rfl) rfl))<|an (a7 rfl)<|an (aH rfl kd (by decide))<|ca (fun m=>aw rfl ea (aA (m.aZ 4 rfl) rfl))<|ca (fun m=>aw rfl fS (aA (m.aZ 2 rfl) rfl))<|an (aa rfl)<| ?_
     refine dV (aq rfl Tryz.call272 (Dp (by omega) hl (by omega) (by omega)) [] rfl [0] rfl ?_)
     rintro _ _ _ ⟨rfl,rfl,rfl⟩
     refine⟨(fun _=>wk [0,0,0,0,0] [0] rfl rfl), ?_⟩
     refine an (ab rfl)<|br<|al (ρ' :=[(10,_),(43,_),(9,_),(37,_),(7,_),(6,_),(18,_),(5,_),(4,_),(3,_),(2,_),(0,_),(1,_)]) ⟨rfl,rfl,rfl,rfl,rfl,rfl,rfl,rfl,rfl,rfl,rfl,rfl,rfl,trivial⟩<|ak (X' :=[_,_,_,_,_]) (S' :=[_]) (fun _ m=>m)<|kQ<|ob<|rK<|hy (fun _=>aa rfl)<|hy (fun m=>aw rfl fS (aA (m.aZ 0 rfl) rfl))<|hy (fun _=>cY rfl rfl)<|ai<|al (ρ' :=[(53,_),(10,_),(43,_),(9,_),(37,_),(7,_),(6,_),(18,_),(5,_),(4,_),(3,_),(2,_),(0,_),(1,_)]) ⟨rfl,rfl,rfl,rfl,rfl,rfl,rfl,rfl,rfl,rfl,rfl,rfl,rfl,rfl,trivial⟩<|kQ<| ?_
     refine BC rfl (fun hx1=> ?_) (fun hx1=> ?_)
     ·refine AW [2,2,2] [0] rfl rfl [4,5] [(0,some 0),(1,some 1),(2,some 1),(3,some 1),(4,none),(5,none)] (by kernel_rfl) (by kernel_rfl) rfl 99<|an (aa rfl)<|ca (fun m=>aw rfl fS (aA (m.aZ 0 rfl) rfl))<|an (aa rfl)<|an (yV (cw rfl rfl (bC (by omega) (by omega))) ((show Value.int .i64 ((i:Int)-(q:Int))= .int .i64 ((i-q:Nat):Int) by congr 1;omega)))<| ?_
      refine kr (dH 0 rfl rfl rfl sS rfl (by first|exact Nat.le_of_ble_eq_true rfl|simp) ⟨(fun _=>wk [2,2,2] [0] rfl rfl), ?_⟩)
      refine kr (dH 1 rfl rfl rfl sS rfl (by first|exact Nat.le_of_ble_eq_true rfl|simp) ⟨(fun _=>wk [2,2,2] [0] rfl rfl), ?_⟩)
      refine br<|al (ρ' :=[(53,_),(10,_),(43,_),(9,_),(37,_),(7,_),(6,_),(18,_),(5,_),(4,_),(3,_),(2,_),(0,_),(1,_)]) ⟨rfl,rfl,rfl,rfl,rfl,rfl,rfl,rfl,rfl,rfl,rfl,rfl,rfl,rfl,trivial⟩<|ak (X' :=[_,_,_,_,_]) (S' :=[_]) (fun _ m=>m)<|aM<| ?_
      exact lh (mi l i q,i-q) (by show fR l i (u1,u2) q=_;unfold fR;rw[if_neg (by omega),if_pos (by show u1<_;omega)]) [1,0,0,0,0] rfl [0] rfl
     ·refine oV<|aM<| ?_
      exact lh (u1,u2) (by show fR l i (u1,u2) q=_;unfold fR;rw[if_neg (by omega),if_neg (by show¬u1<_;omega)]) [0,0,0,0,0] rfl [0] rfl
   ·obtain⟨u1,u2⟩:=s_
    have ai:=qt e0 (by omega) hlt hs_
    have hu1:u1=(aW l i).1:=congrArg Prod.fst ai
    have hu2:u2=(aW l i).2:=congrArg Prod.snd ai
    refine ag<|ah<|cG [] [(0,some 0),(1,some 0),(2,some 0),(3,some 0)] (by kernel_rfl) (by kernel_rfl) rfl 99<|ca (fun m=>aw rfl fS (aA (m.aZ 1 rfl) rfl))<|ca (fun m=>aw rfl fS (aA (m.aZ 2 rfl) rfl))<|an (ab rfl)<|an (ab rfl)<|br<|al (ρ' :=[(5,_),(4,_),(37,_),(7,_),(6,_),(18,_),(3,_),(2,_),(0,_),(1,_)]) ⟨rfl,rfl,rfl,rfl,rfl,rfl,rfl,rfl,rfl,rfl,trivial⟩<|ag<|aX<| ?_
    refine Gk trivial [0] rfl ?_
    refine ak (X' :=fG (fT es1)::_) (fun w m=>(Mem.si (m.perm (ar [5,5] _ [_,_] _ rfl))).my (E2 hj1)) ?_
    refine ak (X' :=n0 g gm (some a) n c i es1::_) (fun w m=>(m.perm (ar [5,6,0] _ [_,_,_] _ rfl)).pack) ?_
    exact vi trivial rfl rfl rfl [0] rfl [] rfl ⟨i,es1,(by rw[←hu1,←hu2]),rfl,rfl,⟨Nat.le_refl _,hF1⟩⟩
end Go.Proofs.YtmibdabdlgmafaaGreatDoor
end
section
namespace Go.Eng
open Go.RowKit
theorem sa{P:Program}{Q:Exit→Act→World→Prop}{ι:Type}{c rest:Code}(l:Nat)(J:ι→Act→World→Prop)(μ:ι→Nat)(hf:findLabel c l=some rest){a:Act}{w:World}
  (first:c.wp P (Exit.jump l (fun a w=>∃j,J j a w) Q) a w)
  (pass:∀i a w,J i a w→rest.wp P (Exit.jump l (fun a' w' =>∃j,J j a' w' ∧μ j<μ i) Q) a w):(Code.scope c).wp P Q a w:=by
 intro b k cs
 have hg:gotoIn l (.inScope c::k)=some (.code rest:: .inScope c::k):=by simp[gotoIn,hf]
 have key:∀n i a w,μ i=n→J i a w→∃e a' w',Q e a' w' ∧Arrives P (lone (b.at a (.code rest:: .inScope c::k)) cs w) b k cs e a' w' :=by
  intro n
  induction n using Nat.strongRecOn with
  |_ n ih=>
   intro i a w hn hJ
   obtain⟨e,a₁,w₁,hq,harr⟩:=pass i a w hJ b (.inScope c::k) cs
   cases e with
   |normal=>exact⟨.normal,a₁,w₁,hq,Steps.trans harr (.one step_inScope)⟩
   |exit id=>exact⟨.exit id,a₁,w₁,hq,fun k' hk=>harr k' (by simp[exitTo,hk])⟩
   |goto l' =>
    obtain⟨rfl,j,hJ',hlt⟩:=hq
    obtain⟨e₂,a₂,w₂,hq₂,harr₂⟩:=ih _ (by omega) j a₁ w₁ rfl hJ'
    exact⟨e₂,a₂,w₂,hq₂,.of_steps (harr _ hg) harr₂⟩
   |ret=>exact⟨_,a₁,w₁,hq,harr⟩
   |panic ch=>exact⟨_,a₁,w₁,hq,harr⟩
   |outgrown=>exact⟨_,a₁,w₁,hq,harr⟩
 obtain⟨e,a₁,w₁,hq,harr⟩:=first b (.inScope c::k) cs
 cases e with
 |normal=>exact⟨.normal,a₁,w₁,hq,.head step_scope (Steps.trans harr (.one step_inScope))⟩
 |exit id=>exact⟨.exit id,a₁,w₁,hq,fun k' hk=>.head step_scope (harr k' (by simp[exitTo,hk]))⟩
 |goto l' =>
  obtain⟨rfl,j,hJ'⟩:=hq
  obtain⟨e₂,a₂,w₂,hq₂,harr₂⟩:=key _ j a₁ w₁ rfl hJ'
  exact⟨e₂,a₂,w₂,hq₂,.of_steps (.head step_scope (harr _ hg)) harr₂⟩
 |ret=>exact⟨_,a₁,w₁,hq,.of_steps (.one step_scope) harr⟩
 |panic ch=>exact⟨_,a₁,w₁,hq,.of_steps (.one step_scope) harr⟩
 |outgrown=>exact⟨_,a₁,w₁,hq,.of_steps (.one step_scope) harr⟩
section
variable{P:Program}{Q:Exit→Act→World→Prop}{N:Nat}{D:List Deferred}{ρ:Env}{b:cC}{X S:List bh}{c:Code}
theorem Dx{ι:Type}{l:Nat}{rest:Code}(μ:ι→Nat)(R:ι→Env)(X1 S1:ι→List bh)(I:ι→Prop)(ρk:Env)(Xr Sr:List bh)(hf:findLabel c l=some rest)
  (first:HC P (Exit.jump l (fun a' w' =>∃j,Ag N D (R j++ρk) a' ∧Mem b (X1 j++Xr) (S1 j++Sr) w' ∧I j) Q) N D c ρ b X S)
  (pass:∀i,I i→HC P (Exit.jump l (fun a' w' =>∃j,Ag N D (R j++ρk) a' ∧Mem b (X1 j++Xr) (S1 j++Sr) w' ∧I j∧μ j<μ i) Q) N D rest (R i++ρk) b (X1 i++Xr) (S1 i++Sr)):HC P Q N D (.scope c) ρ b X S:=fun w m a ha=>
 sa l (fun j a' w' =>Ag N D (R j++ρk) a' ∧Mem b (X1 j++Xr) (S1 j++Sr) w' ∧I j) μ hf (first w m a ha)
  (fun i a' w' h=>Code.wp_mono (fun e a' w' q=>by
   cases e <;> first|exact q|(obtain⟨h0,j,h1,h2,h3,h4⟩:=q;exact⟨h0,j,⟨h1,h2,h3⟩,h4⟩)) (pass i h.2.2 w' h.2.1 a' h.1))
theorem zk{l:Nat}(h:HQ Q N D (.goto l) ρ b X S):HC P Q N D (.goto l) ρ b X S:=fun w m a ha=>wp_goto (h w m a ha)
theorem vq{K:Act→World→Prop}{l:Nat}(h:HQ Q N D (.goto l) ρ b X S):HQ (Exit.then K Q) N D (.goto l) ρ b X S:=h
theorem xH{l:Nat}{J:Act→World→Prop}(h:HQ Q N D .ret ρ b X S):HQ (Exit.jump l J Q) N D .ret ρ b X S:=h
theorem Ew{l:Nat}{J:Act→World→Prop}{r:Code}(h:HQ (Exit.jump l J Q) N D (.goto l) ρ b X S)(k:∀a w,J a w→r.wp P (Exit.jump l J Q) a w):HC P (Exit.jump l J Q) N D (.seq (.label l) r) ρ b X S:=fun w m a ha=>wp_seq (wp_label (k a w (h w m a ha).2))
theorem CO{α:Type}{l:Nat}{rest:Code}(μ:α→Nat)(R:α→Env)(X1 S1:α→List bh)(I:α→Prop)(ρk:Env)(Xr Sr:List bh)(hf:findLabel c l=some rest)
  (first:HC P (Exit.jump l (fun a' w' =>∃x,Ag N D (R x++ρk) a' ∧Mem b (X1 x++Xr) (S1 x++Sr) w' ∧I x) Q) N D c ρ b X S)
  (pass:∀a,I a→HC P (Exit.jump l (fun a' w' =>∃x,Ag N D (R x++ρk) a' ∧Mem b (X1 x++Xr) (S1 x++Sr) w' ∧I x∧μ x<μ a) Q) N D rest (R a++ρk) b (X1 a++Xr) (S1 a++Sr)):HC P Q N D (.scope c) ρ b X S:=
 Dx (ι:=α) (fun i=>μ i) (fun i=>R i) (fun i=>X1 i) (fun i=>S1 i) (fun i=>I i) ρk Xr Sr hf
  (fun w m a ha=>Code.wp_mono (fun e a' w' q=>by
   cases e <;> first|exact q|(obtain⟨h0,x,h⟩:=q;exact⟨h0,x,h⟩)) (first w m a ha))
  (fun i hi w m a ha=>Code.wp_mono (fun e a' w' q=>by
   cases e <;> first|exact q|(obtain⟨h0,x,h⟩:=q;exact⟨h0,x,h⟩)) (pass i hi w m a ha))
theorem zM{α:Type}{l:Nat}{r:Code}(μ:α→Nat)(R:α→Env)(X1 S1:α→List bh)(I:α→Prop)(ρk:Env)(hk:fv ρk ρ)(is:List Nat){Xt Xr:List bh}(hX:bT is X=some (Xt,Xr))(hf:findLabel c l=some (.seq .skip r))
  (pass:∀a,I a→HC P (Exit.jump l (fun a' w' =>∃x,Ag N D (R x++ρk) a' ∧Mem b (X1 x++Xr) (S1 x++S) w' ∧I x∧μ x<μ a) Q) N D r (R a++ρk) b (X1 a++Xr) (S1 a++S))
  (first:(∀a w,(∃x,Ag N D (R x++ρk) a∧Mem b (X1 x++Xr) (S1 x++S) w∧I x)→r.wp P (Exit.jump l (fun a' w' =>∃x,Ag N D (R x++ρk) a' ∧Mem b (X1 x++Xr) (S1 x++S) w' ∧I x) Q) a w)→
   HC P (Exit.jump l (fun a' w' =>∃x,Ag N D (R x++ρk) a' ∧Mem b (X1 x++Xr) (S1 x++S) w' ∧I x) Q) N D c ρ b X S):HC P Q N D (.scope c) ρ b X S:=
 CO (l:=l) (rest:=.seq .skip r) μ R X1 S1 I ρk Xr S hf
  (first fun a w h=>by
   obtain⟨x,h1,h2,h3⟩:=h
   exact Code.wp_mono (fun e a' w' q=>by
    cases e <;> first|exact q|(obtain⟨h0,x_,g1,g2,g3,g4⟩:=q;exact⟨h0,x_,g1,g2,g3⟩)) (pass x h3 w h2 a h1))
  (fun a h=>fun w m a9 ha=>wp_seq (wp_skip (pass a h w m a9 ha)))
theorem A0{α:Type}{l M:Nat}{μ:α→Nat}{R:α→Env}{X1 S1:α→List bh}{Xr Sr:List bh}{ρ0:Env}{I:α→Prop}(x:α)(hs:fv (R x++ρ0) ρ)(is:List Nat){Xz:List bh}(hX:bT is X=some (X1 x++Xr,Xz))(js:List Nat)(hS:dS js S=some (S1 x++Sr))(hI:I x)(hlt:μ x<M):
  HQ (Exit.jump l (fun a' w' =>∃x,Ag N D (R x++ρ0) a' ∧Mem b (X1 x++Xr) (S1 x++Sr) w' ∧I x∧μ x<M) Q) N D (.goto l) ρ b X S:=
 fun w m a ha=>⟨rfl,x,ha.sub hs.sub,((m.perm (ar _ _ _ _ hX)).kA).mq (cr _ _ _ hS),hI,hlt⟩
theorem DX{α:Type}{l:Nat}{R:α→Env}{X1 S1:α→List bh}{Xr Sr:List bh}{ρ0:Env}{I:α→Prop}(x:α)(hs:fv (R x++ρ0) ρ)(is:List Nat){Xz:List bh}(hX:bT is X=some (X1 x++Xr,Xz))(js:List Nat)(hS:dS js S=some (S1 x++Sr))(hI:I x):
  HQ (Exit.jump l (fun a' w' =>∃x,Ag N D (R x++ρ0) a' ∧Mem b (X1 x++Xr) (S1 x++Sr) w' ∧I x) Q) N D (.goto l) ρ b X S:=
 fun w m a ha=>⟨rfl,x,ha.sub hs.sub,((m.perm (ar _ _ _ _ hX)).kA).mq (cr _ _ _ hS),hI⟩
end
end Go.Eng
end
section
set_option maxRecDepth 20000
set_option maxHeartbeats 2000000
namespace Go.Proofs.YtmibdabdlgmafaaGreatDoor
open Go.Eng Go.Hx
theorem F9{g0 g1:Nat}{A1 A2:Option Addr}{c1 c2:Nat}{own out:List UInt8}(hlen:out.length+2*own.length≤4000000000):cj Tryz.prog 230 [.pointer (some ⟨g0,0,none⟩),.pointer (some ⟨g1,0,none⟩)] [aL g0 27 [.slice A1 own.length c1],aG 5 1 (.slice A1 own.length c1) own.length (aR own),aL g1 27 [.slice A2 out.length c2],aG 5 1 (.slice A2 out.length c2) out.length (aR out)] [] (fun v_ X_ S_=>∃A3 A4 c3 c4,v_=(.tuple #[])∧X_=[aL g0 27 [.slice A3 0 c3],aG 5 1 (.slice A3 0 c3) 0 [],aL g1 27 [.slice A4 (out++ey own).length c4],aG 5 1 (.slice A4 (out++ey own).length c4) (out++ey own).length (aR (out++ey own))]∧S_=[]):=by
 obtain⟨o0,ho0⟩:∃o0,o0=out++ey own:=⟨_,rfl⟩
 rw[←ho0]
 refine aQ (N:=22) Tryz.func230 rfl rfl (by simp) fun b=> ?_
 refine aI<| ?_
 refine nP (fun own out A1 c1 A2 c2=>own.length) (fun own out A1 c1 A2 c2=>[]) (fun own out A1 c1 A2 c2=>[aL g0 27 [.slice A1 own.length c1],aG 5 1 (.slice A1 own.length c1) own.length (aR own),aL g1 27 [.slice A2 out.length c2],aG 5 1 (.slice A2 out.length c2) out.length (aR out)]) (fun own out A1 c1 A2 c2=>[]) (fun own out A1 c1 A2 c2=>out.length+2*own.length≤4000000000∧out++ey own=o0) own out A1 c1 A2 c2 [(0,_),(1,_)] ⟨rfl,rfl,trivial⟩ [0,0,0,0] rfl [] rfl (⟨hlen,ho0.symm⟩) trivial (fun own out A1 c1 A2 c2 ⟨hlen,hE⟩=> ?_)
 refine ah<|ah<|aj<|hy (fun m=>aw rfl ea (aA (m.aZ 0 rfl) rfl))<|hy (fun _=>aU rfl Tryz.underlying27)<|hy (fun _=>cY rfl rfl)<|ai<|al (ρ' :=[(5,_),(0,_),(1,_)]) ⟨rfl,rfl,rfl,trivial⟩<|ag<| ?_
 refine cD rfl (fun h0=> ?_) (fun h0=> ?_)
 ·have hne:own≠ []:=fun e=>by rw[e]at h0;exact absurd h0 (by decide)
  rw[lg hne]at hE
  obtain⟨k,hk⟩:∃k,k=min own.length 128:=⟨_,rfl⟩
  have hk1:1≤k∧k≤128∧k≤own.length:=by omega
  rw[←hk]at hE
  have htk:own.take 128=own.take k:=by
   rcases Nat.lt_or_ge own.length 128 with h|h
   ·rw[List.take_of_length_le (by omega),List.take_of_length_le (by omega)]
   ·rw[show k=128 by omega]
  have hdk:own.drop 128=own.drop k:=by
   rcases Nat.lt_or_ge own.length 128 with h|h
   ·rw[List.drop_of_length_le (by omega),List.drop_of_length_le (by omega)]
   ·rw[show k=128 by omega]
  rw[htk,hdk]at hE
  refine aY (fun m=>(Own.rd (m.own 1 rfl)).2.1) fun hc1=> ?_
  refine aC<|ag<|aI<|ah<|aj<|hy (fun m=>aw rfl ea (aA (m.aZ 0 rfl) rfl))<|hy (fun _=>aU rfl Tryz.underlying27)<|hy (fun _=>yV (wa rfl rfl) ((show Value.int .i64 _= .int .i64 (k:Nat) by congr 1;omega)))<|hy (fun _=>ab rfl)<|ai<|al (ρ' :=[(2,_),(5,_),(0,_),(1,_)]) ⟨rfl,rfl,rfl,rfl,trivial⟩<|ag<|ah<|oC [0,0,0] [] rfl rfl [4,5,9,10] [(0,some 1),(1,some 3),(2,some 0),(3,some 0),(6,some 2),(7,some 2),(8,some 2),(4,none),(5,none),(9,none),(10,none)] (by kernel_rfl) (by kernel_rfl) rfl 3<|ca (fun m=>aw rfl ea (aA (m.aZ 2 rfl) rfl))<|an (aa rfl)<|an (yV (cw rfl rfl (bC (by omega) (by omega))) ((show Value.int .i64 ((k:Int)-1)= .int .i64 ((k-1:Nat):Int) by congr 1;omega)))<|an (yV (bW rfl Tryz.underlying3 Tryz.underlying5 (gS (k-1))) ((show Value.int .u8 _=B8 (UInt8.ofNat (k-1))from rfl)))<|ca (fun m=>aw rfl ea (aA (m.aZ 0 rfl) rfl))<|an (aa rfl)<|an (nY rfl rfl Tryz.underlying27 ek rfl (by omega))<| ?_
  refine dV (bY Tryz.underlying27 fb rfl rfl rfl (by simp[Value.cells,B8]) (by decide) (by decide) (fun g13=>⟨(fun _=>wk [1,1,1] [] rfl rfl), ?_⟩))
  have hA_b13:0<1→(some (⟨g13,0,none⟩:Addr))≠none:=fun _ h=>by cases h
  refine dV (bL 4 rfl rfl rfl Tryz.underlying27 Tryz.underlying27 (by exact .inl rfl) fb rfl (fun m=>Src.b7 (m.ord 0 rfl)) (aS (l:=[UInt8.ofNat (k-1)])) (by unfold maxLen;omega) (by omega) (fun u=>⟨(fun _=>wk [2,2,2] [] rfl rfl), ?_⟩))
  refine b5 (fun m=>(m.own 0 rfl).slice) ?_
  rintro⟨A_y,c_y,rfl,hc_y⟩
  refine b5 (fun m=>(m.ord 0 rfl).2.1) fun hA_y=> ?_
  refine dV (bL 0 rfl rfl rfl Tryz.underlying27 Tryz.underlying27 (by exact .inl rfl) fb rfl (fun m=>Src.b7 (Rd.Da (m.ord 3 rfl) hk1.2.2)) aS (by unfold maxLen;omega) (by omega) (fun u2=>⟨(fun _=>wk [2,2,2] [] rfl rfl), ?_⟩))
  refine b5 (fun m=>(m.own 0 rfl).slice) ?_
  rintro⟨A_y2,c_y2,rfl,hc_y⟩
  refine b5 (fun m=>(m.ord 0 rfl).2.1) fun hA_y=> ?_
  refine kr (dH 4 rfl rfl rfl oO rfl (by first|exact Nat.le_of_ble_eq_true rfl|simp) ⟨(fun h=>absurd h (by decide)), ?_⟩)
  refine br<|al (ρ' :=[(2,_),(5,_),(0,_),(1,_)]) ⟨rfl,rfl,rfl,rfl,trivial⟩<|ak (X' :=[_,_,_,_,_]) (S' :=[]) (fun _ m=>m)<|ag<|aj<|hy (fun m=>aw rfl ea (aA (m.aZ 3 rfl) rfl))<|hy (fun _=>aa rfl)<|hy (fun _=>ej rfl rfl Tryz.underlying27 ek rfl (by omega))<| ?_
  refine cJ (dH 3 rfl rfl rfl oO rfl (by first|exact Nat.le_of_ble_eq_true rfl|simp) ?_)
  refine ai<|al (ρ' :=[(2,_),(5,_),(0,_),(1,_)]) ⟨rfl,rfl,rfl,rfl,trivial⟩<|ak (X' :=[_,_,_,_,_]) (S' :=[]) (fun _ m=>m)<|aM<| ?_
  refine ak (X' :=aG 5 1 (.slice (if c1=k then A1 else A1.map (·.add (k*1))) (own.length-k) (c1-k)) (own.length-k) ((aR own).drop (k*1))::_) (fun w m=>(m.perm (ar [4] _ [_] _ rfl)).w7 (View.sO hk1.2.2 hc1)) ?_
  have hdl:own.length-k=(own.drop k).length:=by rw[List.length_drop]
  have hol:out.length+1+k=(out++(UInt8.ofNat (k-1)::own.take k)).length:=by simp;omega
  rw[hdl,hol]
  refine ak (fun w m=>m.bQ 0 rfl (show _=aG 5 1 (.slice (if c1=k then A1 else A1.map (·.add (k*1))) (own.drop k).length (c1-k)) (own.drop k).length (aR (own.drop k))from congrArg (aG _ _ _ _) (by rw[Nat.mul_one,qi]))) ?_
  refine ak (fun w m=>m.bQ 3 rfl (show _=aG 5 1 (.slice A_y2 (out++(UInt8.ofNat (k-1)::own.take k)).length c_y2) (out++(UInt8.ofNat (k-1)::own.take k)).length (aR (out++(UInt8.ofNat (k-1)::own.take k)))from congrArg (aG _ _ _ _) (show aR out++aR [UInt8.ofNat (k-1)]++aR (own.take k)=_ by rw[←bx,←bx,List.append_assoc];rfl))) ?_
  refine eM (own.drop k) (out++(UInt8.ofNat (k-1)::own.take k)) _ _ _ _ ⟨rfl,rfl,trivial⟩ [2,1,1,0] rfl [] rfl (⟨by rw[←hdl,←hol];omega,by rw[←hE];simp⟩) (by rw[←hdl];omega)
 ·have hne:own=[]:=List.eq_nil_of_length_eq_zero (by omega)
  rw[hne,np,List.append_nil]at hE
  subst hne
  subst hE
  refine bK<|ao<|ao<|aB<| ?_
  exact fD trivial rfl [0,0,0,0] rfl [] rfl ⟨_,_,_,_,rfl,rfl,rfl⟩
structure Ct where
 g:Nat
 gm:Nat
 g4:Nat
 g5:Nat
 i:Nat
 p:Nat
 c1:Nat
 c2:Nat
 A1:Option Addr
 A2:Option Addr
 own:List UInt8
 out:List UInt8
 es:vr
theorem FR{A:Option Addr}{n c:Nat}{l:List UInt8}(hc:n≤c)(hn:n≤500000000)(hl:l.length=n):cj Tryz.prog 178 [.slice A n c] [] [cV 1 A n (aR l)] (fun v_ X_ S_=>∃v,v_=v∧X_=[aG 5 1 v (eD l).length (aR (eD l))]∧S_=[]):=by
 refine aQ (N:=56) Tryz.func178 rfl rfl (by simp) fun b=> ?_
 refine aY (fun m=>ig (m.rd 0 rfl)) ?_
 rintro⟨hl_r,hA_r⟩
 refine ah<|aj<|hy (fun _=>ab rfl)<|ai<|ag<| ?_
 refine zM (l:=0) (fun(t:Ct)=>n-t.i) (fun(t:Ct)=>[(7,.int .i64 (t.i:Nat)),(3,.pointer (some ⟨t.g,0,none⟩)),(4,.pointer (some ⟨t.g4,0,none⟩)),(5,.pointer (some ⟨t.g5,0,none⟩)),(6,.func (.func 230) #[] #[.pointer (some ⟨t.g5,0,none⟩),.pointer (some ⟨t.g4,0,none⟩)])]) (fun(t:Ct)=>[n0 t.g t.gm A n c t.p t.es,aL t.g5 27 [.slice t.A1 t.own.length t.c1],aG 5 1 (.slice t.A1 t.own.length t.c1) t.own.length (aR t.own),aL t.g4 27 [.slice t.A2 t.out.length t.c2],aG 5 1 (.slice t.A2 t.out.length t.c2) t.out.length (aR t.out)]) (fun(t:Ct)=>[]) (fun(t:Ct)=>t.i≤n∧t.p≤t.i∧yp l t.p t.es∧t.out.length+2*t.own.length≤2*t.i∧gJ l t.i t.own t.out=eD l) [(0,_)] ⟨rfl,trivial⟩ [] rfl rfl (fun t ⟨hin,hpi,hF,hlen,hE⟩=> ?_) (fun hfall_=> ?_)
 ·obtain⟨g,gm,g4,g5,i,p,c1,c2,A1,A2,own,out,es⟩:=t
  dsimp only at hin hpi hF hlen hE ⊢
  refine ah<|ah<|aj<|hy (fun _=>aa rfl)<|hy (fun _=>aa rfl)<|hy (fun _=>aU rfl Tryz.underlying27)<|hy (fun _=>cM rfl rfl)<|ai<|al (ρ' :=[(16,_),(7,_),(3,_),(4,_),(5,_),(6,_),(0,_)]) ⟨rfl,rfl,rfl,rfl,rfl,rfl,rfl,trivial⟩<|ag<| ?_
  refine xf rfl (fun hfin=> ?_) (fun hfin=> ?_)
  ·have hi:i=n:=by have:=of_decide_eq_true hfin;omega
   rw[ln (by omega)]at hE
   refine ah<|aj<|hy (fun _=>aa rfl)<| ?_
   refine hx (kT rfl rfl Tryz.call230 (F9 (by omega)) [1,1,1,1] rfl [] rfl ?_)
   rintro _ _ _ ⟨A3,A4,c3,c4,rfl,rfl,rfl⟩
   rw[hE]
   refine ai<|al (ρ' :=[(16,_),(7,_),(3,_),(4,_),(5,_),(6,_),(0,_)]) ⟨rfl,rfl,rfl,rfl,rfl,rfl,rfl,trivial⟩<|ak (X' :=[_,_,_,_,_]) (S' :=[_]) (fun _ m=>m)<|ag<|ah<|aj<|hy (fun m=>aw rfl ea (aA (m.aZ 2 rfl) rfl))<|hy (fun _=>ab rfl)<|ai<|al (ρ' :=[(2,_),(16,_),(7,_),(3,_),(4,_),(5,_),(6,_),(0,_)]) ⟨rfl,rfl,rfl,rfl,rfl,rfl,rfl,rfl,trivial⟩<|ag<|aX<|ax<|xH<| ?_
   exact bf trivial rfl rfl [3] rfl [] rfl ⟨_,rfl,rfl,rfl⟩
  ·have hi:i<n:=by have:=of_decide_eq_false hfin;omega
   refine aC<|ag<|ah<|aj<|hy (fun _=>aa rfl)<|hy (fun _=>aa rfl)<| ?_
   refine hx (aq rfl Tryz.call231 (DL (by omega) (by omega) hl (by omega) (by omega) hF) [0] rfl [0] rfl ?_)
   rintro _ _ _ ⟨p1,es1,rfl,rfl,rfl,hp⟩
   obtain⟨hp1,hF1⟩:=hp
   refine hy (fun _=>aa rfl)<|hy (fun _=>au rfl rfl)<|hy (fun _=>au rfl rfl)<|hy (fun _=>ab rfl)<|hy (fun _=>ab rfl)<|ai<|al (ρ' :=[(9,_),(8,_),(16,_),(7,_),(3,_),(4,_),(5,_),(6,_),(0,_)]) ⟨rfl,rfl,rfl,rfl,rfl,rfl,rfl,rfl,rfl,trivial⟩<|ak (X' :=[_,_,_,_,_]) (S' :=[_]) (fun _ m=>m)<|ag<|ah<|ah<|aj<|hy (fun _=>aa rfl)<|hy (fun _=>cM rfl rfl)<|ai<|al (ρ' :=[(27,_),(9,_),(8,_),(16,_),(7,_),(3,_),(4,_),(5,_),(6,_),(0,_)]) ⟨rfl,rfl,rfl,rfl,rfl,rfl,rfl,rfl,rfl,rfl,trivial⟩<|ag<| ?_
   refine cD rfl (fun h0=> ?_) (fun h0=> ?_)
   ·rw[ly (by omega) (by omega)]at hE
    refine ah<|oC [0,0,1,1] [0] rfl rfl [5,6,7] [(0,some 1),(1,some 0),(2,some 0),(3,some 0),(4,some 0),(5,none),(6,none),(7,none)] (by kernel_rfl) (by kernel_rfl) rfl 2<|ca (fun m=>aw rfl ea (aA (m.aZ 1 rfl) rfl))<|an (aa rfl)<|an (aa rfl)<|an (aO rfl rfl Tryz.underlying27 ek hA_r rfl (by omega))<|ca (fun m=>aw rfl jL ((m.rd 0 rfl).cell (bM (by omega))))<| ?_
    refine dV (bY Tryz.underlying27 fb rfl rfl rfl (by simp[Value.cells,B8]) (by decide) (by decide) (fun g33=>⟨(fun _=>wk [1,1,2,2] [0] rfl rfl), ?_⟩))
    have hA_b33:0<1→(some (⟨g33,0,none⟩:Addr))≠none:=fun _ h=>by cases h
    refine eE (fun w m=>m.bQ 0 rfl (show _=aG 5 1 (.slice (some ⟨g33,0,none⟩) 1 1) 1 (aR [l.getD i 0])from rfl)) ?_
    refine dV (bL 3 rfl rfl rfl Tryz.underlying27 Tryz.underlying27 (by exact .inl rfl) fb rfl (fun m=>Src.b7 (m.ord 0 rfl)) aS (by unfold maxLen;omega) (by omega) (fun u=>⟨(fun _=>wk [2,2,2,2] [0] rfl rfl), ?_⟩))
    refine b5 (fun m=>(m.own 0 rfl).slice) ?_
    rintro⟨A_x,c_x,rfl,hc_x⟩
    refine b5 (fun m=>(m.ord 0 rfl).2.1) fun hA_x=> ?_
    refine kr (dH 3 rfl rfl rfl oO rfl (by first|exact Nat.le_of_ble_eq_true rfl|simp) ⟨(fun h=>absurd h (by decide)), ?_⟩)
    refine br<|al (ρ' :=[(27,_),(9,_),(8,_),(16,_),(7,_),(3,_),(4,_),(5,_),(6,_),(0,_)]) ⟨rfl,rfl,rfl,rfl,rfl,rfl,rfl,rfl,rfl,rfl,trivial⟩<|ak (X' :=[_,_,_,_,_,_]) (S' :=[_]) (fun _ m=>m)<|ag<|ah<|aj<|hy (fun _=>aa rfl)<|hy (fun _=>aN rfl rfl (bC (by omega) (by omega)))<|hy (fun _=>ab rfl)<|ai<|al (ρ' :=[(7,_),(27,_),(9,_),(8,_),(16,_),(3,_),(4,_),(5,_),(6,_),(0,_)]) ⟨rfl,rfl,rfl,rfl,rfl,rfl,rfl,rfl,rfl,rfl,trivial⟩<|ag<|zk<|vq<| ?_
    have hol:own.length+1=(own++[l.getD i 0]).length:=by simp
    rw[hol]
    refine ak (fun w m=>m.bQ 1 rfl (show _=aG 5 1 (.slice A_x (own++[l.getD i 0]).length c_x) (own++[l.getD i 0]).length (aR (own++[l.getD i 0]))from congrArg (aG _ _ _ _) (bx _ _).symm)) ?_
    exact A0 (⟨g,gm,g4,g5,i+1,p1,c_x,c2,A_x,A2,own++[l.getD i 0],out,es1⟩) ⟨rfl,rfl,rfl,rfl,rfl,rfl,trivial⟩ [3,1,0,1,1] rfl [0] rfl (⟨hi,Nat.le_succ_of_le hp1,hF1,by show out.length+2*(own++[l.getD i 0]).length≤2*(i+1);rw[←hol];omega,hE⟩) (by show n-(i+1)<n-i;omega)
   ·have hm:=lF (b:=l) (i:=i) (by omega)
    rw[iZ (by omega) (by omega)]at hE
    obtain⟨m1,m2,m3,m4,m5,m6⟩:=hm.resolve_left (fun e=>h0 (by rw[e];rfl))
    refine aC<|ag<|ah<|aj<|hy (fun _=>aa rfl)<| ?_
    refine hx (kT rfl rfl Tryz.call230 (F9 (by omega)) [1,1,1,1] rfl [] rfl ?_)
    rintro _ _ _ ⟨A3,A4,c3,c4,rfl,rfl,rfl⟩
    refine ai<|al (ρ' :=[(27,_),(9,_),(8,_),(16,_),(7,_),(3,_),(4,_),(5,_),(6,_),(0,_)]) ⟨rfl,rfl,rfl,rfl,rfl,rfl,rfl,rfl,rfl,rfl,trivial⟩<|ak (X' :=[_,_,_,_,_]) (S' :=[_]) (fun _ m=>m)<|ag<|ah<|aj<|hy (fun m=>aw rfl ea (aA (m.aZ 2 rfl) rfl))<|hy (fun _=>aa rfl)<|hy (fun _=>aN rfl rfl (bC (by omega) (by omega)))<|hy (fun _=>yV (cw rfl rfl (bC (by omega) (by omega))) ((show Value.int .i64 (128+((aW l i).1:Int)-4)= .int .i64 ((124+(aW l i).1:Nat):Int) by congr 1;omega)))<|hy (fun _=>yV (bW rfl Tryz.underlying3 Tryz.underlying5 (gS _)) ((show Value.int .u8 _=B8 (UInt8.ofNat (124+(aW l i).1))from rfl)))<|hy (fun _=>aa rfl)<|hy (fun _=>yV (cw rfl rfl (bC (by omega) (by omega))) ((show Value.int .i64 (((aW l i).2:Int)-1)= .int .i64 (((aW l i).2-1:Nat):Int) by congr 1;omega)))<|hy (fun _=>yV (bW rfl Tryz.underlying3 Tryz.underlying5 (gS _)) ((show Value.int .u8 _=B8 (UInt8.ofNat ((aW l i).2-1))from rfl)))<|hy (fun _=>aa rfl)<|hy (fun _=>yV (cw rfl rfl (bC (by omega) (by omega))) ((show Value.int .i64 (((aW l i).2:Int)-1)= .int .i64 (((aW l i).2-1:Nat):Int) by congr 1;omega)))<|hy (fun _=>yV (oF (p:=256) rfl rfl (by decide) (by decide) (by decide)) ((show Value.int .i64 ((((aW l i).2-1:Nat):Int)/256)= .int .i64 ((((aW l i).2-1)/256:Nat):Int) by congr 1)))<|hy (fun _=>yV (bW rfl Tryz.underlying3 Tryz.underlying5 (gS _)) ((show Value.int .u8 _=B8 (UInt8.ofNat (((aW l i).2-1)/256))from rfl)))<| ?_
    refine hx (bY Tryz.underlying27 fb rfl rfl rfl (by simp[Value.cells,B8]) (by decide) (by decide) (fun g51=> ?_))
    have hA_b51:0<3→(some (⟨g51,0,none⟩:Addr))≠none:=fun _ h=>by cases h
    refine aT (fun w m=>m.bQ 0 rfl (show _=aG 5 1 (.slice (some ⟨g51,0,none⟩) 3 3) 3 (aR (gk (aW l i)))from rfl)) ?_
    have hll:=fz own
    have hlo:(out++ey own).length=out.length+(ey own).length:=by simp
    refine hx (bL 4 rfl rfl rfl Tryz.underlying27 Tryz.underlying27 (by exact .inl rfl) fb rfl (fun m=>Src.b7 (m.ord 0 rfl)) aS (by unfold maxLen;omega) (by omega) (fun u=> ?_))
    refine aD (fun m=>(m.own 0 rfl).slice) ?_
    rintro⟨A_y,c_y,rfl,hc_y⟩
    refine aD (fun m=>(m.ord 0 rfl).2.1) fun hA_y=> ?_
    refine cJ (dH 4 rfl rfl rfl oO rfl (by first|exact Nat.le_of_ble_eq_true rfl|simp) ?_)
    refine ai<|al (ρ' :=[(27,_),(9,_),(8,_),(16,_),(7,_),(3,_),(4,_),(5,_),(6,_),(0,_)]) ⟨rfl,rfl,rfl,rfl,rfl,rfl,rfl,rfl,rfl,rfl,trivial⟩<|ak (X' :=[_,_,_,_,_,_]) (S' :=[_]) (fun _ m=>m)<|ag<|ah<|aj<|hy (fun _=>aa rfl)<|hy (fun _=>aa rfl)<|hy (fun _=>yV (aN rfl rfl (bC (by omega) (by omega))) ((show Value.int .i64 ((i:Int)+((aW l i).1:Int))= .int .i64 ((i+(aW l i).1:Nat):Int) by congr 1)))<|hy (fun _=>ab rfl)<|ai<|al (ρ' :=[(7,_),(27,_),(9,_),(8,_),(16,_),(3,_),(4,_),(5,_),(6,_),(0,_)]) ⟨rfl,rfl,rfl,rfl,rfl,rfl,rfl,rfl,rfl,rfl,trivial⟩<|ag<|zk<| ?_
    have hol:(out++ey own).length+3=(out++ey own++gk (aW l i)).length:=by simp[gk];omega
    rw[hol]
    refine ak (fun w m=>m.bQ 1 rfl (show _=aG 5 1 (.slice A_y (out++ey own++gk (aW l i)).length c_y) (out++ey own++gk (aW l i)).length (aR (out++ey own++gk (aW l i)))from congrArg (aG _ _ _ _) (bx _ _).symm)) ?_
    exact A0 (⟨g,gm,g4,g5,i+(aW l i).1,p1,c3,c_y,A3,A_y,[],out++ey own++gk (aW l i),es1⟩) ⟨rfl,rfl,rfl,rfl,rfl,rfl,trivial⟩ [5,3,3,1,0] rfl [0] rfl (⟨by show i+(aW l i).1≤n;omega,by show p1≤i+(aW l i).1;omega,hF1,by show(out++ey own++gk (aW l i)).length+2*0≤2*(i+(aW l i).1);rw[←hol];omega,hE⟩) (by show n-(i+(aW l i).1)<n-i;omega)
 ·refine ah<|aj<|hy (fun _=>aa rfl)<| ?_
  refine hx (aq rfl Tryz.call229 (Fo) [] rfl [] rfl ?_)
  rintro _ _ _ ⟨g,gm,rfl,rfl,rfl⟩
  refine hy (fun _=>ab rfl)<|ai<|al (ρ' :=[(3,_),(2,_),(0,_)]) ⟨rfl,rfl,rfl,trivial⟩<|ak (X' :=[_]) (S' :=[_]) (fun _ m=>m)<|ag<|ah<|aj<| ?_
  refine hx (aP ui (fun g4=> ?_))
  refine hx (aP ui (fun g5=> ?_))
  refine ai<|ak (X' :=[_,_,_]) (S' :=[_]) (fun _ m=>m)<|ag<|ah<|aj<|hy (fun _=>iy rfl rfl)<|hy (fun _=>ab rfl)<|ai<|al (ρ' :=[(6,_),(5,_),(4,_),(3,_),(2,_),(0,_)]) ⟨rfl,rfl,rfl,rfl,rfl,rfl,trivial⟩<|ag<|ah<|aj<|hy (fun _=>ab rfl)<|ai<|ag<| ?_
  refine bw (fun w m=>m.bQ 1 rfl (show _=aL g4 27 [.slice none 0 0]from rfl)) ?_
  refine bw (fun w m=>m.bQ 1 rfl (show _=aL g5 27 [.slice none 0 0]from rfl)) ?_
  refine bw (fun w m=>m.dG (r' :=aG 5 1 (.slice none 0 0) 0 []) (.refl _ _) (Own.nil _ _ _ _) (fun k hk=>hk.elim)) ?_
  refine bw (fun w m=>m.dG (r' :=aG 5 1 (.slice none 0 0) 0 []) (.refl _ _) (Own.nil _ _ _ _) (fun k hk=>hk.elim)) ?_
  exact Ew (DX (R:=fun(t:Ct)=>[(7,.int .i64 (t.i:Nat)),(3,.pointer (some ⟨t.g,0,none⟩)),(4,.pointer (some ⟨t.g4,0,none⟩)),(5,.pointer (some ⟨t.g5,0,none⟩)),(6,.func (.func 230) #[] #[.pointer (some ⟨t.g5,0,none⟩),.pointer (some ⟨t.g4,0,none⟩)])]) (X1:=fun(t:Ct)=>[n0 t.g t.gm A n c t.p t.es,aL t.g5 27 [.slice t.A1 t.own.length t.c1],aG 5 1 (.slice t.A1 t.own.length t.c1) t.own.length (aR t.own),aL t.g4 27 [.slice t.A2 t.out.length t.c2],aG 5 1 (.slice t.A2 t.out.length t.c2) t.out.length (aR t.out)]) (S1:=fun(t:Ct)=>[]) (I:=fun(t:Ct)=>t.i≤n∧t.p≤t.i∧yp l t.p t.es∧t.out.length+2*t.own.length≤2*t.i∧gJ l t.i t.own t.out=eD l) (⟨g,gm,g4,g5,0,0,0,0,none,none,[],[],[]⟩) ⟨rfl,rfl,rfl,rfl,rfl,rfl,trivial⟩ [4,2,1,1,0] rfl [0] rfl (⟨Nat.zero_le _,Nat.le_refl _,BB _,Nat.le_refl _,rfl⟩)) hfall_
end Go.Proofs.YtmibdabdlgmafaaGreatDoor
end
section
set_option maxRecDepth 20000
set_option maxHeartbeats 2000000
namespace Go.Proofs.YtmibdabdlgmafaaGreatDoor
open Go.Eng Go.Hx
theorem o1{A:Option Addr}{n c:Nat}{l:List UInt8}(hn:n≤70368744177664):cj Tryz.prog 180 [.slice A n c] [] [cV 1 A n (aR l)] (fun v_ X_ S_=>v_=(.int .u32 (cQ l:Nat))∧X_=[]∧S_=[]):=by
 exact iA fun m=>Calls.mono (yB A n c l _ (m.rd 0 rfl) (by omega)) (fun e w' ⟨h,hf⟩=>⟨_,h,⟨rfl,rfl,rfl⟩,hf⟩)
theorem jI{k:Nat}(hk:k<4294967296):cj Tryz.prog 179 [.int .u32 (k:Nat)] [] [] (fun v_ X_ S_=>∃v,v_=v∧X_=[aG 5 1 v 4 (aR (gy k))]∧S_=[]):=by
 refine aQ (N:=15) Tryz.func179 rfl rfl (by simp) fun b=> ?_
 refine ah<|aj<|hy (fun _=>ab rfl)<|ai<|ag<|ah<|aj<|hy (fun _=>aa rfl)<|hy (fun _=>yV (bW rfl Tryz.underlying166 Tryz.underlying5 (gS _)) ((show Value.int .u8 _=B8 (UInt8.ofNat k)from rfl)))<|hy (fun _=>aa rfl)<|hy (fun _=>yV (oF (p:=256) rfl rfl (by decide) (by decide) (by decide)) ((show Value.int .u32 ((k:Int)/256)= .int .u32 ((k/256:Nat):Int) by congr 1)))<|hy (fun _=>yV (bW rfl Tryz.underlying166 Tryz.underlying5 (gS _)) ((show Value.int .u8 _=B8 (UInt8.ofNat (k/256))from rfl)))<|hy (fun _=>aa rfl)<|hy (fun _=>yV (oF (p:=65536) rfl rfl (by decide) (by decide) (by decide)) ((show Value.int .u32 ((k:Int)/65536)= .int .u32 ((k/65536:Nat):Int) by congr 1)))<|hy (fun _=>yV (bW rfl Tryz.underlying166 Tryz.underlying5 (gS _)) ((show Value.int .u8 _=B8 (UInt8.ofNat (k/65536))from rfl)))<|hy (fun _=>aa rfl)<|hy (fun _=>yV (oF (p:=16777216) rfl rfl (by decide) (by decide) (by decide)) ((show Value.int .u32 ((k:Int)/16777216)= .int .u32 ((k/16777216:Nat):Int) by congr 1)))<|hy (fun _=>yV (bW rfl Tryz.underlying166 Tryz.underlying5 (gS _)) ((show Value.int .u8 _=B8 (UInt8.ofNat (k/16777216))from rfl)))<| ?_
 refine hx (bY Tryz.underlying27 fb rfl rfl rfl (by simp[Value.cells,B8]) (by decide) (by decide) (fun g14=> ?_))
 have hA_b14:0<4→(some (⟨g14,0,none⟩:Addr))≠none:=fun _ h=>by cases h
 refine hy (fun _=>ab rfl)<|ai<|al (ρ' :=[(2,_),(0,_)]) ⟨rfl,rfl,trivial⟩<|ak (X' :=[_]) (S' :=[]) (fun _ m=>m)<|ag<|aX<| ?_
 refine ak (fun w m=>m.bQ 0 rfl (show _=aG 5 1 (.slice (some ⟨g14,0,none⟩) 4 4) 4 (aR (gy k))from rfl)) ?_
 exact bf trivial rfl rfl [0] rfl [] rfl ⟨_,rfl,rfl,rfl⟩
theorem Gv{A:Option Addr}{n c:Nat}{l:List UInt8}(hc:n≤c)(hn:n≤100000000)(hl:l.length=n):cj Tryz.prog 106 [.slice A n c] [] [cV 1 A n (aR l)] (fun v_ X_ S_=>∃v,v_=v∧X_=[aG 5 1 v (bE l).length (aR (bE l))]∧S_=[]):=by
 have hpl:=mC l
 have hlt:n<4294967296:=by omega
 have hcl:=jt l
 refine aQ (N:=31) Tryz.func106 rfl rfl (by simp) fun b=> ?_
 refine aY (fun m=>ig (m.rd 0 rfl)) ?_
 rintro⟨hl_r,hA_r⟩
 refine ah<|aj<|hy (fun _=>ab rfl)<|ai<|ag<|ah<|aj<|hy (fun _=>aa rfl)<|hy (fun _=>ab rfl)<|hy (fun _=>ab rfl)<|ai<|al (ρ' :=[(4,_),(3,_),(2,_),(0,_)]) ⟨rfl,rfl,rfl,rfl,trivial⟩<|ag<|ah<|ah<|aj<|hy (fun _=>aa rfl)<| ?_
 refine hx (aq rfl Tryz.call178 (FR (by omega) (by omega) (by omega)) [] rfl [0] rfl ?_)
 rintro _ _ _ ⟨v,rfl,rfl,rfl⟩
 refine aD (fun m=>(m.own 0 rfl).slice) ?_
 rintro⟨A_y,c_y,rfl,hc_y⟩
 refine aD (fun m=>(m.ord 0 rfl).2.1) fun hA_y=> ?_
 refine hy (fun _=>ab rfl)<|ai<|al (ρ' :=[(5,_),(4,_),(3,_),(2,_),(0,_)]) ⟨rfl,rfl,rfl,rfl,rfl,trivial⟩<|ak (X' :=[_]) (S' :=[_]) (fun _ m=>m)<|ag<|ah<|aj<|hy (fun _=>aa rfl)<|hy (fun _=>aU rfl Tryz.underlying27)<|hy (fun _=>aa rfl)<|hy (fun _=>aU rfl Tryz.underlying27)<|hy (fun _=>bu rfl rfl)<|ai<|al (ρ' :=[(14,_),(5,_),(4,_),(3,_),(2,_),(0,_)]) ⟨rfl,rfl,rfl,rfl,rfl,rfl,trivial⟩<|ag<| ?_
 refine cD rfl (fun hp=> ?_) (fun hp=> ?_)
 ·have hq:bE l=[76,1]++gy l.length++eD l++gy (cQ l):=by
   have:vn l=true:=by unfold vn;exact decide_eq_true (by omega)
   unfold bE iz
   rw[this];rfl
  refine aj<|hy (fun _=>aa rfl)<|hy (fun _=>ab rfl)<|hy (fun _=>ab rfl)<|ai<|al (ρ' :=[(4,_),(3,_),(14,_),(5,_),(2,_),(0,_)]) ⟨rfl,rfl,rfl,rfl,rfl,rfl,trivial⟩<|ag<|ah<|aj<|hy (fun _=>aa rfl)<| ?_
  refine hx (bY Tryz.underlying27 fb rfl rfl rfl (by simp[Value.cells,B8]) (by decide) (by decide) (fun g17=> ?_))
  have hA_b17:0<2→(some (⟨g17,0,none⟩:Addr))≠none:=fun _ h=>by cases h
  refine hy (fun _=>aa rfl)<|hy (fun _=>aU rfl Tryz.underlying27)<|hy (fun _=>bW rfl Tryz.underlying3 Tryz.underlying166 (wW (by omega) (by omega)))<| ?_
  refine hx (aq rfl Tryz.call179 (jI (by omega)) [] rfl [] rfl ?_)
  rintro _ _ _ ⟨v2,rfl,rfl,rfl⟩
  refine aD (fun m=>(m.own 0 rfl).slice) ?_
  rintro⟨A_x,c_x,rfl,hc_x⟩
  refine aD (fun m=>(m.ord 0 rfl).2.1) fun hA_x=> ?_
  refine aT (fun w m=>m.bQ 1 rfl (show _=aG 5 1 (.slice (some ⟨g17,0,none⟩) 2 2) 2 (aR [76,1])from rfl)) ?_
  refine hx (bL 0 rfl rfl rfl Tryz.underlying27 Tryz.underlying27 (by exact .inl rfl) fb rfl (fun m=>Src.b7 (m.ord 1 rfl)) aS (by unfold maxLen;omega) (by omega) (fun u=> ?_))
  refine aD (fun m=>(m.own 0 rfl).slice) ?_
  rintro⟨A_b17,c_b17,rfl,hc_b17⟩
  refine aD (fun m=>(m.ord 0 rfl).2.1) fun hA_b17=> ?_
  refine hy (fun _=>ab rfl)<|ai<|al (ρ' :=[(6,_),(4,_),(3,_),(14,_),(5,_),(2,_),(0,_)]) ⟨rfl,rfl,rfl,rfl,rfl,rfl,rfl,trivial⟩<|ak (X' :=[_,_,_]) (S' :=[_]) (fun _ m=>m)<|ag<|ah<|aj<|hy (fun _=>aa rfl)<|hy (fun _=>aa rfl)<| ?_
  refine hx (bL 0 rfl rfl rfl Tryz.underlying27 Tryz.underlying27 (by exact .inl rfl) fb rfl (fun m=>Src.b7 (m.ord 2 rfl)) aS (by unfold maxLen;omega) (by omega) (fun u2=> ?_))
  refine aD (fun m=>(m.own 0 rfl).slice) ?_
  rintro⟨A_b172,c_b172,rfl,hc_b17⟩
  refine aD (fun m=>(m.ord 0 rfl).2.1) fun hA_b17=> ?_
  refine hy (fun _=>ab rfl)<|ai<|al (ρ' :=[(6,_),(4,_),(3,_),(14,_),(5,_),(2,_),(0,_)]) ⟨rfl,rfl,rfl,rfl,rfl,rfl,rfl,trivial⟩<|ak (X' :=[_,_,_]) (S' :=[_]) (fun _ m=>m)<|ag<|ah<|aj<|hy (fun _=>aa rfl)<|hy (fun _=>aa rfl)<| ?_
  refine hx (aq rfl Tryz.call180 (o1 (by omega)) [] rfl [0] rfl ?_)
  rintro _ _ _ ⟨rfl,rfl,rfl⟩
  refine hx (aq rfl Tryz.call179 (jI (by omega)) [] rfl [] rfl ?_)
  rintro _ _ _ ⟨v3,rfl,rfl,rfl⟩
  refine aD (fun m=>(m.own 0 rfl).slice) ?_
  rintro⟨A_x2,c_x2,rfl,hc_x2⟩
  refine aD (fun m=>(m.ord 0 rfl).2.1) fun hA_x2=> ?_
  refine hx (bL 1 rfl rfl rfl Tryz.underlying27 Tryz.underlying27 (by exact .inl rfl) fb rfl (fun m=>Src.b7 (m.ord 0 rfl)) aS (by unfold maxLen;omega) (by omega) (fun u3=> ?_))
  refine aD (fun m=>(m.own 0 rfl).slice) ?_
  rintro⟨A_b173,c_b173,rfl,hc_b17⟩
  refine aD (fun m=>(m.ord 0 rfl).2.1) fun hA_b17=> ?_
  refine hy (fun _=>ab rfl)<|ai<|al (ρ' :=[(2,_),(6,_),(4,_),(3,_),(14,_),(5,_),(0,_)]) ⟨rfl,rfl,rfl,rfl,rfl,rfl,rfl,trivial⟩<|ak (X' :=[_,_,_,_]) (S' :=[_]) (fun _ m=>m)<|ag<|aX<| ?_
  have hol:2+4+(eD l).length+4=(bE l).length:=by rw[hq];simp[fl,hl];try omega
  rw[hol]
  have hsl:aR [76,1]++aR (gy n)++aR (eD l)++aR (gy (cQ l))=aR (bE l):=by rw[hq,hl,bx,bx,bx]
  rw[hsl]
  exact bf trivial rfl rfl [0] rfl [] rfl ⟨_,rfl,rfl,rfl⟩
 ·have hq:bE l=[76,0]++gy l.length++l++gy (cQ l):=by
   have:vn l=false:=by unfold vn;exact decide_eq_false (by omega)
   unfold bE iz
   rw[this];rfl
  refine aC<|ag<|ah<|aj<|hy (fun _=>aa rfl)<| ?_
  refine hx (bY Tryz.underlying27 fb rfl rfl rfl (by simp[Value.cells,B8]) (by decide) (by decide) (fun g17=> ?_))
  have hA_b17:0<2→(some (⟨g17,0,none⟩:Addr))≠none:=fun _ h=>by cases h
  refine hy (fun _=>aa rfl)<|hy (fun _=>aU rfl Tryz.underlying27)<|hy (fun _=>bW rfl Tryz.underlying3 Tryz.underlying166 (wW (by omega) (by omega)))<| ?_
  refine hx (aq rfl Tryz.call179 (jI (by omega)) [] rfl [] rfl ?_)
  rintro _ _ _ ⟨v2,rfl,rfl,rfl⟩
  refine aD (fun m=>(m.own 0 rfl).slice) ?_
  rintro⟨A_x,c_x,rfl,hc_x⟩
  refine aD (fun m=>(m.ord 0 rfl).2.1) fun hA_x=> ?_
  refine aT (fun w m=>m.bQ 1 rfl (show _=aG 5 1 (.slice (some ⟨g17,0,none⟩) 2 2) 2 (aR [76,0])from rfl)) ?_
  refine hx (bL 0 rfl rfl rfl Tryz.underlying27 Tryz.underlying27 (by exact .inl rfl) fb rfl (fun m=>Src.b7 (m.ord 1 rfl)) aS (by unfold maxLen;omega) (by omega) (fun u=> ?_))
  refine aD (fun m=>(m.own 0 rfl).slice) ?_
  rintro⟨A_b17,c_b17,rfl,hc_b17⟩
  refine aD (fun m=>(m.ord 0 rfl).2.1) fun hA_b17=> ?_
  refine hy (fun _=>ab rfl)<|ai<|al (ρ' :=[(6,_),(14,_),(5,_),(4,_),(3,_),(2,_),(0,_)]) ⟨rfl,rfl,rfl,rfl,rfl,rfl,rfl,trivial⟩<|ak (X' :=[_,_,_]) (S' :=[_]) (fun _ m=>m)<|ag<|ah<|aj<|hy (fun _=>aa rfl)<|hy (fun _=>aa rfl)<| ?_
  refine hx (bL 0 rfl rfl rfl Tryz.underlying27 Tryz.underlying27 (by exact .inl rfl) fb rfl (fun m=>Src.b7 (m.rd 0 rfl)) aS (by unfold maxLen;omega) (by omega) (fun u2=> ?_))
  refine aD (fun m=>(m.own 0 rfl).slice) ?_
  rintro⟨A_b172,c_b172,rfl,hc_b17⟩
  refine aD (fun m=>(m.ord 0 rfl).2.1) fun hA_b17=> ?_
  refine hy (fun _=>ab rfl)<|ai<|al (ρ' :=[(6,_),(14,_),(5,_),(4,_),(3,_),(2,_),(0,_)]) ⟨rfl,rfl,rfl,rfl,rfl,rfl,rfl,trivial⟩<|ak (X' :=[_,_,_]) (S' :=[_]) (fun _ m=>m)<|ag<|ah<|aj<|hy (fun _=>aa rfl)<|hy (fun _=>aa rfl)<| ?_
  refine hx (aq rfl Tryz.call180 (o1 (by omega)) [] rfl [0] rfl ?_)
  rintro _ _ _ ⟨rfl,rfl,rfl⟩
  refine hx (aq rfl Tryz.call179 (jI (by omega)) [] rfl [] rfl ?_)
  rintro _ _ _ ⟨v3,rfl,rfl,rfl⟩
  refine aD (fun m=>(m.own 0 rfl).slice) ?_
  rintro⟨A_x2,c_x2,rfl,hc_x2⟩
  refine aD (fun m=>(m.ord 0 rfl).2.1) fun hA_x2=> ?_
  refine hx (bL 1 rfl rfl rfl Tryz.underlying27 Tryz.underlying27 (by exact .inl rfl) fb rfl (fun m=>Src.b7 (m.ord 0 rfl)) aS (by unfold maxLen;omega) (by omega) (fun u3=> ?_))
  refine aD (fun m=>(m.own 0 rfl).slice) ?_
  rintro⟨A_b173,c_b173,rfl,hc_b17⟩
  refine aD (fun m=>(m.ord 0 rfl).2.1) fun hA_b17=> ?_
  refine hy (fun _=>ab rfl)<|ai<|al (ρ' :=[(2,_),(6,_),(14,_),(5,_),(4,_),(3,_),(0,_)]) ⟨rfl,rfl,rfl,rfl,rfl,rfl,rfl,trivial⟩<|ak (X' :=[_,_,_,_]) (S' :=[_]) (fun _ m=>m)<|ag<|aX<| ?_
  have hol:2+4+n+4=(bE l).length:=by rw[hq];simp[fl,hl];try omega
  rw[hol]
  have hsl:aR [76,0]++aR (gy n)++aR l++aR (gy (cQ l))=aR (bE l):=by rw[hq,hl,bx,bx,bx]
  rw[hsl]
  exact bf trivial rfl rfl [0] rfl [] rfl ⟨_,rfl,rfl,rfl⟩
theorem lG{f:List UInt8}(h:f.length<10∨f.getD 0 0≠76∨1<(f.getD 1 0).toNat):gR f=none:=by unfold gR;rw[if_pos h]
theorem xM{f:List UInt8}(h:¬(f.length<10∨f.getD 0 0≠76∨1<(f.getD 1 0).toNat)):gR f=some (k0 (f.drop 2)):=by unfold gR;rw[if_neg h]
theorem sk{A:Option Addr}{n c:Nat}{f:List UInt8}(hc:n≤c)(hn:n≤1000000000)(hl:f.length=n):cj Tryz.prog 211 [.slice A n c] [] [cV 1 A n (aR f)] (fun v_ X_ S_=>v_=(.tuple #[.int .i64 (((gR f).getD 0:Nat):Int),.int .i64 (if(gR f).isSome then 0 else 2)])∧X_=[]∧S_=[]):=by
 have b0:=(f.getD 0 0).toNat_lt
 have b1:=(f.getD 1 0).toNat_lt
 refine aQ (N:=34) Tryz.func211 rfl rfl (by simp) fun b=> ?_
 refine aY (fun m=>ig (m.rd 0 rfl)) ?_
 rintro⟨hl_r,hA_r⟩
 refine ah<|aj<|hy (fun _=>ab rfl)<|hy (fun _=>ab rfl)<|ai<|ag<|ah<|ah<|aj<|hy (fun _=>aa rfl)<|hy (fun _=>aU rfl Tryz.underlying27)<|hy (fun _=>bu rfl rfl)<|hy (fun _=>aa rfl)<| ?_
 refine eN 9 rfl (fun h1=> ?_) (fun h1=> ?_)
 ·refine bD rfl rfl rfl (by decide)<|bD rfl rfl rfl (by decide)<|bD rfl rfl rfl (by decide)<|bD rfl rfl rfl (by decide)<|hy (fun _=>bX rfl rfl)<|hy (fun _=>aa rfl)<| ?_
  rw[lG (.inl (by omega))]
  refine bD rfl rfl rfl (by decide)<|bD rfl rfl rfl (by decide)<|bD rfl rfl rfl (by decide)<|bD rfl rfl rfl (by decide)<|hy (fun _=>bX rfl rfl)<|ai<|al (ρ' :=[(20,_),(3,_),(2,_),(0,_)]) ⟨rfl,rfl,rfl,rfl,trivial⟩<|ag<| ?_
  refine ic rfl (rfl) ?_
  refine ah<|aj<|hy (fun _=>ab rfl)<|hy (fun _=>ab rfl)<|ai<|ag<|aX<|ax<| ?_
  exact dy trivial rfl rfl rfl [] rfl [] rfl ⟨rfl,rfl,rfl⟩
 ·refine dU (o:=_) rfl rfl rfl (fun _=>aa rfl)<|dU (o:=_) rfl rfl rfl (fun _=>aO rfl rfl Tryz.underlying27 ek hA_r (show((0:Nat):Int)=0 from rfl) (by omega))<|dU (o:=_) rfl rfl rfl (fun m=>aw rfl jL ((m.rd 0 rfl).cell (bM (by omega))))<|dU (o:=_) rfl rfl rfl (fun _=>dP rfl rfl)<|hy (fun _=>bP rfl rfl)<|hy (fun _=>aa rfl)<| ?_
  refine eN 15 rfl (fun h2=> ?_) (fun h2=> ?_)
  ·rw[lG (.inr (.inl (fun e=>h2 (by rw[e];rfl))))]
   refine bD rfl rfl rfl (by decide)<|bD rfl rfl rfl (by decide)<|bD rfl rfl rfl (by decide)<|bD rfl rfl rfl (by decide)<|hy (fun _=>bX rfl rfl)<|ai<|al (ρ' :=[(20,_),(3,_),(2,_),(0,_)]) ⟨rfl,rfl,rfl,rfl,trivial⟩<|ag<| ?_
   refine ic rfl (rfl) ?_
   refine ah<|aj<|hy (fun _=>ab rfl)<|hy (fun _=>ab rfl)<|ai<|ag<|aX<|ax<| ?_
   exact dy trivial rfl rfl rfl [] rfl [] rfl ⟨rfl,rfl,rfl⟩
  ·refine dU (o:=_) rfl rfl rfl (fun _=>aa rfl)<|dU (o:=_) rfl rfl rfl (fun _=>aO rfl rfl Tryz.underlying27 ek hA_r (show((1:Nat):Int)=1 from rfl) (by omega))<|dU (o:=_) rfl rfl rfl (fun m=>aw rfl jL ((m.rd 0 rfl).cell (bM (by omega))))<|dU (o:=_) rfl rfl rfl (fun _=>cY rfl rfl)<|hy (fun _=>bP rfl rfl)<|ai<|al (ρ' :=[(20,_),(3,_),(2,_),(0,_)]) ⟨rfl,rfl,rfl,rfl,trivial⟩<|ag<| ?_
   refine cD rfl (fun h3=> ?_) (fun h3=> ?_)
   ·rw[lG (.inr (.inr (by omega)))]
    refine ah<|aj<|hy (fun _=>ab rfl)<|hy (fun _=>ab rfl)<|ai<|ag<|aX<|ax<| ?_
    exact dy trivial rfl rfl rfl [] rfl [] rfl ⟨rfl,rfl,rfl⟩
   ·have h2' :f.getD 0 0=76:=UInt8.toNat_inj.1 (by have:=Decidable.not_not.1 h2;show _=76;omega)
    rw[xM (by rintro(q|q|q);omega;exact q h2';omega)]
    refine aC<|ag<|ah<|aj<|hy (fun _=>ab rfl)<|ai<|ag<|ah<|ah<|aj<|hy (fun _=>ab rfl)<|ai<|ag<|aI<| ?_
    refine dD (fun j=>4-j) (fun j=>[(4,.int .i64 ((acc ((f.drop 2).take 4) j:Nat):Int)),(5,.int .i64 (5-(j:Int)))]) (fun j=>[]) (fun j=>[]) (fun j=>j≤4) 0 [(20,_),(3,_),(2,_),(0,_)] ⟨rfl,rfl,rfl,rfl,trivial⟩ [] rfl [] rfl (Nat.zero_le _) ⟨rfl,rfl,trivial⟩ (fun j hI=> ?_)
    refine ah<|ah<|aj<|hy (fun _=>aa rfl)<|hy (fun _=>cY rfl rfl)<|ai<|al (ρ' :=[(22,_),(4,_),(5,_),(20,_),(3,_),(2,_),(0,_)]) ⟨rfl,rfl,rfl,rfl,rfl,rfl,rfl,trivial⟩<|ag<| ?_
    refine cD rfl (fun hj=> ?_) (fun hj=> ?_)
    ·have hl4:((f.drop 2).take 4).length=4:=by rw[List.length_take,List.length_drop];omega
     have hac:=EX ((f.drop 2).take 4) (show j≤4 by omega)
     have hby:(((f.drop 2).take 4).getD (3-j) 0).toNat<256:=UInt8.toNat_lt _
     have hget:f.getD (5-j) 0=((f.drop 2).take 4).getD (3-j) 0:=by
      simp only[List.getD,List.getElem?_take,List.getElem?_drop]
      rw[if_pos (by omega),show 2+(3-j)=5-j by omega]
     refine aC<|ag<|ah<|aI<|aj<|hy (fun _=>aa rfl)<|hy (fun _=>s5 (p:=256) rfl rfl (by decide) (by decide) (by decide) (bC (by omega) (by omega)))<|hy (fun _=>aa rfl)<|hy (fun _=>aa rfl)<|hy (fun _=>aO rfl rfl Tryz.underlying27 ek hA_r (show((5-j:Nat):Int)=_ by omega) (by omega))<|hy (fun m=>yV (aw rfl jL ((m.rd 0 rfl).cell (bM (by omega)))) ((show B8 (f.getD (5-j) 0)=B8 (((f.drop 2).take 4).getD (3-j) 0) by rw[hget])))<|hy (fun _=>bW rfl Tryz.underlying5 Tryz.underlying3 (Bc _))<|hy (fun _=>gO (by simp) rfl rfl (CK _ _ hac hby))<|hy (fun _=>ab rfl)<|ai<|al (ρ' :=[(4,_),(22,_),(5,_),(20,_),(3,_),(2,_),(0,_)]) ⟨rfl,rfl,rfl,rfl,rfl,rfl,rfl,trivial⟩<|aM<|ag<|aj<|hy (fun _=>aa rfl)<|hy (fun _=>yV (cw rfl rfl (bC (by omega) (by omega))) ((show Value.int .i64 ((5-(j:Int))-1)= .int .i64 (5-((j+1:Nat):Int)) by congr 1;omega)))<|hy (fun _=>ab rfl)<|ai<|al (ρ' :=[(5,_),(4,_),(22,_),(20,_),(3,_),(2,_),(0,_)]) ⟨rfl,rfl,rfl,rfl,rfl,rfl,rfl,trivial⟩<| ?_
     refine cR (j+1) ⟨rfl,rfl,rfl,rfl,rfl,rfl,trivial⟩ [] rfl [0] rfl (by omega) (by omega)
    ·obtain rfl:j=4:=by omega
     have e4:acc ((f.drop 2).take 4) 4=k0 (f.drop 2):=by
      rw[GU]
      have hx:∀q:Nat,q<4→((f.drop 2).take 4).getD q 0=(f.drop 2).getD q 0:=fun q hq=>by simp only[List.getD,List.getElem?_take,if_pos hq]
      unfold k0
      rw[hx 0 (by decide),hx 1 (by decide),hx 2 (by decide),hx 3 (by decide)]
     rw[e4]
     refine bK<|ao<|ao<|aB<|ag<|ah<|aj<|hy (fun _=>aa rfl)<|hy (fun _=>ab rfl)<|hy (fun _=>ab rfl)<|ai<|al (ρ' :=[(3,_),(2,_),(22,_),(4,_),(5,_),(20,_),(0,_)]) ⟨rfl,rfl,rfl,rfl,rfl,rfl,rfl,trivial⟩<|ag<|aX<| ?_
     exact dy trivial rfl rfl rfl [] rfl [] rfl ⟨rfl,rfl,rfl⟩
theorem CZ{A:Option Addr}{n c:Nat}{f:List UInt8}(hc:n≤c)(hn:n≤1000000000)(hl:f.length=n):cj Tryz.prog 213 [.slice A n c] [] [cV 1 A n (aR f)] (fun v_ X_ S_=>v_=(.bool (decide ((gR f).isSome∧f.getD 1 0=1)))∧X_=[]∧S_=[]):=by
 refine aQ (N:=18) Tryz.func213 rfl rfl (by simp) fun b=> ?_
 refine aY (fun m=>ig (m.rd 0 rfl)) ?_
 rintro⟨hl_r,hA_r⟩
 refine ah<|aj<|hy (fun _=>ab rfl)<|ai<|ag<|ah<|aj<|hy (fun _=>aa rfl)<| ?_
 refine hx (aq rfl Tryz.call211 (sk (by omega) (by omega) (by omega)) [] rfl [0] rfl ?_)
 rintro _ _ _ ⟨rfl,rfl,rfl⟩
 refine hy (fun _=>aa rfl)<|hy (fun _=>au rfl rfl)<|hy (fun _=>au rfl rfl)<|hy (fun _=>ab rfl)<|hy (fun _=>ab rfl)<|ai<|al (ρ' :=[(4,_),(2,_),(0,_)]) ⟨rfl,rfl,rfl,trivial⟩<|ak (X' :=[]) (S' :=[_]) (fun _ m=>m)<|ag<|ah<|aj<|hy (fun _=>aa rfl)<|hy (fun _=>cM rfl rfl)<|hy (fun _=>aa rfl)<| ?_
 refine eN 12 rfl (fun hs=> ?_) (fun hs=> ?_)
 ·have hs1:(gR f).isSome=true:=by
   cases h:(gR f).isSome with
   |true=>rfl
   |false=>rw[h]at hs;exact absurd hs (by decide)
  have hn10:¬n<10:=fun h=>by rw[lG (.inl (by omega))]at hs1;cases hs1
  have hd:decide ((gR f).isSome∧f.getD 1 0=1)=decide (((f.getD 1 0).toNat:Int)=1):=decide_eq_decide.2 ⟨fun h=>by rw[h.2];rfl,fun h=>⟨hs1,UInt8.toNat_inj.1 (by show _=1;omega)⟩⟩
  rw[hd]
  refine dU (o:=_) rfl rfl rfl (fun _=>aa rfl)<|dU (o:=_) rfl rfl rfl (fun _=>aO rfl rfl Tryz.underlying27 ek hA_r (show((1:Nat):Int)=1 from rfl) (by omega))<|dU (o:=_) rfl rfl rfl (fun m=>aw rfl jL ((m.rd 0 rfl).cell (bM (by omega))))<|dU (o:=_) rfl rfl rfl (fun _=>cM rfl rfl)<|hy (fun _=>bX rfl rfl)<|hy (fun _=>ab rfl)<|ai<|al (ρ' :=[(2,_),(4,_),(0,_)]) ⟨rfl,rfl,rfl,trivial⟩<|ag<|aX<| ?_
  exact bf trivial rfl rfl [] rfl [] rfl ⟨rfl,rfl,rfl⟩
 ·have hd:decide ((gR f).isSome∧f.getD 1 0=1)=false:=decide_eq_false fun h=>hs (by rw[h.1];rfl)
  rw[hd]
  refine bD rfl rfl rfl (by decide)<|bD rfl rfl rfl (by decide)<|bD rfl rfl rfl (by decide)<|bD rfl rfl rfl (by decide)<|hy (fun _=>bP rfl rfl)<|hy (fun _=>ab rfl)<|ai<|al (ρ' :=[(2,_),(4,_),(0,_)]) ⟨rfl,rfl,rfl,trivial⟩<|ag<|aX<| ?_
  exact bf trivial rfl rfl [] rfl [] rfl ⟨rfl,rfl,rfl⟩
end Go.Proofs.YtmibdabdlgmafaaGreatDoor
end
section
set_option maxRecDepth 20000
set_option maxHeartbeats 2000000
namespace Go.Proofs.YtmibdabdlgmafaaGreatDoor
open Go.Eng Go.Hx
theorem FI{v:Value}(h:v.oneCell' =true:=by rfl):∀u∈ [v],u.oneCell' =true:=fun u hu=>by rw[List.mem_singleton.1 hu];exact h
theorem ox{q:Bool}{e:Int}:EZ Tryz.prog 212 [.bool q,.int .i64 e] [] [] (fun v_ X_ S_=>v_=(.tuple #[])∧X_=[]∧S_=[]∧(q=true)) (fun v_ X_ S_=>v_=(.iface 288 (.agg #[.int .i64 e]))∧X_=[]∧S_=[]∧(q=false)):=by
 refine C0 (N:=9) Tryz.func212 rfl rfl (by simp) fun b=> ?_
 refine ah<|aj<|hy (fun _=>aa rfl)<|hy (fun _=>(kE rfl))<|ai<|al (ρ' :=[(5,_),(0,_),(1,_)]) ⟨rfl,rfl,rfl,trivial⟩<|ag<| ?_
 refine xf rfl (fun hq=> ?_) (fun hq=> ?_)
 ·refine aj<|hy (fun _=>aa rfl)<|hy (fun _=>cy v8 rfl rfl (by kernel_rfl) (.cons (o:=0) (sz:=1) (by kernel_rfl) rfl rfl (Nat.le_of_ble_eq_true rfl) .nil))<|hy (fun _=>kv rfl Tryz.underlying288 (fun _ h=>by cases h))<| ?_
  refine cJ (Aw rfl ?_)
  exact Ga [] rfl [] rfl ⟨rfl,rfl,rfl,(by simpa using hq)⟩
 ·refine aC<| ?_
  refine Gt ?_
  exact fD trivial rfl [] rfl [] rfl ⟨rfl,rfl,rfl,(by simpa using hq)⟩
theorem gp{g4 g5:Nat}{v:Value}{e0 e:Int}:Bl Tryz.prog 210 [.pointer (some ⟨g4,0,none⟩),.pointer (some ⟨g5,0,none⟩)] (.panicking (Gr (.iface 288 (.agg #[.int .i64 e])))) [aL g4 27 [v],aL g5 47 [.int .i64 e0]] [] (fun u_ X_ S_=>u_= .returning∧X_=[aL g4 27 [.slice none 0 0],aL g5 47 [.int .i64 e]]∧S_=[]):=by
 refine vO (N:=12) Tryz.func210 rfl rfl (by simp) fun b c_0 cs_ hu_=> ?_
 show uE _ _ _ _ _ [0,1,2,3,4,5,6,7] _ _ _ _ _
 refine B9 rfl hu_ ?_
 refine lT rfl (fun _=>mN rfl (zS Tryz.underlying288))<|lT rfl (fun _=>aa rfl)<|lT rfl (fun _=>au rfl rfl)<|lT rfl (fun _=>au rfl rfl)<| ?_
 refine Dn rfl (aP v8 (fun g2=> ?_))
 refine AU rfl (aK 0 rfl rfl rfl Dq rfl FI rfl ?_)
 refine D5 (fun w m=>m.bQ 0 rfl (show _=aL g2 288 [.int .i64 e]from rfl)) ?_
 refine lT rfl (fun _=>ab rfl)<|sZ<|bw (X' :=[_,_,_]) (S' :=[]) (fun _ m=>m)<|ah<|aj<|hy (fun _=>aa rfl)<|ai<|al (ρ' :=[(9,_),(3,_),(2,_),(0,_),(1,_)]) ⟨rfl,rfl,rfl,rfl,rfl,trivial⟩<|ag<| ?_
 refine ic rfl (rfl) ?_
 refine oC [0] [] rfl rfl [2,3] [(0,some 1),(1,some 1),(2,none),(3,none)] (by kernel_rfl) (by kernel_rfl) rfl 99<|an (aH rfl CS (by decide))<|ca (fun m=>aw rfl lK (aA (m.aZ 0 rfl) (i:=0) rfl))<| ?_
 refine kr (dH 1 rfl rfl rfl oO rfl (by first|exact Nat.le_of_ble_eq_true rfl|simp) ⟨(fun _=>wk [1] [] rfl rfl), ?_⟩)
 refine kr (dH 2 rfl rfl rfl xD rfl (by first|exact Nat.le_of_ble_eq_true rfl|simp) ⟨(fun _=>wk [2] [] rfl rfl), ?_⟩)
 refine br<|al (ρ' :=[(9,_),(3,_),(2,_),(0,_),(1,_)]) ⟨rfl,rfl,rfl,rfl,rfl,trivial⟩<|ak (X' :=[_,_,_]) (S' :=[]) (fun _ m=>m)<| ?_
 exact fD trivial rfl [1,0] rfl [] rfl ⟨rfl,rfl,rfl,rfl⟩
theorem uf{g4 g5:Nat}{v:Value}{e:Int}:Bl Tryz.prog 210 [.pointer (some ⟨g4,0,none⟩),.pointer (some ⟨g5,0,none⟩)] .returning [aL g4 27 [v],aL g5 47 [.int .i64 e]] [] (fun u_ X_ S_=>u_= .returning∧X_=[aL g4 27 [v],aL g5 47 [.int .i64 e]]∧S_=[]):=by
 refine vO (N:=12) Tryz.func210 rfl rfl (by simp) fun b c_0 cs_ hu_=> ?_
 show uE _ _ _ _ _ [0,1,2,3,4,5,6,7] _ _ _ _ _
 refine AN rfl hu_ ?_
 refine lT rfl (fun _=>mN rfl (A9 Tryz.underlying288 v8))<|lT rfl (fun _=>aa rfl)<|lT rfl (fun _=>au rfl rfl)<|lT rfl (fun _=>au rfl rfl)<| ?_
 refine Dn rfl (aP v8 (fun g2=> ?_))
 refine AU rfl (aK 0 rfl rfl rfl Dq rfl FI rfl ?_)
 refine lT rfl (fun _=>ab rfl)<|sZ<|bw (X' :=[_,_,_]) (S' :=[]) (fun _ m=>m)<|ah<|aj<|hy (fun _=>aa rfl)<|ai<|al (ρ' :=[(9,_),(3,_),(2,_),(0,_),(1,_)]) ⟨rfl,rfl,rfl,rfl,rfl,trivial⟩<|ag<| ?_
 refine dL rfl (rfl) ?_
 refine aC<| ?_
 exact fD trivial rfl [1,1] rfl [] rfl ⟨rfl,rfl,rfl,rfl⟩
end Go.Proofs.YtmibdabdlgmafaaGreatDoor
end
section
set_option maxRecDepth 20000
set_option maxHeartbeats 2000000
namespace Go.Proofs.YtmibdabdlgmafaaGreatDoor
open Go.Eng Go.Hx
theorem El{A:Option Addr}{n c:Nat}{l:List UInt8}(h0:0<n)(hn:n≤140737488351232):cj Tryz.prog 257 [.slice A n c] [] [cV 1 A n (aR l)] (fun v_ X_ S_=>v_=(.tuple #[.int .i64 ((cK l).1:Nat),.int .i64 ((cK l).2.1:Nat),.int .i64 ((cK l).2.2.1:Nat),.bool (cK l).2.2.2])∧X_=[]∧S_=[]):=by
 have b0:=(l.getD 0 0).toNat_lt
 have b1:=(l.getD 1 0).toNat_lt
 have b2:=(l.getD 2 0).toNat_lt
 refine aQ (N:=39) Tryz.func257 rfl rfl (by simp) fun b=> ?_
 refine aY (fun m=>ig (m.rd 0 rfl)) ?_
 rintro⟨hl_r,hA_r⟩
 refine ah<|aj<|hy (fun _=>ab rfl)<|hy (fun _=>ab rfl)<|hy (fun _=>ab rfl)<|hy (fun _=>ab rfl)<|ai<|ag<|ah<|aj<|hy (fun _=>aa rfl)<|hy (fun _=>aO rfl rfl Tryz.underlying27 ek hA_r (show((0:Nat):Int)=0 from rfl) (by omega))<|hy (fun m=>aw rfl jL ((m.rd 0 rfl).cell (bM (by omega))))<|hy (fun _=>bW rfl Tryz.underlying5 Tryz.underlying3 (bC (by omega) (by omega)))<|hy (fun _=>ab rfl)<|ai<|al (ρ' :=[(6,_),(5,_),(4,_),(3,_),(2,_),(0,_)]) ⟨rfl,rfl,rfl,rfl,rfl,rfl,trivial⟩<|ag<|ah<|ah<|aj<|hy (fun _=>aa rfl)<|hy (fun _=>bu rfl rfl)<|ai<|al (ρ' :=[(12,_),(6,_),(5,_),(4,_),(3,_),(2,_),(0,_)]) ⟨rfl,rfl,rfl,rfl,rfl,rfl,rfl,trivial⟩<|ag<| ?_
 refine cD rfl (fun h1=> ?_) (fun h1=> ?_)
 ·have e:cK l=((l.getD 0 0).toNat+2,(l.getD 0 0).toNat+1,0,decide ((l.getD 0 0).toNat+2≤l.length)):=by rw[cK,if_pos (by omega)]
  rw[e]
  refine ah<|aj<|hy (fun _=>aa rfl)<|hy (fun _=>aN rfl rfl (bC (by omega) (by omega)))<|hy (fun _=>aa rfl)<|hy (fun _=>aN rfl rfl (bC (by omega) (by omega)))<|hy (fun _=>aa rfl)<|hy (fun _=>aU rfl Tryz.underlying27)<|hy (fun _=>aa rfl)<|hy (fun _=>aN rfl rfl (bC (by omega) (by omega)))<|hy (fun _=>yV (kl rfl rfl) ((congrArg Value.bool (decide_eq_decide.2 (by omega)):Value.bool (decide ((n:Int)≥((l.getD 0 0).toNat:Int)+2))= .bool (decide ((l.getD 0 0).toNat+2≤l.length)))))<|hy (fun _=>ab rfl)<|hy (fun _=>ab rfl)<|hy (fun _=>ab rfl)<|hy (fun _=>ab rfl)<|ai<|al (ρ' :=[(5,_),(4,_),(3,_),(2,_),(12,_),(6,_),(0,_)]) ⟨rfl,rfl,rfl,rfl,rfl,rfl,rfl,trivial⟩<|ag<|aX<|ax<| ?_
  exact Aj trivial rfl rfl rfl rfl rfl [] rfl [] rfl ⟨rfl,rfl,rfl⟩
 ·refine aC<|ag<|ah<|ah<|aj<|hy (fun _=>aa rfl)<|hy (fun _=>aU rfl Tryz.underlying27)<|hy (fun _=>bu rfl rfl)<|ai<|al (ρ' :=[(24,_),(12,_),(6,_),(5,_),(4,_),(3,_),(2,_),(0,_)]) ⟨rfl,rfl,rfl,rfl,rfl,rfl,rfl,rfl,trivial⟩<|ag<| ?_
  refine cD rfl (fun h3=> ?_) (fun h3=> ?_)
  ·have e:cK l=(0,0,0,false):=by rw[cK,if_neg (by omega),if_pos (by omega)]
   rw[e]
   refine ah<|aj<|hy (fun _=>ab rfl)<|hy (fun _=>ab rfl)<|hy (fun _=>ab rfl)<|hy (fun _=>ab rfl)<|ai<|ag<|aX<|ax<| ?_
   exact Aj trivial rfl rfl rfl rfl rfl [] rfl [] rfl ⟨rfl,rfl,rfl⟩
  ·have e:cK l=(3,(l.getD 0 0).toNat-124,1+(l.getD 1 0).toNat+256*(l.getD 2 0).toNat,true):=by rw[cK,if_neg (by omega),if_neg (by omega)]
   rw[e]
   refine aC<|ag<|ah<|cG [] [(0,some 0),(1,some 0),(2,some 0),(3,some 0),(4,some 0),(5,some 0),(6,some 0),(7,some 0),(8,some 0),(9,some 0),(10,some 0),(11,some 0),(12,some 0),(13,some 0),(14,some 0),(15,some 0),(16,some 0),(17,some 0)] (by kernel_rfl) (by kernel_rfl) rfl 99<|an (aa rfl)<|an (cw rfl rfl (bC (by omega) (by omega)))<|an (yV (aN rfl rfl (bC (by omega) (by omega))) ((show Value.int .i64 (((l.getD 0 0).toNat:Int)-128+4)= .int .i64 (((l.getD 0 0).toNat-124:Nat):Int) by congr 1;omega)))<|an (aa rfl)<|an (aO rfl rfl Tryz.underlying27 ek hA_r (show((1:Nat):Int)=1 from rfl) (by omega))<|ca (fun m=>aw rfl jL ((m.rd 0 rfl).cell (bM (by omega))))<|an (bW rfl Tryz.underlying5 Tryz.underlying3 (bC (by omega) (by omega)))<|an (aN rfl rfl (bC (by omega) (by omega)))<|an (aa rfl)<|an (aO rfl rfl Tryz.underlying27 ek hA_r (show((2:Nat):Int)=2 from rfl) (by omega))<|ca (fun m=>aw rfl jL ((m.rd 0 rfl).cell (bM (by omega))))<|an (bW rfl Tryz.underlying5 Tryz.underlying3 (bC (by omega) (by omega)))<|an (s5 (p:=256) rfl rfl (by decide) (by decide) (by decide) (bC (by omega) (by omega)))<|an (yV (aN rfl rfl (bC (by omega) (by omega))) ((show Value.int .i64 (1+((l.getD 1 0).toNat:Int)+((l.getD 2 0).toNat:Int)*256)= .int .i64 ((1+(l.getD 1 0).toNat+256*(l.getD 2 0).toNat:Nat):Int) by congr 1;omega)))<|an (ab rfl)<|an (ab rfl)<|an (ab rfl)<|an (ab rfl)<|br<|al (ρ' :=[(5,_),(4,_),(3,_),(2,_),(24,_),(12,_),(6,_),(0,_)]) ⟨rfl,rfl,rfl,rfl,rfl,rfl,rfl,rfl,trivial⟩<|ag<|aX<| ?_
   exact Aj trivial rfl rfl rfl rfl rfl [] rfl [] rfl ⟨rfl,rfl,rfl⟩
theorem BK{A:Option Addr}{c:Nat}{l:List UInt8}{z:Int}(hc:l.length≤c)(hn:l.length≤10000000)(hz:z≤10000000):cj Tryz.prog 214 [.slice A l.length c,.int .i64 z] [] [cV 1 A l.length (aR l)] (fun v_ X_ S_=>∃v,v_=(.tuple #[v,.int .i64 (jM z l []).2])∧X_=[aG 5 1 v (jM z l []).1.length (aR (jM z l []).1)]∧S_=[]):=by
 refine aQ (N:=66) Tryz.func214 rfl rfl (by simp) fun b=> ?_
 refine aY (fun m=>ig (m.rd 0 rfl)) ?_
 rintro⟨hl_r,hA_r⟩
 refine ah<|aj<|hy (fun _=>ab rfl)<|hy (fun _=>ab rfl)<|ai<|ag<|ah<|aj<|hy (fun _=>ab rfl)<|ai<|ag<|ah<|aI<| ?_
 refine bw (fun w m=>m.dG (r' :=aG 5 1 (.slice none 0 0) 0 []) (.refl _ _) (Own.nil _ _ _ _) (fun k hk=>hk.elim)) ?_
 refine nP (fun p o A2 c2 A3 c3=>p.length) (fun p o A2 c2 A3 c3=>[(0,.slice A2 p.length c2),(6,.slice A3 o.length c3)]) (fun p o A2 c2 A3 c3=>[aG 5 1 (.slice A3 o.length c3) o.length (aR o)]) (fun p o A2 c2 A3 c3=>[cV 1 A2 p.length (aR p)]) (fun p o A2 c2 A3 c3=>p.length≤c2∧p.length≤10000000∧o.length≤10000000∧jM z p o=jM z l []) l [] A c none 0 [(1,_)] ⟨rfl,trivial⟩ [0] rfl [0] rfl (⟨hc,hn,by decide,rfl⟩) ⟨rfl,rfl,trivial⟩ (fun p o A2 c2 A3 c3 ⟨hpc,hpn,hon,hU⟩=> ?_)
 refine ah<|ah<|aj<|hy (fun _=>aa rfl)<|hy (fun _=>aU rfl Tryz.underlying27)<|hy (fun _=>cY rfl rfl)<|ai<|al (ρ' :=[(14,_),(0,_),(6,_),(1,_)]) ⟨rfl,rfl,rfl,rfl,trivial⟩<|ag<| ?_
 refine cD rfl (fun hlt=> ?_) (fun hlt=> ?_)
 ·have hp0:p≠ []:=fun e=>by rw[e]at hlt;exact absurd hlt (by decide)
  obtain⟨ht1,ht2⟩:=DU p
  refine aC<|ag<|aI<|ah<|aj<|hy (fun _=>aa rfl)<| ?_
  refine hx (aq rfl Tryz.call257 (El (by omega) (by omega)) [] rfl [0] rfl ?_)
  rintro _ _ _ ⟨rfl,rfl,rfl⟩
  refine hy (fun _=>aa rfl)<|hy (fun _=>au rfl rfl)<|hy (fun _=>au rfl rfl)<|hy (fun _=>au rfl rfl)<|hy (fun _=>au rfl rfl)<|hy (fun _=>ab rfl)<|hy (fun _=>ab rfl)<|hy (fun _=>ab rfl)<|hy (fun _=>ab rfl)<|ai<|al (ρ' :=[(10,_),(9,_),(8,_),(7,_),(14,_),(0,_),(6,_),(1,_)]) ⟨rfl,rfl,rfl,rfl,rfl,rfl,rfl,rfl,trivial⟩<|ak (X' :=[_]) (S' :=[_,_]) (fun _ m=>m)<|ag<|ah<|ah<|aj<|hy (fun _=>aa rfl)<|hy (fun _=>(kE rfl))<|hy (fun _=>aa rfl)<| ?_
  refine C4 24 rfl (fun hw=> ?_) (fun hw=> ?_)
  ·rw[lC hp0 (fun h=>by rw[h.1]at hw;cases hw)]at hU
   rw[←hU]
   refine bD rfl rfl rfl (by decide)<|bD rfl rfl rfl (by decide)<|bD rfl rfl rfl (by decide)<|bD rfl rfl rfl (by decide)<|hy (fun _=>bX rfl rfl)<|ai<|al (ρ' :=[(29,_),(10,_),(9,_),(8,_),(7,_),(14,_),(0,_),(6,_),(1,_)]) ⟨rfl,rfl,rfl,rfl,rfl,rfl,rfl,rfl,rfl,trivial⟩<|ag<| ?_
   refine ic rfl (rfl) ?_
   refine ah<|aj<|hy (fun _=>ab rfl)<|hy (fun _=>ab rfl)<|ai<|ag<|aX<|ax<|a8<|ax<|a8<|ax<| ?_
   refine ak (fun w m=>m.dG (r' :=aG 5 1 (.slice none 0 0) 0 []) (.refl _ _) (Own.nil _ _ _ _) (fun k hk=>hk.elim)) ?_
   exact dy trivial rfl rfl rfl [0] rfl [] rfl ⟨_,rfl,rfl,rfl⟩
  ·have hw1:(cK p).2.2.2=true:=by simpa using hw
   refine dU (o:=_) rfl rfl rfl (fun _=>aa rfl)<|dU (o:=_) rfl rfl rfl (fun _=>aa rfl)<|dU (o:=_) rfl rfl rfl (fun _=>aU rfl Tryz.underlying27)<|dU (o:=_) rfl rfl rfl (fun _=>cY rfl rfl)<|hy (fun _=>bP rfl rfl)<|ai<|al (ρ' :=[(29,_),(10,_),(9,_),(8,_),(7,_),(14,_),(0,_),(6,_),(1,_)]) ⟨rfl,rfl,rfl,rfl,rfl,rfl,rfl,rfl,rfl,trivial⟩<|ag<| ?_
   refine cD rfl (fun hd=> ?_) (fun hd=> ?_)
   ·rw[lC hp0 (fun h=>by omega)]at hU
    rw[←hU]
    refine ah<|aj<|hy (fun _=>ab rfl)<|hy (fun _=>ab rfl)<|ai<|ag<|aX<|ax<|a8<|ax<|a8<|ax<| ?_
    refine ak (fun w m=>m.dG (r' :=aG 5 1 (.slice none 0 0) 0 []) (.refl _ _) (Own.nil _ _ _ _) (fun k hk=>hk.elim)) ?_
    exact dy trivial rfl rfl rfl [0] rfl [] rfl ⟨_,rfl,rfl,rfl⟩
   ·have hd1:(cK p).2.2.1≤o.length:=by omega
    refine aC<|ag<|ah<|ah<|aj<|hy (fun _=>aa rfl)<|hy (fun _=>aU rfl Tryz.underlying27)<|hy (fun _=>aa rfl)<|hy (fun _=>aN rfl rfl (bC (by omega) (by omega)))<|hy (fun _=>aa rfl)<|hy (fun _=>cY rfl rfl)<|ai<|al (ρ' :=[(35,_),(29,_),(10,_),(9,_),(8,_),(7,_),(14,_),(0,_),(6,_),(1,_)]) ⟨rfl,rfl,rfl,rfl,rfl,rfl,rfl,rfl,rfl,rfl,trivial⟩<|ag<| ?_
    refine cD rfl (fun hm=> ?_) (fun hm=> ?_)
    ·rw[o6 hp0 hw1 hd1 (by omega)]at hU
     rw[←hU]
     refine ah<|aj<|hy (fun _=>ab rfl)<|hy (fun _=>ab rfl)<|ai<|ag<|aX<|ax<|a8<|ax<|a8<|ax<| ?_
     refine ak (fun w m=>m.dG (r' :=aG 5 1 (.slice none 0 0) 0 []) (.refl _ _) (Own.nil _ _ _ _) (fun k hk=>hk.elim)) ?_
     exact dy trivial rfl rfl rfl [0] rfl [] rfl ⟨_,rfl,rfl,rfl⟩
    ·rw[nU hp0 hw1 hd1 (by omega)]at hU
     obtain⟨hs2,hs3⟩:=lv hw1
     have hml:=oJ (o:=o) hw1
     have hmn:(made p o).length≤10000000:=by omega
     have hdl:p.length-(cK p).1=(p.drop (cK p).1).length:=by rw[List.length_drop]
     generalize hsz:(cK p).1=sz at hs2 hs3 hU hdl ⊢
     refine aC<|ag<|ah<|ah<|aj<|hy (fun _=>aa rfl)<|hy (fun _=>cM rfl rfl)<|ai<|al (ρ' :=[(37,_),(35,_),(29,_),(10,_),(9,_),(8,_),(7,_),(14,_),(0,_),(6,_),(1,_)]) ⟨rfl,rfl,rfl,rfl,rfl,rfl,rfl,rfl,rfl,rfl,rfl,trivial⟩<|ag<| ?_
     refine cD rfl (fun hz0=> ?_) (fun hz0=> ?_)
     ·have hd0:(cK p).2.2.1=0:=by omega
      have hma:made p o=o++(p.drop 1).take (sz-1):=by rw[made,if_pos hd0,hsz]
      refine bw (fun w m=>m.jN 0 rfl (View.sub (n:=p.length) (c:=c2) (k:=1) (m:=sz-1) (by omega) (by omega))) ?_
      refine aY (fun m=>ig (m.rd 0 rfl)) ?_
      rintro⟨hl_q,hA_q⟩
      refine aj<|hy (fun _=>aa rfl)<|hy (fun _=>aa rfl)<|hy (fun _=>aa rfl)<|hy (fun _=>eG rfl rfl rfl Tryz.underlying27 ek (show((1:Nat):Int)=1 from rfl) (rfl:((sz:Nat):Int)=_) (by omega) (by omega))<| ?_
      refine hx (bL 0 rfl rfl rfl Tryz.underlying27 Tryz.underlying27 (by exact .inl rfl) fb rfl (fun m=>Src.b7 (m.rd 0 rfl)) aS (by unfold maxLen;omega) (by omega) (fun u=> ?_))
      refine aD (fun m=>(m.own 0 rfl).slice) ?_
      rintro⟨A_x,c_x,rfl,hc_x⟩
      refine aD (fun m=>(m.ord 0 rfl).2.1) fun hA_x=> ?_
      have hlm:o.length+(sz-1)=(made p o).length:=by rw[hma,List.length_append,List.length_take,List.length_drop];omega
      rw[hlm]at hc_x hA_x ⊢
      refine aT (fun w m=>m.bQ 0 rfl (show _=aG 5 1 (.slice A_x (made p o).length c_x) (made p o).length (aR (made p o))from congrArg (aG _ _ _ _) (by rw[hma,bx]))) ?_
      refine hy (fun _=>ab rfl)<|ai<|al (ρ' :=[(6,_),(37,_),(35,_),(29,_),(10,_),(9,_),(8,_),(7,_),(14,_),(0,_),(1,_)]) ⟨rfl,rfl,rfl,rfl,rfl,rfl,rfl,rfl,rfl,rfl,rfl,trivial⟩<|ak (X' :=[_]) (S' :=[_,_,_]) (fun _ m=>m)<|ag<|ah<|ah<|aj<|hy (fun _=>ab rfl)<|ai<|ag<|aI<| ?_
      refine dD (fun k2=>1) (fun k2=>[(11,.int .i64 (k2:Nat)),(6,.slice A_x (made p o).length c_x)]) (fun k2=>[aG 5 1 (.slice A_x (made p o).length c_x) (made p o).length (aR (made p o))]) (fun k2=>[]) (fun k2=>True) 0 [(37,_),(35,_),(29,_),(10,_),(9,_),(8,_),(7,_),(14,_),(0,_),(1,_)] ⟨rfl,rfl,rfl,rfl,rfl,rfl,rfl,rfl,rfl,rfl,trivial⟩ [0] rfl [] rfl (trivial) ⟨rfl,rfl,trivial⟩ (fun k2 _=> ?_)
      refine ah<|ah<|aj<|hy (fun _=>aa rfl)<|hy (fun _=>yF (cY rfl rfl) ((decide_eq_false (by omega))))<|hy (fun _=>aa rfl)<|bD rfl rfl rfl (by decide)<|bD rfl rfl rfl (by decide)<|bD rfl rfl rfl (by decide)<|hy (fun _=>bP rfl rfl)<|ai<|al (ρ' :=[(49,_),(11,_),(6,_),(37,_),(35,_),(29,_),(10,_),(9,_),(8,_),(7,_),(14,_),(0,_),(1,_)]) ⟨rfl,rfl,rfl,rfl,rfl,rfl,rfl,rfl,rfl,rfl,rfl,rfl,rfl,trivial⟩<|ag<| ?_
      refine dL rfl (rfl) ?_
      refine bw (fun w m=>m.jN 1 rfl (View.drop (n:=p.length) (c:=c2) (k:=sz) (by omega) (by omega))) ?_
      refine aY (fun m=>ig (m.rd 0 rfl)) ?_
      rintro⟨hl_p2,hA_p2⟩
      refine bK<|ao<|ao<|aB<|ag<|aj<|hy (fun _=>aa rfl)<|hy (fun _=>aa rfl)<|hy (fun _=>ej rfl rfl Tryz.underlying27 ek rfl (by omega))<|hy (fun _=>ab rfl)<|ai<|al (ρ' :=[(0,_),(49,_),(11,_),(6,_),(37,_),(35,_),(29,_),(10,_),(9,_),(8,_),(7,_),(14,_),(1,_)]) ⟨rfl,rfl,rfl,rfl,rfl,rfl,rfl,rfl,rfl,rfl,rfl,rfl,rfl,trivial⟩<|aM<| ?_
      rw[hdl]
      refine eM (p.drop sz) (made p o) _ (c2-sz) A_x c_x ⟨rfl,rfl,rfl,trivial⟩ [0] rfl [0,3] rfl (⟨by rw[←hdl];omega,by rw[←hdl];omega,hmn,hU⟩) (by rw[←hdl];omega)
     ·have hd0:0<(cK p).2.2.1:=by omega
      have hma:made p o=again (cK p).2.2.1 (cK p).2.1 o:=by rw[made,if_neg (by omega)]
      generalize hdd:(cK p).2.2.1=dd at*
      generalize hnn:(cK p).2.1=nn at*
      refine aC<|ag<|ah<|ah<|aj<|hy (fun _=>ab rfl)<|ai<|ag<|aI<| ?_
      refine kZ (fun k2 o2 A4 c4=>nn-k2) (fun k2 o2 A4 c4=>[(11,.int .i64 (k2:Nat)),(6,.slice A4 o2.length c4)]) (fun k2 o2 A4 c4=>[aG 5 1 (.slice A4 o2.length c4) o2.length (aR o2)]) (fun k2 o2 A4 c4=>[]) (fun k2 o2 A4 c4=>k2≤nn∧o2.length=o.length+k2∧again dd (nn-k2) o2=made p o) 0 o A3 c3 [(37,_),(35,_),(29,_),(10,_),(9,_),(8,_),(7,_),(14,_),(0,_),(1,_)] ⟨rfl,rfl,rfl,rfl,rfl,rfl,rfl,rfl,rfl,rfl,trivial⟩ [0] rfl [] rfl (⟨Nat.zero_le _,rfl,hma.symm⟩) ⟨rfl,rfl,trivial⟩ (fun k2 o2 A4 c4 ⟨hk2,ho2,hag⟩=> ?_)
      refine ah<|ah<|aj<|hy (fun _=>aa rfl)<|hy (fun _=>yT (cY rfl rfl) ((decide_eq_true (by omega))))<|hy (fun _=>aa rfl)<|dU (o:=_) rfl rfl rfl (fun _=>aa rfl)<|dU (o:=_) rfl rfl rfl (fun _=>aa rfl)<|dU (o:=_) rfl rfl rfl (fun _=>bu rfl rfl)<|hy (fun _=>bX rfl rfl)<|ai<|al (ρ' :=[(49,_),(11,_),(6,_),(37,_),(35,_),(29,_),(10,_),(9,_),(8,_),(7,_),(14,_),(0,_),(1,_)]) ⟨rfl,rfl,rfl,rfl,rfl,rfl,rfl,rfl,rfl,rfl,rfl,rfl,rfl,trivial⟩<|ag<| ?_
      refine cD rfl (fun hkn=> ?_) (fun hkn=> ?_)
      ·have hag2:again dd (nn-(k2+1)) (o2++[o2.getD (o2.length-dd) 0])=made p o:=by
        rw[←hag,show nn-k2=(nn-(k2+1))+1 by omega]
        rfl
       refine aY (fun m=>(m.ord 0 rfl).2.1) fun hA4=> ?_
       refine aC<|ag<|ah<|aI<|aj<|hy (fun _=>aa rfl)<|hy (fun _=>aa rfl)<|hy (fun _=>aa rfl)<|hy (fun _=>aU rfl Tryz.underlying27)<|hy (fun _=>aa rfl)<|hy (fun _=>cw rfl rfl (bC (by omega) (by omega)))<|hy (fun _=>aO rfl rfl Tryz.underlying27 ek hA4 (show((o2.length-dd:Nat):Int)=_ by omega) (by omega))<|hy (fun m=>aw rfl jL ((m.ord 0 rfl).cell (bM (by omega))))<| ?_
       refine hx (bY Tryz.underlying27 fb rfl rfl rfl (by simp[Value.cells,B8]) (by decide) (by decide) (fun g60=> ?_))
       have hA_b60:0<1→(some (⟨g60,0,none⟩:Addr))≠none:=fun _ h=>by cases h
       refine aT (fun w m=>m.bQ 0 rfl (show _=aG 5 1 (.slice (some ⟨g60,0,none⟩) 1 1) 1 (aR [o2.getD (o2.length-dd) 0])from rfl)) ?_
       refine hx (bL 1 rfl rfl rfl Tryz.underlying27 Tryz.underlying27 (by exact .inl rfl) fb rfl (fun m=>Src.b7 (m.ord 0 rfl)) aS (by unfold maxLen;omega) (by omega) (fun u=> ?_))
       refine aD (fun m=>(m.own 0 rfl).slice) ?_
       rintro⟨A_x,c_x,rfl,hc_x⟩
       refine aD (fun m=>(m.ord 0 rfl).2.1) fun hA_x=> ?_
       refine aT (fun w m=>m.bQ 0 rfl (show _=aG 5 1 (.slice A_x (o2.length+1) c_x) (o2.length+1) (aR (o2++[o2.getD (o2.length-dd) 0]))from congrArg (aG _ _ _ _) (bx _ _).symm)) ?_
       have hl1:o2.length+1=(o2++[o2.getD (o2.length-dd) 0]).length:=by simp
       rw[hl1]at hc_x hA_x ⊢
       refine hy (fun _=>ab rfl)<|ai<|al (ρ' :=[(6,_),(49,_),(11,_),(37,_),(35,_),(29,_),(10,_),(9,_),(8,_),(7,_),(14,_),(0,_),(1,_)]) ⟨rfl,rfl,rfl,rfl,rfl,rfl,rfl,rfl,rfl,rfl,rfl,rfl,rfl,trivial⟩<|ak (X' :=[_,_]) (S' :=[_,_]) (fun _ m=>m)<|aM<|ag<|aj<|hy (fun _=>aa rfl)<|hy (fun _=>aN rfl rfl (bC (by omega) (by omega)))<|hy (fun _=>ab rfl)<|ai<|al (ρ' :=[(11,_),(6,_),(49,_),(37,_),(35,_),(29,_),(10,_),(9,_),(8,_),(7,_),(14,_),(0,_),(1,_)]) ⟨rfl,rfl,rfl,rfl,rfl,rfl,rfl,rfl,rfl,rfl,rfl,rfl,rfl,trivial⟩<| ?_
       refine gN (k2+1) (o2++[o2.getD (o2.length-dd) 0]) A_x c_x ⟨rfl,rfl,rfl,rfl,rfl,rfl,rfl,rfl,rfl,rfl,rfl,rfl,trivial⟩ [0] rfl [0,1] rfl (⟨by omega,by rw[←hl1];omega,hag2⟩) (by omega)
      ·obtain rfl:k2=nn:=by omega
       have hag2:o2=made p o:=by rw[←hag,Nat.sub_self];rfl
       rw[hag2]
       refine bw (fun w m=>m.jN 0 rfl (View.drop (n:=p.length) (c:=c2) (k:=sz) (by omega) (by omega))) ?_
       refine aY (fun m=>ig (m.rd 0 rfl)) ?_
       rintro⟨hl_p2,hA_p2⟩
       refine bK<|ao<|ao<|aB<|ag<|aj<|hy (fun _=>aa rfl)<|hy (fun _=>aa rfl)<|hy (fun _=>ej rfl rfl Tryz.underlying27 ek rfl (by omega))<|hy (fun _=>ab rfl)<|ai<|al (ρ' :=[(0,_),(49,_),(11,_),(6,_),(37,_),(35,_),(29,_),(10,_),(9,_),(8,_),(7,_),(14,_),(1,_)]) ⟨rfl,rfl,rfl,rfl,rfl,rfl,rfl,rfl,rfl,rfl,rfl,rfl,rfl,trivial⟩<|aM<| ?_
       rw[hdl]
       refine eM (p.drop sz) (made p o) _ (c2-sz) A4 c4 ⟨rfl,rfl,rfl,trivial⟩ [0] rfl [0,2] rfl (⟨by rw[←hdl];omega,by rw[←hdl];omega,hmn,hU⟩) (by rw[←hdl];omega)
 ·have hp0:p=[]:=List.eq_nil_of_length_eq_zero (by omega)
  rw[hp0,oU]at hU
  rw[←hU]
  refine bK<|ao<|ao<|aB<|ag<|ah<|aj<|hy (fun _=>aa rfl)<|hy (fun _=>ab rfl)<|hy (fun _=>ab rfl)<|ai<|al (ρ' :=[(5,_),(4,_),(14,_),(0,_),(6,_),(1,_)]) ⟨rfl,rfl,rfl,rfl,rfl,rfl,trivial⟩<|ag<|aX<| ?_
  exact dy trivial rfl rfl rfl [0] rfl [] rfl ⟨_,rfl,rfl,rfl⟩
end Go.Proofs.YtmibdabdlgmafaaGreatDoor
end
section
set_option maxRecDepth 20000
set_option maxHeartbeats 4000000
namespace Go.Proofs.YtmibdabdlgmafaaGreatDoor
open Go.Eng Go.Hx
theorem pV{f:List UInt8}{most:Int}(h:gR f=none):cZ f most=([],2):=by unfold cZ;rw[h]
theorem rA{f:List UInt8}{most:Int}{k:Nat}(h:gR f=some k)(hm:most<(k:Int)):cZ f most=([],3):=by unfold cZ;rw[h];simp only;rw[if_pos hm]
theorem tO{f:List UInt8}{most:Int}{k:Nat}(h:gR f=some k)(hm:¬most<(k:Int)):cZ f most=fU f k:=by unfold cZ;rw[h];simp only;rw[if_neg hm]
theorem te{f:List UInt8}{k:Nat}(h:gR f=some k):10≤f.length∧k<4294967296:=by
 unfold gR at h
 split at h
 ·cases h
 ·rename_i hq
  cases h
  exact⟨by have:¬f.length<10:=fun e=>hq (.inl e);omega,CY _⟩
theorem F7{A:Option Addr}{c:Nat}{f:List UInt8}{most:Int}(hc:f.length≤c)(hn:f.length≤10000000)(hm:most≤1000000):cj Tryz.prog 155 [.slice A f.length c,.int .i64 most] [] [cV 1 A f.length (aR f)] (fun v_ X_ S_=>∃v,v_=(.tuple #[v,.int .i64 (cZ f most).2])∧X_=[aG 5 1 v (cZ f most).1.length (aR (cZ f most).1)]∧S_=[]):=by
 refine BO (N:=54) Tryz.func155 rfl rfl (by simp) fun b=> ?_
 refine aY (fun m=>ig (m.rd 0 rfl)) ?_
 rintro⟨hl_r,hA_r⟩
 refine ah<|aj<| ?_
 refine hx (aP ui (fun g4=> ?_))
 refine aT (fun w m=>m.bQ 0 rfl (show _=aL g4 27 [.slice none 0 0]from rfl)) ?_
 refine hx (aP GY (fun g5=> ?_))
 refine aT (fun w m=>m.bQ 0 rfl (show _=aL g5 47 [.int .i64 0]from rfl)) ?_
 rcases hL:gR f with _|k
 ·refine ai<|ak (X' :=[_,_]) (S' :=[_]) (fun _ m=>m)<|ag<|ah<|aj<|hy (fun _=>iy rfl rfl)<|vM rfl rfl<|ai<|al (ρ' :=[(5,_),(4,_),(0,_),(1,_)]) ⟨rfl,rfl,rfl,rfl,trivial⟩<|ag<|ah<|aj<|hy (fun _=>aa rfl)<| ?_
  refine hx (aq rfl Tryz.call211 (sk (by omega) (by omega) rfl) [] rfl [0] rfl ?_)
  rintro _ _ _ ⟨rfl,rfl,rfl⟩
  refine hy (fun _=>aa rfl)<|hy (fun _=>au rfl rfl)<|hy (fun _=>au rfl rfl)<|hy (fun _=>ab rfl)<| ?_
  refine cJ (dH 0 rfl rfl rfl xD rfl (by first|exact Nat.le_of_ble_eq_true rfl|simp) ?_)
  refine ai<|al (ρ' :=[(6,_),(5,_),(4,_),(0,_),(1,_)]) ⟨rfl,rfl,rfl,rfl,rfl,trivial⟩<|ak (X' :=[_,_]) (S' :=[_]) (fun _ m=>m)<|ag<|ah<|aj<|hy (fun m=>aw rfl lK (aA (m.aZ 0 rfl) rfl))<|hy (fun _=>cM rfl rfl)<|hy (fun m=>aw rfl lK (aA (m.aZ 0 rfl) rfl))<| ?_
  refine hx (gL rfl Tryz.call212 (ox) [] rfl [] rfl ?_ ?_)
  ·rintro _ _ _ ⟨rfl,rfl,rfl,q1⟩
   refine eu<|iS<| ?_
   rw[hL]
   rw[(pV hL)]
   refine mV (by simp) Tryz.call210 (gp) [1,0] rfl [] rfl ?_
   rintro _ _ _ ⟨rfl,rfl,rfl⟩
   refine pB (fun w m=>m.dG (r' :=aG 5 1 (.slice none 0 0) 0 []) (.refl _ _) (Own.nil _ _ _ _) (fun k hk=>hk.elim)) ?_
   exact gZ rfl rfl rfl ea lK (fun m=>aA (m.aZ 1 rfl) (i:=0) rfl) (fun m=>aA (m.aZ 2 rfl) (i:=0) rfl) [0] rfl [] rfl ⟨_,rfl,rfl,rfl⟩
  ·rintro _ _ _ ⟨rfl,rfl,rfl,q1⟩
   exact absurd q1 (by rw[hL];simp)
 ·refine ai<|ak (X' :=[_,_]) (S' :=[_]) (fun _ m=>m)<|ag<|ah<|aj<|hy (fun _=>iy rfl rfl)<|vM rfl rfl<|ai<|al (ρ' :=[(5,_),(4,_),(0,_),(1,_)]) ⟨rfl,rfl,rfl,rfl,trivial⟩<|ag<|ah<|aj<|hy (fun _=>aa rfl)<| ?_
  refine hx (aq rfl Tryz.call211 (sk (by omega) (by omega) (by omega)) [] rfl [0] rfl ?_)
  rintro _ _ _ ⟨rfl,rfl,rfl⟩
  refine hy (fun _=>aa rfl)<|hy (fun _=>au rfl rfl)<|hy (fun _=>au rfl rfl)<|hy (fun _=>ab rfl)<| ?_
  refine cJ (dH 0 rfl rfl rfl xD rfl (by first|exact Nat.le_of_ble_eq_true rfl|simp) ?_)
  refine ai<|al (ρ' :=[(6,_),(5,_),(4,_),(0,_),(1,_)]) ⟨rfl,rfl,rfl,rfl,rfl,trivial⟩<|ak (X' :=[_,_]) (S' :=[_]) (fun _ m=>m)<|ag<|ah<|aj<|hy (fun m=>aw rfl lK (aA (m.aZ 0 rfl) rfl))<|hy (fun _=>cM rfl rfl)<|hy (fun m=>aw rfl lK (aA (m.aZ 0 rfl) rfl))<| ?_
  refine hx (gL rfl Tryz.call212 (ox) [] rfl [] rfl ?_ ?_)
  ·rintro _ _ _ ⟨rfl,rfl,rfl,q1⟩
   refine eu<|iS<| ?_
   exact absurd q1 (by rw[hL];simp)
  ·rintro _ _ _ ⟨rfl,rfl,rfl,q1⟩
   rw[hL,Option.getD_some]
   refine ai<|al (ρ' :=[(6,_),(5,_),(4,_),(0,_),(1,_)]) ⟨rfl,rfl,rfl,rfl,rfl,trivial⟩<|ak (X' :=[_,_]) (S' :=[_]) (fun _ m=>m)<|ag<|ah<|aj<|hy (fun _=>aa rfl)<|hy (fun _=>aa rfl)<|hy (fun _=>qG rfl rfl)<| ?_
   refine hx (gL rfl Tryz.call212 (ox) [] rfl [] rfl ?_ ?_)
   ·rintro _ _ _ ⟨rfl,rfl,rfl,q2⟩
    refine eu<|iS<| ?_
    rw[(rA hL (Int.not_le.1 (of_decide_eq_false q2)))]
    refine mV (by simp) Tryz.call210 (gp) [1,0] rfl [] rfl ?_
    rintro _ _ _ ⟨rfl,rfl,rfl⟩
    refine pB (fun w m=>m.dG (r' :=aG 5 1 (.slice none 0 0) 0 []) (.refl _ _) (Own.nil _ _ _ _) (fun k hk=>hk.elim)) ?_
    exact gZ rfl rfl rfl ea lK (fun m=>aA (m.aZ 1 rfl) (i:=0) rfl) (fun m=>aA (m.aZ 2 rfl) (i:=0) rfl) [0] rfl [] rfl ⟨_,rfl,rfl,rfl⟩
   ·rintro _ _ _ ⟨rfl,rfl,rfl,q2⟩
    obtain⟨h10,hk32⟩:=te hL
    have hkm:(k:Int)≤most:=of_decide_eq_true q2
    have hopen:=tO hL (Int.not_lt.2 hkm)
    refine aT (fun w m=>m.jN 0 rfl (View.sub (n:=f.length) (c:=c) (k:=6) (m:=f.length-10) (by omega) (by omega))) ?_
    refine aD (fun m=>ig (m.rd 0 rfl)) ?_
    rintro⟨hl_p,hA_p⟩
    refine ai<|al (ρ' :=[(6,_),(5,_),(4,_),(0,_),(1,_)]) ⟨rfl,rfl,rfl,rfl,rfl,trivial⟩<|ak (X' :=[_,_]) (S' :=[_,_]) (fun _ m=>m)<|ag<|ah<|aj<|hy (fun _=>aa rfl)<|hy (fun _=>aa rfl)<|hy (fun _=>aU rfl Tryz.underlying27)<|hy (fun _=>yV (cw rfl rfl (bC (by omega) (by omega))) ((show Value.int .i64 ((f.length:Int)-4)= .int .i64 ((f.length-4:Nat):Int) by congr 1;omega)))<|hy (fun _=>yV (eG rfl rfl rfl Tryz.underlying27 ek (show((6:Nat):Int)=6 from rfl) rfl (by omega) (by omega)) ((show Value.slice (if c=6 then A else A.map (·.add (6*1))) (f.length-4-6) (c-6)= .slice (if c=6 then A else A.map (·.add (6*1))) (f.length-10) (c-6) by congr 1)))<| ?_
    refine hx (aq rfl Tryz.call117 (rT (by omega)) [] rfl [0] rfl ?_)
    rintro _ _ _ ⟨v,rfl,rfl,rfl⟩
    refine aD (fun m=>(m.own 0 rfl).slice) ?_
    rintro⟨A_x,c_x,rfl,hc_x⟩
    refine aD (fun m=>(m.ord 0 rfl).2.1) fun hA_x=> ?_
    have hbl:f.length-10=(dA f).length:=by unfold dA;rw[List.length_take,List.length_drop];omega
    have hb2:(f.drop 6).take (dA f).length=dA f:=by rw[←hbl];rfl
    rw[hbl,hb2]
    rw[hbl]at hc_x
    refine cJ (dH 2 rfl rfl rfl oO rfl (by first|exact Nat.le_of_ble_eq_true rfl|simp) ?_)
    refine ai<|al (ρ' :=[(6,_),(5,_),(4,_),(0,_),(1,_)]) ⟨rfl,rfl,rfl,rfl,rfl,trivial⟩<|ak (X' :=[_,_,_]) (S' :=[_,_]) (fun _ m=>m)<|ag<|ah<|ah<|aj<|hy (fun _=>aa rfl)<| ?_
    refine hx (aq rfl Tryz.call213 (CZ (by omega) (by omega) rfl) [] rfl [1] rfl ?_)
    rintro _ _ _ ⟨rfl,rfl,rfl⟩
    refine ai<|al (ρ' :=[(28,_),(6,_),(5,_),(4,_),(0,_),(1,_)]) ⟨rfl,rfl,rfl,rfl,rfl,rfl,trivial⟩<|ak (X' :=[_,_,_]) (S' :=[_,_]) (fun _ m=>m)<|ag<| ?_
    refine cD rfl (fun hpk=> ?_) (fun hpk=> ?_)
    ·have hu:vh f k=jM (k:Int) (dA f) []:=by
      unfold vh
      exact if_pos hpk.2
     have hkz:(k:Int)≤10000000:=by omega
     have hul:=qp (most:=(k:Int)) (dA f) [] (by simp)
     have hbn:(dA f).length≤10000000:=by omega
     refine ah<|aj<|hy (fun m=>aw rfl ea (aA (m.aZ 0 rfl) rfl))<|hy (fun _=>aa rfl)<| ?_
     refine hx (cN rfl Tryz.call214 (BK hc_x hbn hkz) [] rfl (.x 1 rfl .own .nil) ?_)
     rintro _ _ _ ⟨v2,rfl,rfl,rfl⟩
     refine⟨rfl, ?_⟩
     refine aD (fun m=>(m.own 0 rfl).slice) ?_
     rintro⟨A_x2,c_x2,rfl,hc_x2⟩
     refine aD (fun m=>(m.ord 0 rfl).2.1) fun hA_x2=> ?_
     refine hy (fun _=>aa rfl)<|hy (fun _=>au rfl rfl)<|hy (fun _=>au rfl rfl)<| ?_
     refine cJ (dH 1 rfl rfl rfl oO rfl (by first|exact Nat.le_of_ble_eq_true rfl|simp) ?_)
     refine cJ (dH 3 rfl rfl rfl xD rfl (by first|exact Nat.le_of_ble_eq_true rfl|simp) ?_)
     refine ai<|al (ρ' :=[(28,_),(6,_),(5,_),(4,_),(0,_),(1,_)]) ⟨rfl,rfl,rfl,rfl,rfl,rfl,trivial⟩<|ak (X' :=[_,_,_,_]) (S' :=[_,_]) (fun _ m=>m)<|ag<|aj<|hy (fun m=>aw rfl lK (aA (m.aZ 0 rfl) rfl))<|hy (fun _=>cM rfl rfl)<| ?_
     refine hx (gL rfl Tryz.call212 (ox) [] rfl [] rfl ?_ ?_)
     ·rintro _ _ _ ⟨rfl,rfl,rfl,q3⟩
      refine eu<|iS<| ?_
      have hno:cZ f most=([],2):=by
       rw[hopen]
       unfold fU
       rw[hu]
       exact if_pos (of_decide_eq_false q3)
      rw[hno]
      refine mV (by simp) Tryz.call210 (gp) [1,0] rfl [] rfl ?_
      rintro _ _ _ ⟨rfl,rfl,rfl⟩
      refine pB (fun w m=>m.dG (r' :=aG 5 1 (.slice none 0 0) 0 []) (.refl _ _) (Own.nil _ _ _ _) (fun k hk=>hk.elim)) ?_
      exact gZ rfl rfl rfl ea lK (fun m=>aA (m.aZ 1 rfl) (i:=0) rfl) (fun m=>aA (m.aZ 2 rfl) (i:=0) rfl) [0] rfl [] rfl ⟨_,rfl,rfl,rfl⟩
     ·rintro _ _ _ ⟨rfl,rfl,rfl,q3⟩
      have hE0:(jM (k:Int) (dA f) []).2=0:=of_decide_eq_true q3
      obtain⟨u,hu2⟩:∃u,jM (k:Int) (dA f) []=(u,0):=⟨_,Prod.ext rfl hE0⟩
      rw[hu2]at hu hul
      rw[hu2]
      dsimp only
      have hun:u.length≤1000000:=by
       rcases hul.1 with h|h
       ·have h:(u.length:Int)≤k:=h
        omega
       ·have h:u=[]:=h
        rw[h];exact Nat.zero_le _
      refine ai<|al (ρ' :=[(28,_),(6,_),(5,_),(4,_),(0,_),(1,_)]) ⟨rfl,rfl,rfl,rfl,rfl,rfl,trivial⟩<|ak (X' :=[_,_,_,_]) (S' :=[_,_]) (fun _ m=>m)<|ag<|ah<|aj<|hy (fun m=>aw rfl ea (aA (m.aZ 1 rfl) rfl))<|hy (fun _=>aU rfl Tryz.underlying27)<|hy (fun _=>aa rfl)<|hy (fun _=>cM rfl rfl)<| ?_
      refine hx (gL rfl Tryz.call212 (ox) [] rfl [] rfl ?_ ?_)
      ·rintro _ _ _ ⟨rfl,rfl,rfl,q4⟩
       refine eu<|iS<| ?_
       have hno:cZ f most=([],2):=by
        rw[hopen]
        unfold fU
        rw[hu]
        exact(if_neg (by simp)).trans (if_pos (by have:=of_decide_eq_false q4;simp only;omega))
       rw[hno]
       refine mV (by simp) Tryz.call210 (gp) [1,0] rfl [] rfl ?_
       rintro _ _ _ ⟨rfl,rfl,rfl⟩
       refine pB (fun w m=>m.dG (r' :=aG 5 1 (.slice none 0 0) 0 []) (.refl _ _) (Own.nil _ _ _ _) (fun k hk=>hk.elim)) ?_
       exact gZ rfl rfl rfl ea lK (fun m=>aA (m.aZ 1 rfl) (i:=0) rfl) (fun m=>aA (m.aZ 2 rfl) (i:=0) rfl) [0] rfl [] rfl ⟨_,rfl,rfl,rfl⟩
      ·rintro _ _ _ ⟨rfl,rfl,rfl,q4⟩
       have hlen:(u).length=k:=by have:=of_decide_eq_true q4;omega
       have hgo:cZ f most=if gy (cQ u)≠f.drop (f.length-4)then([],7)else(u,0):=by
        rw[hopen]
        unfold fU
        rw[hu]
        exact(if_neg (by simp)).trans (if_neg (by simp only;omega))
       refine aT (fun w m=>m.jN 1 rfl (View.drop (n:=f.length) (c:=c) (k:=f.length-4) (by omega) (by omega))) ?_
       refine aD (fun m=>ig (m.rd 0 rfl)) ?_
       rintro⟨hl_t,hA_t⟩
       have hcl:=jt u
       refine ai<|al (ρ' :=[(28,_),(6,_),(5,_),(4,_),(0,_),(1,_)]) ⟨rfl,rfl,rfl,rfl,rfl,rfl,trivial⟩<|ak (X' :=[_,_,_,_]) (S' :=[_,_,_]) (fun _ m=>m)<|ag<|ah<|ze [43,44,45,46,47,48,49,50,51,52] [0,0,0,0] [0,1,2] rfl rfl [1,2,8,9] [(0,some 0),(3,some 2),(4,some 4),(5,some 2),(6,some 2),(7,some 2),(1,none),(2,none),(8,none),(9,none)] (by kernel_rfl) (by kernel_rfl) (by kernel_rfl) rfl 99<|ca (fun m=>aw rfl ea (aA (m.aZ 1 rfl) rfl))<|an (aa rfl)<|an (aa rfl)<|an (aU rfl Tryz.underlying27)<|an (yV (cw rfl rfl (bC (by omega) (by omega))) ((show Value.int .i64 ((f.length:Int)-4)= .int .i64 ((f.length-4:Nat):Int) by congr 1;omega)))<|an (ej rfl rfl Tryz.underlying27 ek rfl (by omega))<| ?_
       refine dV (cN rfl Tryz.call180 (o1 (by omega)) [] rfl (.x 2 rfl .own .nil) ?_)
       rintro _ _ _ ⟨rfl,rfl,rfl⟩
       refine⟨rfl, ?_⟩
       refine⟨(fun _=>wk [0,0,0,0] [0,1,2] rfl rfl), ?_⟩
       refine dV (aq rfl Tryz.call179 (jI (by omega)) [] rfl [] rfl ?_)
       rintro _ _ _ ⟨v3,rfl,rfl,rfl⟩
       refine⟨(fun _=>wk [1,1,1,1] [0,1,2] rfl rfl), ?_⟩
       refine b5 (fun m=>(m.own 0 rfl).slice) ?_
       rintro⟨A_x3,c_x3,rfl,hc_x3⟩
       refine b5 (fun m=>(m.ord 0 rfl).2.1) fun hA_x3=> ?_
       refine dV (cN rfl Tryz.call215 (oI) [] rfl (.x 0 rfl .own (.s 0 rfl .nil)) ?_)
       rintro _ _ _ ⟨rfl,rfl,rfl⟩
       refine⟨rfl, ?_⟩
       refine⟨(fun _=>wk [1,1,1,1] [0,1,2] rfl rfl), ?_⟩
       refine dV (gL rfl Tryz.call212 (ox) [] rfl [] rfl ?_ ?_)
       ·rintro _ _ _ ⟨rfl,rfl,rfl,q5⟩
        refine Dt<|eu<|iS<| ?_
        rw[(hgo.trans (if_pos (of_decide_eq_false q5)))]
        refine mV (by simp) Tryz.call210 (gp) [2,1] rfl [] rfl ?_
        rintro _ _ _ ⟨rfl,rfl,rfl⟩
        refine pB (fun w m=>m.dG (r' :=aG 5 1 (.slice none 0 0) 0 []) (.refl _ _) (Own.nil _ _ _ _) (fun k hk=>hk.elim)) ?_
        exact gZ rfl rfl rfl ea lK (fun m=>aA (m.aZ 1 rfl) (i:=0) rfl) (fun m=>aA (m.aZ 2 rfl) (i:=0) rfl) [0] rfl [] rfl ⟨_,rfl,rfl,rfl⟩
       ·rintro _ _ _ ⟨rfl,rfl,rfl,q5⟩
        refine⟨(fun _=>wk [1,1,1,1] [0,1,2] rfl rfl), ?_⟩
        rw[hgo.trans (if_neg (fun h=>h (of_decide_eq_true q5)))]
        refine Aa<|al (ρ' :=[(28,_),(6,_),(5,_),(4,_),(0,_),(1,_)]) ⟨rfl,rfl,rfl,rfl,rfl,rfl,trivial⟩<|ak (X' :=[_,_,_,_,_]) (S' :=[_,_,_]) (fun _ m=>m)<|ag<|ah<|aj<|hy (fun m=>aw rfl ea (aA (m.aZ 2 rfl) rfl))<| ?_
        refine cJ (dH 2 rfl rfl rfl oO rfl (by first|exact Nat.le_of_ble_eq_true rfl|simp) ?_)
        refine cJ (dH 2 rfl rfl rfl xD rfl (by first|exact Nat.le_of_ble_eq_true rfl|simp) ?_)
        refine ai<|al (ρ' :=[(28,_),(6,_),(5,_),(4,_),(0,_),(1,_)]) ⟨rfl,rfl,rfl,rfl,rfl,rfl,trivial⟩<|ak (X' :=[_,_,_,_,_]) (S' :=[_,_,_]) (fun _ m=>m)<|ag<|aX<| ?_
        refine vG trivial ?_
        refine mV (by simp) Tryz.call210 (uf) [1,0] rfl [] rfl ?_
        rintro _ _ _ ⟨rfl,rfl,rfl⟩
        exact gZ rfl rfl rfl ea lK (fun m=>aA (m.aZ 0 rfl) (i:=0) rfl) (fun m=>aA (m.aZ 1 rfl) (i:=0) rfl) [3] rfl [] rfl ⟨_,rfl,rfl,rfl⟩
    ·have hu:vh f k=(dA f,0):=by
      unfold vh
      exact if_neg fun e=>hpk ⟨by rw[hL];rfl,e⟩
     refine aC<|ag<|ah<|aj<|hy (fun m=>aw rfl ea (aA (m.aZ 0 rfl) rfl))<|hy (fun _=>aU rfl Tryz.underlying27)<|hy (fun _=>aa rfl)<|hy (fun _=>cM rfl rfl)<| ?_
     refine hx (gL rfl Tryz.call212 (ox) [] rfl [] rfl ?_ ?_)
     ·rintro _ _ _ ⟨rfl,rfl,rfl,q4⟩
      refine eu<|iS<| ?_
      have hno:cZ f most=([],2):=by
       rw[hopen]
       unfold fU
       rw[hu]
       exact(if_neg (by simp)).trans (if_pos (by have:=of_decide_eq_false q4;simp only;omega))
      rw[hno]
      refine mV (by simp) Tryz.call210 (gp) [0,1] rfl [] rfl ?_
      rintro _ _ _ ⟨rfl,rfl,rfl⟩
      refine pB (fun w m=>m.dG (r' :=aG 5 1 (.slice none 0 0) 0 []) (.refl _ _) (Own.nil _ _ _ _) (fun k hk=>hk.elim)) ?_
      exact gZ rfl rfl rfl ea lK (fun m=>aA (m.aZ 1 rfl) (i:=0) rfl) (fun m=>aA (m.aZ 2 rfl) (i:=0) rfl) [0] rfl [] rfl ⟨_,rfl,rfl,rfl⟩
     ·rintro _ _ _ ⟨rfl,rfl,rfl,q4⟩
      have hlen:((dA f)).length=k:=by have:=of_decide_eq_true q4;omega
      have hgo:cZ f most=if gy (cQ (dA f))≠f.drop (f.length-4)then([],7)else((dA f),0):=by
       rw[hopen]
       unfold fU
       rw[hu]
       exact(if_neg (by simp)).trans (if_neg (by simp only;omega))
      refine aT (fun w m=>m.jN 1 rfl (View.drop (n:=f.length) (c:=c) (k:=f.length-4) (by omega) (by omega))) ?_
      refine aD (fun m=>ig (m.rd 0 rfl)) ?_
      rintro⟨hl_t,hA_t⟩
      have hcl:=jt (dA f)
      refine ai<|al (ρ' :=[(28,_),(6,_),(5,_),(4,_),(0,_),(1,_)]) ⟨rfl,rfl,rfl,rfl,rfl,rfl,trivial⟩<|ak (X' :=[_,_,_]) (S' :=[_,_,_]) (fun _ m=>m)<|ag<|ah<|ze [43,44,45,46,47,48,49,50,51,52] [0,0,0] [0,1,2] rfl rfl [1,2,8,9] [(0,some 0),(3,some 2),(4,some 4),(5,some 2),(6,some 2),(7,some 2),(1,none),(2,none),(8,none),(9,none)] (by kernel_rfl) (by kernel_rfl) (by kernel_rfl) rfl 99<|ca (fun m=>aw rfl ea (aA (m.aZ 0 rfl) rfl))<|an (aa rfl)<|an (aa rfl)<|an (aU rfl Tryz.underlying27)<|an (yV (cw rfl rfl (bC (by omega) (by omega))) ((show Value.int .i64 ((f.length:Int)-4)= .int .i64 ((f.length-4:Nat):Int) by congr 1;omega)))<|an (ej rfl rfl Tryz.underlying27 ek rfl (by omega))<| ?_
      refine dV (cN rfl Tryz.call180 (o1 (by omega)) [] rfl (.x 1 rfl .own .nil) ?_)
      rintro _ _ _ ⟨rfl,rfl,rfl⟩
      refine⟨rfl, ?_⟩
      refine⟨(fun _=>wk [0,0,0] [0,1,2] rfl rfl), ?_⟩
      refine dV (aq rfl Tryz.call179 (jI (by omega)) [] rfl [] rfl ?_)
      rintro _ _ _ ⟨v2,rfl,rfl,rfl⟩
      refine⟨(fun _=>wk [1,1,1] [0,1,2] rfl rfl), ?_⟩
      refine b5 (fun m=>(m.own 0 rfl).slice) ?_
      rintro⟨A_x2,c_x2,rfl,hc_x2⟩
      refine b5 (fun m=>(m.ord 0 rfl).2.1) fun hA_x2=> ?_
      refine dV (cN rfl Tryz.call215 (oI) [] rfl (.x 0 rfl .own (.s 0 rfl .nil)) ?_)
      rintro _ _ _ ⟨rfl,rfl,rfl⟩
      refine⟨rfl, ?_⟩
      refine⟨(fun _=>wk [1,1,1] [0,1,2] rfl rfl), ?_⟩
      refine dV (gL rfl Tryz.call212 (ox) [] rfl [] rfl ?_ ?_)
      ·rintro _ _ _ ⟨rfl,rfl,rfl,q5⟩
       refine Dt<|eu<|iS<| ?_
       rw[(hgo.trans (if_pos (of_decide_eq_false q5)))]
       refine mV (by simp) Tryz.call210 (gp) [1,2] rfl [] rfl ?_
       rintro _ _ _ ⟨rfl,rfl,rfl⟩
       refine pB (fun w m=>m.dG (r' :=aG 5 1 (.slice none 0 0) 0 []) (.refl _ _) (Own.nil _ _ _ _) (fun k hk=>hk.elim)) ?_
       exact gZ rfl rfl rfl ea lK (fun m=>aA (m.aZ 1 rfl) (i:=0) rfl) (fun m=>aA (m.aZ 2 rfl) (i:=0) rfl) [0] rfl [] rfl ⟨_,rfl,rfl,rfl⟩
      ·rintro _ _ _ ⟨rfl,rfl,rfl,q5⟩
       refine⟨(fun _=>wk [1,1,1] [0,1,2] rfl rfl), ?_⟩
       rw[hgo.trans (if_neg (fun h=>h (of_decide_eq_true q5)))]
       refine Aa<|al (ρ' :=[(28,_),(6,_),(5,_),(4,_),(0,_),(1,_)]) ⟨rfl,rfl,rfl,rfl,rfl,rfl,trivial⟩<|ak (X' :=[_,_,_,_]) (S' :=[_,_,_]) (fun _ m=>m)<|ag<|ah<|aj<|hy (fun m=>aw rfl ea (aA (m.aZ 1 rfl) rfl))<| ?_
       refine cJ (dH 1 rfl rfl rfl oO rfl (by first|exact Nat.le_of_ble_eq_true rfl|simp) ?_)
       refine cJ (dH 3 rfl rfl rfl xD rfl (by first|exact Nat.le_of_ble_eq_true rfl|simp) ?_)
       refine ai<|al (ρ' :=[(28,_),(6,_),(5,_),(4,_),(0,_),(1,_)]) ⟨rfl,rfl,rfl,rfl,rfl,rfl,trivial⟩<|ak (X' :=[_,_,_,_]) (S' :=[_,_,_]) (fun _ m=>m)<|ag<|aX<| ?_
       refine vG trivial ?_
       refine mV (by simp) Tryz.call210 (uf) [1,0] rfl [] rfl ?_
       rintro _ _ _ ⟨rfl,rfl,rfl⟩
       exact gZ rfl rfl rfl ea lK (fun m=>aA (m.aZ 0 rfl) (i:=0) rfl) (fun m=>aA (m.aZ 1 rfl) (i:=0) rfl) [3] rfl [] rfl ⟨_,rfl,rfl,rfl⟩
end Go.Proofs.YtmibdabdlgmafaaGreatDoor
end
section
set_option maxRecDepth 20000
namespace Go.Proofs.YtmibdabdlgmafaaGreatDoor
open Go.Eng Go.Hx
structure uB where
 h:List UInt32
 n:Nat
 A:Option Addr
 c:Nat
 rest:List UInt8
def na(h:List UInt32)(n:Nat)(A:Option Addr)(m c:Nat):List Value:=eh h++[.int .i64 (n:Int),.slice A m c]
abbrev ny(g:Nat)(s:uB):bh:=fG [aL g 308 (na s.h s.n s.A s.rest.length s.c),aG 5 1 (.slice s.A s.rest.length s.c) s.rest.length (aR s.rest)]
structure uB.ok(s:uB)(all:List UInt8):Prop where
 len:s.h.length=8
 n:s.n=all.length
 G2:∃d,d++s.rest=all∧d.length % 64=0∧s.h=fB mw d
theorem j9{h:List UInt32}{n:Nat}{A:Option Addr}{m c:Nat}(hh:h.length=8):(na h n A m c).length=10:=by simp[na,eh,hh]
theorem wm{h:List UInt32}{n:Nat}{A:Option Addr}{m c:Nat}(hh:h.length=8):(na h n A m c)[8]? =some (.int .i64 (n:Int)):=by
 rw[na,List.getElem?_append_right (by rw[bq];omega),bq,hh];rfl
theorem tF{h:List UInt32}{n:Nat}{A:Option Addr}{m c:Nat}(hh:h.length=8):(na h n A m c)[9]? =some (.slice A m c):=by
 rw[na,List.getElem?_append_right (by rw[bq];omega),bq,hh];rfl
theorem AJ{h:List UInt32}{n:Nat}{A:Option Addr}{m c:Nat}{j:Nat}{u:Value}(hu:(eh h)[j]? =some u):(na h n A m c)[j]? =some u:=by
 rw[na,List.getElem?_append_left ((List.getElem?_eq_some_iff.1 hu).1)];exact hu
theorem y8{h:List UInt32}{n n' :Nat}{A:Option Addr}{m c:Nat}(hh:h.length=8):(na h n A m c).set 8 (.int .i64 (n' :Int))=na h n' A m c:=by
 rw[na,List.set_append_right _ _ (by rw[bq];omega),bq,hh];rfl
theorem tU{h:List UInt32}{n:Nat}{A A' :Option Addr}{m c m' c' :Nat}(hh:h.length=8):(na h n A m c).set 9 (.slice A' m' c')=na h n A' m' c' :=by
 rw[na,List.set_append_right _ _ (by rw[bq];omega),bq,hh];rfl
theorem B5{h h' :List UInt32}{n:Nat}{A:Option Addr}{m c:Nat}(hh:h.length=8)(hh' :h'.length=8):bz (na h n A m c) 0 (eh h')=na h' n A m c:=by
 rw[bz,List.take_zero,List.nil_append,Nat.zero_add,bq,hh',na,List.drop_append_of_le_length (by rw[bq];omega),List.drop_of_length_le (by rw[bq];omega)];rfl
theorem FD:cj Tryz.prog 172 [] [] [] (fun v_ X_ S_=>∃g,v_=(.pointer (some ⟨g,0,none⟩))∧X_=[ny g ⟨mw,0,none,0,[]⟩]∧S_=[]):=by
 refine aQ (N:=4) Tryz.func172 rfl rfl (by simp) fun b=> ?_
 refine ah<|aj<|hy (fun _=>ab rfl)<|ai<|ag<|ah<|aj<|hy (fun _=>yV (tG (n:=8) vP (by kernel_rfl) rfl (by kernel_rfl) rfl (by kernel_rfl) (by kernel_rfl) (q7 (l:=[1779033703,3144134277,1013904242,2773480762,1359893119,2600822924,528734635,1541459225]))) ((rfl:_=Value.agg (eh mw).toArray)))<|hy (fun _=>yV (cy Dw rfl rfl (by kernel_rfl) (.cons (o:=0) (sz:=8) (by kernel_rfl) rfl rfl (Nat.le_of_ble_eq_true rfl) .nil)) ((rfl:_=Value.agg (na mw 0 none 0 0).toArray)))<| ?_
 refine hx (cI rfl (fun g3=> ?_))
 refine hy (fun _=>ab rfl)<|ai<|al (ρ' :=[(0,_)]) ⟨rfl,trivial⟩<|ak (X' :=[_]) (S' :=[]) (fun _ m=>m)<|ag<|aX<| ?_
 refine ak (fun w m=>m.bQ 0 rfl (show _=aL g3 308 (na mw 0 none 0 0)from congrArg (aL _ _) (bA _))) ?_
 refine ak (fun w m=>m.dG (r' :=aG 5 1 (.slice none 0 0) 0 []) (.refl _ _) (Own.nil _ _ _ _) (fun k hk=>hk.elim)) ?_
 refine ak (X' :=ny g3 ⟨mw,0,none,0,[]⟩::_) (fun w m=>(m.perm (ar [1,0] _ [_,_] _ rfl)).pack) ?_
 exact bf trivial rfl rfl [0] rfl [] rfl ⟨_,rfl,rfl,rfl⟩
theorem Ek:uB.ok ⟨mw,0,none,0,[]⟩ []:=⟨rfl,rfl,[],rfl,rfl,rfl⟩
theorem vV{g:Nat}{s:uB}{B:Option Addr}{mb mc:Nat}{l:List UInt8}(hh:s.h.length=8)(hn:s.n+mb≤1000000000000000)(hr:s.rest.length+mb≤140737488355328):cj Tryz.prog 173 [.pointer (some ⟨g,0,none⟩),.slice B mb mc] [ny g s] [cV 1 B mb (aR l),eX] (fun v_ X_ S_=>∃s1,v_=(.tuple #[])∧X_=[ny g s1]∧S_=[]∧(s1.rest.length<64∧∀all,s.ok all→s1.ok (all++l))):=by
 refine aQ (N:=49) Tryz.func173 rfl rfl (by simp) fun b=> ?_
 refine aY (fun m=>ig (m.rd 0 rfl)) ?_
 rintro⟨hl_r,hA_r⟩
 have hlm:l.length=mb:=hl_r
 have hl0:=j9 (n:=s.n) (A:=s.A) (m:=s.rest.length) (c:=s.c) hh
 refine bw (fun w m=>(m.perm (ar [0] _ [_] _ rfl)).unpack) ?_
 refine ah<|aj<|hy (fun _=>aa rfl)<|hy (fun _=>a7 rfl)<|hy (fun _=>aH rfl mA (by decide))<|hy (fun m=>aw rfl fS ((m.aZ 0 rfl).az 8 _ (wm hh)))<|hy (fun _=>aa rfl)<|hy (fun _=>aU rfl Tryz.underlying27)<|hy (fun _=>aN rfl rfl (bC (by omega) (by omega)))<|hy (fun _=>a7 rfl)<|hy (fun _=>aH rfl mA (by decide))<| ?_
 refine cJ (cm 0 rfl rfl rfl sS rfl (by rw[hl0];decide) ?_)
 refine ai<|al (ρ' :=[(0,_),(1,_)]) ⟨rfl,rfl,trivial⟩<|ak (X' :=[_,_]) (S' :=[_,_]) (fun _ m=>m)<|ag<|ah<|aj<| ?_
 refine aT (fun w m=>m.bQ 0 rfl (show _=aL g 308 (na s.h (s.n+mb) s.A s.rest.length s.c)from by rw[Nat.zero_add,←Int.natCast_add,y8 hh])) ?_
 refine hy (fun _=>aa rfl)<|hy (fun _=>aa rfl)<|hy (fun _=>a7 rfl)<|hy (fun _=>aH rfl jV (by decide))<|hy (fun m=>aw rfl ea ((m.aZ 0 rfl).az 9 _ (tF hh)))<|hy (fun _=>aa rfl)<| ?_
 refine hx (bL 1 rfl rfl rfl Tryz.underlying27 Tryz.underlying27 (by exact .inl rfl) fb rfl (fun m=>Src.b7 (m.rd 0 rfl)) aS (by unfold maxLen;omega) (by omega) (fun u=> ?_))
 refine aD (fun m=>(m.own 0 rfl).slice) ?_
 rintro⟨A_d1,c_d1,rfl,hc_d1⟩
 refine aD (fun m=>(m.ord 0 rfl).2.1) fun hA_d1=> ?_
 refine aT (fun w m=>m.bQ 0 rfl (show _=aG 5 1 (.slice A_d1 (s.rest++l).length c_d1) (s.rest++l).length (aR (s.rest++l))from by rw[List.length_append,hlm];simp[aR])) ?_
 have hls:=j9 (n:=s.n+mb) (A:=s.A) (m:=s.rest.length) (c:=s.c) hh
 refine hy (fun _=>a7 rfl)<|hy (fun _=>aH rfl jV (by decide))<| ?_
 refine cJ (cm 1 rfl rfl rfl oO rfl (by rw[hls];decide) ?_)
 refine ai<|al (ρ' :=[(0,_),(1,_)]) ⟨rfl,rfl,trivial⟩<|ak (X' :=[_,_]) (S' :=[_,_]) (fun _ m=>m)<|ag<|aI<| ?_
 refine bw (fun w m=>m.bQ 0 rfl (show _=aL g 308 (na s.h (s.n+mb) A_d1 (s.rest++l).length c_d1)from by rw[Nat.zero_add,tU hh,List.length_append,hlm])) ?_
 have hlen:(s.rest++l).length=s.rest.length+mb:=by rw[List.length_append,hlm]
 refine uV (fun h A1 c1 q dn=>q.length) (fun h A1 c1 q dn=>[]) (fun h A1 c1 q dn=>[aL g 308 (na h (s.n+mb) A1 q.length c1),aG 5 1 (.slice A1 q.length c1) q.length (aR q)]) (fun h A1 c1 q dn=>[]) (fun h A1 c1 q dn=>h.length=8∧q.length≤c1∧dn++q=s.rest++l∧dn.length % 64=0∧∀D,D.length % 64=0→s.h=fB mw D→h=fB mw (D++dn)) s.h A_d1 c_d1 (s.rest++l) [] [(0,_),(1,_)] ⟨rfl,rfl,trivial⟩ [0,0] rfl [] rfl (⟨hh,(by omega),rfl,rfl,fun D _ e=>by rw[List.append_nil];exact e⟩) trivial (fun h A1 c1 q dn ⟨h8,hqc,hdq,hd64,hD⟩=> ?_)
 have hls:=j9 (n:=s.n+mb) (A:=A1) (m:=q.length) (c:=c1) h8
 refine ah<|ah<|aj<|hy (fun _=>aa rfl)<|hy (fun _=>a7 rfl)<|hy (fun _=>aH rfl jV (by decide))<|hy (fun m=>aw rfl ea ((m.aZ 0 rfl).az 9 _ (tF h8)))<|hy (fun _=>aU rfl Tryz.underlying27)<|hy (fun _=>kl rfl rfl)<|ai<|al (ρ' :=[(27,_),(0,_),(1,_)]) ⟨rfl,rfl,rfl,trivial⟩<|ag<| ?_
 refine cD rfl (fun hge=> ?_) (fun hge=> ?_)
 ·have hq64:64≤q.length:=by omega
  refine aC<|ag<|aI<|ah<|cG [10,13] [(0,some 1),(1,some 0),(2,some 0),(3,some 0),(4,some 0),(5,some 1),(6,some 0),(7,some 0),(8,some 0),(9,some 0),(10,none),(11,some 1),(12,some 1),(13,none)] (by kernel_rfl) (by kernel_rfl) rfl 1<|an (aa rfl)<|an (aa rfl)<|an (a7 rfl)<|an (aH rfl o5 (by decide))<|ca (fun m=>yV (a6 rfl qP lP (by rw[bq,h8]) (fun j u hu=>(m.aZ 0 rfl).az j u (AJ hu))) ((rfl:_=Value.agg (eh h).toArray)))<|an (aa rfl)<|an (a7 rfl)<|an (aH rfl jV (by decide))<|ca (fun m=>aw rfl ea ((m.aZ 0 rfl).az 9 _ (tF h8)))<|an (nY rfl rfl Tryz.underlying27 ek (show((64:Nat):Int)=64 from rfl) (by omega))<| ?_
  refine dV (cN rfl Tryz.call227 (GN (by omega) h8 (l:=(q.take 64))) [] rfl (.x 1 rfl (View.own.trans (View.take hq64)) (.s 1 rfl .nil)) ?_)
  rintro _ _ _ ⟨rfl,rfl,rfl⟩
  refine⟨rfl, ?_⟩
  refine⟨(fun _=>wk [0,0] [0,1] rfl rfl), ?_⟩
  refine an (a7 rfl)<|an (aH rfl o5 (by decide))<| ?_
  have hb8:=jg h8 (q.take 64)
  refine kr (o8 0 rfl rfl rfl lP (by rw[bq,hb8]) ia (by rw[hls];decide) ⟨(fun h=>absurd h (by decide)), ?_⟩)
  refine eE (fun w m=>m.bQ 0 rfl (show _=aL g 308 (na (ew h (q.take 64)) (s.n+mb) A1 q.length c1)from by rw[Nat.zero_add,B5 h8 hb8])) ?_
  have hls2:=j9 (n:=s.n+mb) (A:=A1) (m:=q.length) (c:=c1) hb8
  refine eE (X' :=aG 5 1 (.slice (if c1=64 then A1 else A1.map (·.add (64*1))) (q.length-64) (c1-64)) (q.length-64) ((aR q).drop (64*1))::_) (fun w m=>(m.perm (ar [1] _ [_] _ rfl)).w7 (View.sO hq64 hqc)) ?_
  refine br<|al (ρ' :=[(27,_),(0,_),(1,_)]) ⟨rfl,rfl,rfl,trivial⟩<|ak (X' :=[_,_]) (S' :=[_,_]) (fun _ m=>m)<|ag<|aj<|hy (fun _=>aa rfl)<|hy (fun _=>aa rfl)<|hy (fun _=>a7 rfl)<|hy (fun _=>aH rfl jV (by decide))<|hy (fun m=>aw rfl ea ((m.aZ 1 rfl).az 9 _ (tF hb8)))<|hy (fun _=>ej rfl rfl Tryz.underlying27 ek (show((64:Nat):Int)=64 from rfl) (by omega))<|hy (fun _=>a7 rfl)<|hy (fun _=>aH rfl jV (by decide))<| ?_
  refine cJ (cm 1 rfl rfl rfl oO rfl (by rw[hls2];decide) ?_)
  refine ai<|al (ρ' :=[(27,_),(0,_),(1,_)]) ⟨rfl,rfl,rfl,trivial⟩<|ak (X' :=[_,_]) (S' :=[_,_]) (fun _ m=>m)<|aM<| ?_
  have hqd:(q.drop 64).length=q.length-64:=List.length_drop
  have e9:(aR q).drop (64*1)=aR (q.drop 64):=by simp[aR,List.map_drop]
  generalize hA2:(if c1=64 then A1 else A1.map (·.add (64*1)))=A2
  refine ak (fun w m=>m.bQ 0 rfl (show _=aL g 308 (na (ew h (q.take 64)) (s.n+mb) A2 (q.drop 64).length (c1-64))from by rw[Nat.zero_add,tU hb8,hqd])) ?_
  refine ak (fun w m=>m.bQ 1 rfl (show _=aG 5 1 (.slice A2 (q.drop 64).length (c1-64)) (q.drop 64).length (aR (q.drop 64))from by rw[hqd,e9])) ?_
  refine pz (ew h (q.take 64)) A2 (c1-64) (q.drop 64) (dn++q.take 64) ⟨rfl,rfl,trivial⟩ [1,0] rfl [0,1] rfl (⟨hb8,by omega,by rw[List.append_assoc,List.take_append_drop];exact hdq,by rw[List.length_append,List.length_take];omega,fun D h1 h2=>by rw[←List.append_assoc,qn (by rw[List.length_append];omega) (by rw[List.length_take];omega),←hD D h1 h2]⟩) (by omega)
 ·refine bK<|ao<|ao<|aB<| ?_
  have hok:∀all,s.ok all→uB.ok ⟨h,s.n+mb,A1,c1,q⟩ (all++l):=fun all ok=>by
   obtain⟨D,e1,e2,e3⟩:=ok.G2
   refine⟨h8, ?_,D++dn, ?_, ?_,hD D e2 e3⟩
   ·show s.n+mb=_
    rw[List.length_append,ok.n,hlm]
   ·show(D++dn)++q=_
    rw[List.append_assoc,hdq,←List.append_assoc,e1]
   ·rw[List.length_append];omega
  refine ak (X' :=ny g ⟨h,s.n+mb,A1,c1,q⟩::_) (fun w m=>(m.perm (ar [0,0] _ [_,_] _ rfl)).pack) ?_
  exact fD trivial rfl [0] rfl [] rfl ⟨_,rfl,rfl,rfl,⟨(by show q.length<64;omega),hok⟩⟩
theorem BX{h:List UInt32}{n:Nat}{A:Option Addr}{m c:Nat}(hh:h.length=8){z:List Value}(hz:z.length=10):bz (bz (bz z 0 (eh h)) 8 [.int .i64 (n:Int)]) 9 [.slice A m c]=na h n A m c:=by
 have hw:(eh h).length=8:=by rw[bq,hh]
 have e1:bz z 0 (eh h)=eh h++z.drop 8:=by simp[bz,hw]
 match hq:z.drop 8,(show(z.drop 8).length=2 by rw[List.length_drop,hz])with
 | [x,y],_=>
  rw[e1,hq]
  have e2:bz (eh h++[x,y]) 8 [.int .i64 (n:Int)]=eh h++[.int .i64 (n:Int),y]:=by
   rw[bz,List.take_append_of_le_length (by omega),List.take_of_length_le (by omega),List.drop_append,List.drop_of_length_le (by omega)]
   simp[hw]
  rw[e2,bz,List.take_append,List.take_of_length_le (by omega),List.drop_of_length_le (by simp[hw])]
  simp[hw,na]
theorem DW{P:Program}{pl:Nat→Option (Nat×Nat)}{h:List UInt32}(hh:h.length=8){zs:List Value}(hz:zs.length=10)(p0:pl 0=some (0,8))(p1:pl 1=some (8,1))(p2:pl 2=some (9,1)){n:Nat}{A:Option Addr}{m c:Nat}:
  wJ P pl zs [(0,.agg (eh h).toArray),(1,.int .i64 (n:Int)),(2,.slice A m c)] (na h n A m c):=by
 have hw:(eh h).length=8:=by rw[bq,hh]
 have l1:(bz zs 0 (eh h)).length=10:=by rw[dK (by omega),hz]
 have l2:(bz (bz zs 0 (eh h)) 8 [Value.int .i64 (n:Int)]).length=10:=by rw[dK (by rw[l1];show 8+1≤10;decide),l1]
 refine .cons (vs:=eh h) p0 rfl hw (by omega) (.cons (vs:=[.int .i64 (n:Int)]) p1 rfl rfl (by omega) (.cons (vs:=[.slice A m c]) p2 rfl rfl (by omega) ?_))
 have e:=BX (n:=n) (A:=A) (m:=m) (c:=c) hh hz
 show wJ P pl (bz (bz (bz zs 0 (eh h)) 8 [.int .i64 (n:Int)]) 9 [.slice A m c]) [] _
 rw[e]
 exact .nil
theorem CN{g:Nat}{s:uB}(hh:s.h.length=8)(hr:s.rest.length≤140737488351232):cj Tryz.prog 228 [.pointer (some ⟨g,0,none⟩)] [ny g s] [] (fun v_ X_ S_=>∃g2 s2,v_=(.pointer (some ⟨g2,0,none⟩))∧X_=[ny g s,ny g2 s2]∧S_=[]∧(s2.h=s.h∧s2.n=s.n∧s2.rest=s.rest)):=by
 refine aQ (N:=18) Tryz.func228 rfl rfl (by simp) fun b=> ?_
 refine bw (fun w m=>(m.perm (ar [0] _ [_] _ rfl)).unpack) ?_
 have hl0:=j9 (n:=s.n) (A:=s.A) (m:=s.rest.length) (c:=s.c) hh
 refine ah<|aj<|hy (fun _=>ab rfl)<|ai<|ag<|ah<|cG [12,14] [(0,some 2),(1,some 1),(2,some 1),(3,some 1),(4,some 2),(5,some 1),(6,some 1),(7,some 1),(8,some 2),(9,some 2),(10,some 0),(11,some 0),(12,none),(13,some 1),(14,none),(15,some 2)] (by kernel_rfl) (by kernel_rfl) rfl 99<|an (aa rfl)<|an (a7 rfl)<|an (aH rfl o5 (by decide))<|ca (fun m=>yV (a6 rfl qP lP (by rw[bq,hh]) (fun j u hu=>(m.aZ 0 rfl).az j u (AJ hu))) ((rfl:_=Value.agg (eh s.h).toArray)))<|an (aa rfl)<|an (a7 rfl)<|an (aH rfl mA (by decide))<|ca (fun m=>aw rfl fS ((m.aZ 0 rfl).az 8 _ (wm hh)))<|an (aa rfl)<|an (a7 rfl)<|an (aH rfl jV (by decide))<|ca (fun m=>aw rfl ea ((m.aZ 0 rfl).az 9 _ (tF hh)))<| ?_
 refine dV (cN rfl Tryz.call117 (rT (by omega)) [] rfl (.x 1 rfl .own .nil) ?_)
 rintro _ _ _ ⟨v,rfl,rfl,rfl⟩
 refine⟨rfl, ?_⟩
 refine⟨(fun _=>wk [1,1] [] rfl rfl), ?_⟩
 refine b5 (fun m=>(m.own 0 rfl).slice) ?_
 rintro⟨A_x,c_x,rfl,hc_x⟩
 refine b5 (fun m=>(m.ord 0 rfl).2.1) fun hA_x=> ?_
 refine an (cy Dw rfl rfl (by kernel_rfl) (DW hh rfl (by kernel_rfl) (by kernel_rfl) (by kernel_rfl)))<| ?_
 refine dV (cI rfl (fun g17=>⟨(fun _=>wk [2,2] [] rfl rfl), ?_⟩))
 refine an (ab rfl)<|br<|al (ρ' :=[(2,_),(0,_)]) ⟨rfl,rfl,trivial⟩<|ak (X' :=[_,_,_,_]) (S' :=[]) (fun _ m=>m)<|ag<|aX<| ?_
 refine ak (fun w m=>m.bQ 0 rfl (show _=aL g17 308 (na s.h s.n A_x s.rest.length c_x)from congrArg (aL _ _) (bA _))) ?_
 refine ak (X' :=ny g s::_) (fun w m=>(m.perm (ar [2,2] _ [_,_] _ rfl)).pack) ?_
 refine ak (X' :=ny g17 ⟨s.h,s.n,A_x,c_x,s.rest⟩::_) (fun w m=>(m.perm (ar [1,1] _ [_,_] _ rfl)).pack) ?_
 exact bf trivial rfl rfl [1,0] rfl [] rfl ⟨_,_,rfl,rfl,rfl,⟨rfl,rfl,rfl⟩⟩
end Go.Proofs.YtmibdabdlgmafaaGreatDoor
end
section
set_option maxRecDepth 20000
namespace Go.Proofs.YtmibdabdlgmafaaGreatDoor
open Go.Eng Go.Hx
theorem zr(n:Nat)(h:n<18446744073709551616):IntKind.u64.wrap (n:Int)=(n:Int):=by
 simp[IntKind.wrap,IntKind.signed,IntKind.bits];omega
theorem yC{n i:Nat}(hi:i<8):(sT n).take (i+1)=(sT n).take i++[UInt8.ofNat (n/256 ^ (7-i))]:=by
 rw[sT,←List.map_take,←List.map_take,List.take_range,List.take_range,show min (i+1) 8=i+1 by omega,show min i 8=i by omega,List.range_succ,List.map_append];rfl
theorem HS{i:Nat}(hi:i<8):2 ^ (56-8*i)=256 ^ (7-i):=by
 rw[show(256:Nat)=2 ^ 8 from rfl,←Nat.pow_mul];congr 1;omega
theorem vZ(h:List UInt32)(j:Nat)(hj:j<h.length):eO (h.take (j+1))=eO (h.take j)++Be (h.getD j 0):=by
 rw[List.take_succ_eq_append_getElem hj,eO,eO,List.flatMap_append]
 simp[List.getD,List.getElem?_eq_getElem hj]
theorem pr(h:List UInt32):∀j,j≤h.length→(eO (h.take j)).length=4*j
 |0,_=>rfl
 |j+1,hj=>by rw[vZ h j (by omega),List.length_append,pr h j (by omega)];show 4*j+4=_;omega
theorem Hk{p r:List UInt8}{k:Nat}{a b c d x y z u:UInt8}(hp:p.length=k):
  ((((aR (p++x::y::z::u::r)).set k (B8 a)).set (k+1) (B8 b)).set (k+2) (B8 c)).set (k+3) (B8 d)=aR (p++a::b::c::d::r):=by
 subst hp
 simp[aR,List.set_append]
theorem FH{g:Nat}{s:uB}{all:List UInt8}(ok:s.ok all)(hr:s.rest.length<64)(ha:all.length≤140737488351232):cj Tryz.prog 174 [.pointer (some ⟨g,0,none⟩)] [ny g s] [eX] (fun v_ X_ S_=>v_=(.agg (aR (bc all)).toArray)∧X_=[ny g s]∧S_=[]):=by
 have hh:=ok.len
 have hsn:=ok.n
 have hl0:=j9 (n:=s.n) (A:=s.A) (m:=s.rest.length) (c:=s.c) hh
 have hz64:ix s.n<64:=Nat.mod_lt _ (by decide)
 have hzp:(s.n+(1+ix s.n)) % 64=56:=by unfold ix;omega
 have hzm:∀j,j<ix s.n→(s.n+(1+j)) % 64≠56:=fun j hj=>by unfold ix at hj;omega
 refine aQ (N:=83) Tryz.func174 rfl rfl (by simp) fun b=> ?_
 refine ah<|aj<| ?_
 refine hx (aP dT (fun g2=> ?_))
 refine ai<|ak (X' :=[_,_]) (S' :=[_]) (fun _ m=>m)<|ag<|ah<|aj<|hy (fun _=>aa rfl)<| ?_
 refine hx (aq rfl Tryz.call228 (CN (by omega) (by omega)) [1] rfl [] rfl ?_)
 rintro _ _ _ ⟨g22,s2,rfl,rfl,rfl,hp⟩
 refine hy (fun _=>ab rfl)<|ai<|al (ρ' :=[(3,_),(2,_),(0,_)]) ⟨rfl,rfl,rfl,trivial⟩<|ak (X' :=[_,_,_]) (S' :=[_]) (fun _ m=>m)<|ag<|ah<|aj<| ?_
 refine hx (bY Tryz.underlying27 fb rfl rfl rfl (by simp[Value.cells,B8]) (by decide) (by decide) (fun g12=> ?_))
 have hA_b12:0<1→(some (⟨g12,0,none⟩:Addr))≠none:=fun _ h=>by cases h
 refine hy (fun _=>ab rfl)<|ai<|al (ρ' :=[(4,_),(3,_),(2,_),(0,_)]) ⟨rfl,rfl,rfl,rfl,trivial⟩<|ak (X' :=[_,_,_,_]) (S' :=[_]) (fun _ m=>m)<|ag<|ah<|aI<| ?_
 obtain⟨c1,c2,c3⟩:=hp
 refine bw (fun w m=>m.bQ 0 rfl (show _=aG 5 1 (.slice (some ⟨g12,0,none⟩) 1 1) (1+0) (aR (128::List.replicate 0 0))from rfl)) ?_
 refine fJ (fun j A1 cc=>ix s.n-j) (fun j A1 cc=>[(4,.slice A1 (1+j) cc)]) (fun j A1 cc=>[aG 5 1 (.slice A1 (1+j) cc) (1+j) (aR (128::List.replicate j 0)),ny g s]) (fun j A1 cc=>[]) (fun j A1 cc=>j≤ix s.n) 0 (some ⟨g12,0,none⟩) 1 [(3,_),(2,_),(0,_)] ⟨rfl,rfl,rfl,trivial⟩ [0,0] rfl [] rfl (Nat.zero_le _) ⟨rfl,trivial⟩ (fun j A1 cc hjz=> ?_)
 refine bw (fun w m=>(m.perm (ar [1] _ [_] _ rfl)).unpack) ?_
 refine ah<|ah<|aj<|hy (fun _=>aa rfl)<|hy (fun _=>a7 rfl)<|hy (fun _=>aH rfl mA (by decide))<|hy (fun m=>aw rfl fS ((m.aZ 0 rfl).az 8 _ (wm hh)))<|hy (fun _=>aa rfl)<|hy (fun _=>aU rfl Tryz.underlying27)<|hy (fun _=>aN rfl rfl (bC (by omega) (by omega)))<|hy (fun _=>gU rfl rfl (by omega) (by omega))<|hy (fun _=>dP rfl rfl)<|ai<|al (ρ' :=[(21,_),(4,_),(3,_),(2,_),(0,_)]) ⟨rfl,rfl,rfl,rfl,rfl,trivial⟩<|ag<| ?_
 refine bw (X' :=ny g s::_) (fun w m=>(m.perm (ar [0,0] _ [_,_] _ rfl)).pack) ?_
 refine cD rfl (fun hne=> ?_) (fun hne=> ?_)
 ·have hj:j<ix s.n:=by
   rcases Nat.lt_or_eq_of_le hjz with h|h
   ·exact h
   ·rw[←h]at hzp;omega
  refine aC<|ag<|aI<|aj<|hy (fun _=>aa rfl)<| ?_
  refine hx (bY Tryz.underlying27 fb rfl rfl rfl (by simp[Value.cells,B8]) (by decide) (by decide) (fun g23=> ?_))
  have hA_b23:0<1→(some (⟨g23,0,none⟩:Addr))≠none:=fun _ h=>by cases h
  refine aT (fun w m=>m.bQ 0 rfl (show _=aG 5 1 (.slice (some ⟨g23,0,none⟩) 1 1) 1 (aR [0])from rfl)) ?_
  refine hx (bL 2 rfl rfl rfl Tryz.underlying27 Tryz.underlying27 (by exact .inl rfl) fb rfl (fun m=>Src.b7 (m.ord 0 rfl)) aS (by unfold maxLen;omega) (by omega) (fun u=> ?_))
  refine aD (fun m=>(m.own 0 rfl).slice) ?_
  rintro⟨A_b12,c_b12,rfl,hc_b12⟩
  refine aD (fun m=>(m.ord 0 rfl).2.1) fun hA_b12=> ?_
  refine hy (fun _=>ab rfl)<|ai<|al (ρ' :=[(4,_),(21,_),(3,_),(2,_),(0,_)]) ⟨rfl,rfl,rfl,rfl,rfl,trivial⟩<|ak (X' :=[_,_,_,_,_]) (S' :=[_]) (fun _ m=>m)<|aM<| ?_
  refine ak (fun w m=>m.bQ 0 rfl (show _=aG 5 1 (.slice A_b12 (1+(j+1)) c_b12) (1+(j+1)) (aR (128::List.replicate (j+1) 0))from by rw[Nat.add_assoc,List.replicate_succ',aR,aR,aR,←List.map_append];rfl)) ?_
  refine fu (j+1) A_b12 c_b12 ⟨rfl,rfl,rfl,rfl,trivial⟩ [0,1,1,1] rfl [0] rfl (by omega) (by omega)
 ·have hj:j=ix s.n:=by
   refine Decidable.byContradiction fun hn=> ?_
   have:=hzm j (by omega)
   omega
  subst hj
  have hsl:IntKind.u64.wrap ((s.n:Int)*8)=((8*s.n:Nat):Int):=by
   rw[show(s.n:Int)*8=((8*s.n:Nat):Int) by omega]
   exact zr _ (by omega)
  refine bK<|ao<|ao<|aB<|ag<|ah<|aj<|hy (fun _=>aa rfl)<|hy (fun _=>a7 rfl)<|hy (fun _=>aH rfl mA (by decide))<|hy (fun m=>aw rfl fS ((show fE _ _ _ _ from m.GG 0 rfl 0 rfl).az 8 _ (wm hh)))<|hy (fun _=>bW rfl Tryz.underlying3 Tryz.underlying310 (zr s.n (by omega)))<|hy (fun _=>s5 (p:=8) rfl rfl (by decide) (by decide) (by decide) hsl)<|hy (fun _=>ab rfl)<|ai<|al (ρ' :=[(5,_),(21,_),(4,_),(3,_),(2,_),(0,_)]) ⟨rfl,rfl,rfl,rfl,rfl,rfl,trivial⟩<|ag<|ah<|ah<|aj<|hy (fun _=>aa rfl)<|ai<|ag<|aI<| ?_
  generalize hz:ix s.n=z at hz64
  refine bw (fun w m=>m.bQ 1 rfl (show _=aG 5 1 (.slice A1 (1+z+0) cc) (1+z+0) (aR (128::List.replicate z 0++(sT (8*s.n)).take 0))from by rw[List.take_zero,List.append_nil];rfl)) ?_
  refine fJ (fun i A2 ce=>8-i) (fun i A2 ce=>[(4,.slice A2 (1+z+i) ce),(31,.int .i64 (i:Nat))]) (fun i A2 ce=>[aG 5 1 (.slice A2 (1+z+i) ce) (1+z+i) (aR (128::List.replicate z 0++(sT (8*s.n)).take i))]) (fun i A2 ce=>[]) (fun i A2 ce=>i≤8) 0 A1 cc [(5,_),(21,_),(3,_),(2,_),(0,_)] ⟨rfl,rfl,rfl,rfl,rfl,trivial⟩ [0] rfl [] rfl (Nat.zero_le _) ⟨rfl,rfl,trivial⟩ (fun i A2 ce hi8=> ?_)
  refine ah<|aj<|hy (fun _=>bu rfl rfl)<|ai<|ag<|ah<| ?_
  refine cD rfl (fun hi=> ?_) (fun hi=> ?_)
  ·have hcv:IntKind.u8.wrap (((8*s.n:Nat):Int)/((2 ^ (56-8*i):Nat):Int))=((UInt8.ofNat (8*s.n/256 ^ (7-i))).toNat:Int):=by
    rw[←Int.natCast_ediv,HS (by omega)]
    exact gS _
   have hsb:(56:Int)-8*(i:Int)=((56-8*i:Nat):Int):=by omega
   refine aC<|ag<|ah<|aI<|ah<|aj<|hy (fun _=>aa rfl)<|hy (fun _=>ab rfl)<|ai<|al (ρ' :=[(6,_),(32,_),(4,_),(31,_),(5,_),(21,_),(3,_),(2,_),(0,_)]) ⟨rfl,rfl,rfl,rfl,rfl,rfl,rfl,rfl,rfl,trivial⟩<|ag<|aj<|hy (fun _=>aa rfl)<|hy (fun _=>aa rfl)<|hy (fun _=>aa rfl)<|hy (fun _=>fK rfl rfl (bC (by omega) (by omega)))<|hy (fun _=>cw rfl rfl (bC (by omega) (by omega)))<| ?_
   rw[hsb]
   refine hy (fun _=>oF rfl rfl (by omega) (by simp[IntKind.bits];omega) (show(2:Int) ^ (((56-8*i:Nat):Int)).toNat=((2 ^ (56-8*i):Nat):Int) by rw[Int.toNat_natCast];simp))<|hy (fun _=>bW rfl Tryz.underlying310 Tryz.underlying5 hcv)<| ?_
   refine hx (bY Tryz.underlying27 fb rfl rfl rfl (by simp[Value.cells,B8]) (by decide) (by decide) (fun g41=> ?_))
   have hA_b41:0<1→(some (⟨g41,0,none⟩:Addr))≠none:=fun _ h=>by cases h
   refine aT (fun w m=>m.bQ 0 rfl (show _=aG 5 1 (.slice (some ⟨g41,0,none⟩) 1 1) 1 (aR [UInt8.ofNat (8*s.n/256 ^ (7-i))])from rfl)) ?_
   refine hx (bL 1 rfl rfl rfl Tryz.underlying27 Tryz.underlying27 (by exact .inl rfl) fb rfl (fun m=>Src.b7 (m.ord 0 rfl)) aS (by unfold maxLen;omega) (by omega) (fun u=> ?_))
   refine aD (fun m=>(m.own 0 rfl).slice) ?_
   rintro⟨A_b12,c_b12,rfl,hc_b12⟩
   refine aD (fun m=>(m.ord 0 rfl).2.1) fun hA_b12=> ?_
   refine hy (fun _=>ab rfl)<|ai<|al (ρ' :=[(4,_),(6,_),(32,_),(31,_),(5,_),(21,_),(3,_),(2,_),(0,_)]) ⟨rfl,rfl,rfl,rfl,rfl,rfl,rfl,rfl,rfl,trivial⟩<|ak (X' :=[_,_,_,_,_]) (S' :=[_]) (fun _ m=>m)<|aM<|ag<|aj<|hy (fun _=>aN rfl rfl (bC (by omega) (by omega)))<|hy (fun _=>aa rfl)<|ai<|al (ρ' :=[(31,_),(4,_),(6,_),(32,_),(5,_),(21,_),(3,_),(2,_),(0,_)]) ⟨rfl,rfl,rfl,rfl,rfl,rfl,rfl,rfl,rfl,trivial⟩<| ?_
   refine ak (fun w m=>m.bQ 0 rfl (show _=aG 5 1 (.slice A_b12 (1+z+(i+1)) c_b12) (1+z+(i+1)) (aR (128::List.replicate z 0++(sT (8*s.n)).take (i+1)))from by rw[yC (by omega),←List.append_assoc];simp[aR,Nat.add_assoc])) ?_
   refine fu (i+1) A_b12 c_b12 ⟨rfl,rfl,rfl,rfl,rfl,rfl,rfl,trivial⟩ [0,1,1,1] rfl [0] rfl (by omega) (by omega)
  ·obtain rfl:i=8:=by omega
   have hpad:all++(128::List.replicate z 0++(sT (8*s.n)).take 8)=jd all:=by
    rw[List.take_of_length_le (by simp[sT]),jd,←hsn,hz,List.append_assoc]
   refine bK<|ao<|ao<|aB<|ag<|ah<|aj<|hy (fun _=>aa rfl)<|hy (fun _=>aa rfl)<| ?_
   refine hx (cN rfl Tryz.call173 (vV (by rw[c1];exact hh) (by rw[c2];omega) (by rw[c3];omega) (s:=s2) (l:=(128::List.replicate z 0++(sT (8*s.n)).take 8))) [2] rfl (.x 0 rfl .own (.s 0 rfl .nil)) ?_)
   rintro _ _ _ ⟨s1,rfl,rfl,rfl,hw⟩
   refine⟨rfl, ?_⟩
   obtain⟨hw1,hw2⟩:=hw
   have ok2:s2.ok all:=⟨by rw[c1];exact hh,by rw[c2];exact hsn,by rw[c1,c3];exact ok.G2⟩
   have ok3:=hw2 all ok2
   rw[hpad]at ok3
   have hh3:=ok3.len
   have hfin:s1.h=fB mw (jd all):=by
    obtain⟨D,e1,e2,e3⟩:=ok3.G2
    have hl:=congrArg List.length e1
    rw[List.length_append]at hl
    have hp:=oH all
    have:s1.rest=[]:=List.eq_nil_of_length_eq_zero (by omega)
    rw[this,List.append_nil]at e1
    rw[e3,e1]
   have hsha:eO s1.h=bc all:=by rw[hfin];rfl
   have hd32:=pr s1.h
   have hl3:=j9 (n:=s1.n) (A:=s1.A) (m:=s1.rest.length) (c:=s1.c) hh3
   refine aT (fun w m=>(m.perm (ar [0] _ [_] _ rfl)).unpack) ?_
   refine ai<|al (ρ' :=[(32,_),(4,_),(31,_),(5,_),(21,_),(3,_),(2,_),(0,_)]) ⟨rfl,rfl,rfl,rfl,rfl,rfl,rfl,rfl,trivial⟩<|ak (X' :=[_,_,_,_,_]) (S' :=[_]) (fun _ m=>m)<|ag<|ah<|aj<| ?_
   refine hx (aP dT (fun g7=> ?_))
   refine aT (fun w m=>m.bQ 0 rfl (show _=aL g7 53 (aR (eO (s1.h.take 0)++List.replicate (32-4*0) 0))from rfl)) ?_
   refine ai<|ak (X' :=[_,_,_,_,_,_]) (S' :=[_]) (fun _ m=>m)<|ag<|ah<|ah<|aj<|hy (fun _=>aa rfl)<|hy (fun _=>a7 rfl)<|hy (fun _=>aH rfl o5 (by decide))<|hy (fun m=>yV (a6 rfl qP lP (by rw[bq,hh3]) (fun j u hu=>(m.aZ 1 rfl).az j u (AJ hu))) ((rfl:_=Value.agg (eh s1.h).toArray)))<|hy (fun _=>aa rfl)<|ai<|al (ρ' :=[(51,_),(50,_),(7,_),(32,_),(4,_),(31,_),(5,_),(21,_),(3,_),(2,_),(0,_)]) ⟨rfl,rfl,rfl,rfl,rfl,rfl,rfl,rfl,rfl,rfl,rfl,trivial⟩<|ag<|aI<| ?_
   refine dD (fun k=>8-k) (fun k=>[(51,.int .i64 (k:Nat))]) (fun k=>[aL g7 53 (aR (eO (s1.h.take k)++List.replicate (32-4*k) 0))]) (fun k=>[]) (fun k=>k≤8) 0 [(50,_),(7,_),(32,_),(4,_),(31,_),(5,_),(21,_),(3,_),(2,_),(0,_)] ⟨rfl,rfl,rfl,rfl,rfl,rfl,rfl,rfl,rfl,rfl,trivial⟩ [0] rfl [] rfl (Nat.zero_le _) ⟨rfl,trivial⟩ (fun k hk8=> ?_)
   refine ah<|aj<|hy (fun _=>bu rfl rfl)<|ai<|ag<|ah<| ?_
   refine cD rfl (fun hk=> ?_) (fun hk=> ?_)
   ·have hdk:=hd32 k (by omega)
    have hr4:List.replicate (32-4*k) (0:UInt8)=0::0::0::0::List.replicate (32-4*(k+1)) 0:=by
     rw[show 32-4*k=(32-4*(k+1))+4 by omega];rfl
    refine aC<|ag<|ah<|aI<|ah<|aj<|hy (fun _=>aa rfl)<|hy (fun _=>yV (D0 rfl rfl Tryz.underlying306 bJ bR rfl (by omega) (bg (by omega))) ((rfl:_=Wd (s1.h.getD k 0))))<|hy (fun _=>ab rfl)<|hy (fun _=>ab rfl)<|ai<|al (ρ' :=[(9,_),(8,_),(52,_),(51,_),(50,_),(7,_),(32,_),(4,_),(31,_),(5,_),(21,_),(3,_),(2,_),(0,_)]) ⟨rfl,rfl,rfl,rfl,rfl,rfl,rfl,rfl,rfl,rfl,rfl,rfl,rfl,rfl,trivial⟩<|ag<|aj<|hy (fun _=>aa rfl)<|hy (fun _=>fK rfl rfl (bC (by omega) (by omega)))<|hy (fun _=>aa rfl)<|hy (fun _=>fK rfl rfl (bC (by omega) (by omega)))<|hy (fun _=>aN rfl rfl (bC (by omega) (by omega)))<|hy (fun _=>aa rfl)<|hy (fun _=>fK rfl rfl (bC (by omega) (by omega)))<|hy (fun _=>aN rfl rfl (bC (by omega) (by omega)))<|hy (fun _=>aa rfl)<|hy (fun _=>fK rfl rfl (bC (by omega) (by omega)))<|hy (fun _=>aN rfl rfl (bC (by omega) (by omega)))<|hy (fun _=>aa rfl)<|hy (fun _=>mD (k:=24) (b:=16777216) (by decide) rfl rfl rfl)<|hy (fun _=>zY rfl Tryz.underlying166 Tryz.underlying5)<|hy (fun _=>aa rfl)<|hy (fun _=>mD (k:=16) (b:=65536) (by decide) rfl rfl rfl)<|hy (fun _=>zY rfl Tryz.underlying166 Tryz.underlying5)<|hy (fun _=>aa rfl)<|hy (fun _=>mD (k:=8) (b:=256) (by decide) rfl rfl rfl)<|hy (fun _=>zY rfl Tryz.underlying166 Tryz.underlying5)<|hy (fun _=>aa rfl)<|hy (fun _=>zY rfl Tryz.underlying166 Tryz.underlying5)<|hy (fun _=>b9 rfl rfl Tryz.underlying53 ek (show((4*k:Nat):Int)=_ by omega) (by omega))<| ?_
    refine cJ (cm 0 rfl rfl rfl ek rfl (by simp[aR];omega) ?_)
    refine hy (fun _=>b9 rfl rfl Tryz.underlying53 ek (show((4*k+1:Nat):Int)=_ by omega) (by omega))<| ?_
    refine cJ (cm 0 rfl rfl rfl ek rfl (by simp[aR];omega) ?_)
    refine hy (fun _=>b9 rfl rfl Tryz.underlying53 ek (show((4*k+2:Nat):Int)=_ by omega) (by omega))<| ?_
    refine cJ (cm 0 rfl rfl rfl ek rfl (by simp[aR];omega) ?_)
    refine hy (fun _=>b9 rfl rfl Tryz.underlying53 ek (show((4*k+3:Nat):Int)=_ by omega) (by omega))<| ?_
    refine cJ (cm 0 rfl rfl rfl ek rfl (by simp[aR];omega) ?_)
    refine ai<|al (ρ' :=[(9,_),(8,_),(52,_),(51,_),(50,_),(7,_),(32,_),(4,_),(31,_),(5,_),(21,_),(3,_),(2,_),(0,_)]) ⟨rfl,rfl,rfl,rfl,rfl,rfl,rfl,rfl,rfl,rfl,rfl,rfl,rfl,rfl,trivial⟩<|ak (X' :=[_,_,_,_,_,_]) (S' :=[_]) (fun _ m=>m)<|aM<|ag<|aj<|hy (fun _=>aN rfl rfl (bC (by omega) (by omega)))<|hy (fun _=>aa rfl)<|ai<|al (ρ' :=[(51,_),(9,_),(8,_),(52,_),(50,_),(7,_),(32,_),(4,_),(31,_),(5,_),(21,_),(3,_),(2,_),(0,_)]) ⟨rfl,rfl,rfl,rfl,rfl,rfl,rfl,rfl,rfl,rfl,rfl,rfl,rfl,rfl,trivial⟩<| ?_
    refine ak (fun w m=>m.bQ 0 rfl (show _=aL g7 53 (aR (eO (s1.h.take (k+1))++List.replicate (32-4*(k+1)) 0))from by rw[hr4,Nat.zero_add,Nat.zero_add,Nat.zero_add,Nat.zero_add,Hk hdk,vZ _ _ (by omega)];simp[Be])) ?_
    refine cR (k+1) ⟨rfl,rfl,rfl,rfl,rfl,rfl,rfl,rfl,rfl,rfl,rfl,trivial⟩ [0,0,0,0,0,0] rfl [0] rfl (by omega) (by omega)
   ·obtain rfl:k=8:=by omega
    refine bw (fun w m=>m.bQ 0 rfl (show _=aL g7 53 (aR (bc all))from by rw[List.take_of_length_le (by omega),hsha];simp)) ?_
    refine bK<|ao<|ao<|aB<|ag<|ah<|aj<|hy (fun m=>yV (a6 rfl cx bo (by rw[ay,bk]) ((m.aZ 0 rfl).az)) ((rfl:_=Value.agg (aR (bc all)).toArray)))<| ?_
    refine cJ (aK 5 rfl rfl rfl bo (by rw[ay,bk]) aS rfl ?_)
    refine ai<|al (ρ' :=[(52,_),(51,_),(50,_),(7,_),(32,_),(4,_),(31,_),(5,_),(21,_),(3,_),(2,_),(0,_)]) ⟨rfl,rfl,rfl,rfl,rfl,rfl,rfl,rfl,rfl,rfl,rfl,rfl,trivial⟩<|ak (X' :=[_,_,_,_,_,_]) (S' :=[_]) (fun _ m=>m)<|ag<|aX<| ?_
    exact fx trivial rfl rfl cx bo (by rw[ay,bk]) (fun m=>(m.aZ 0 rfl).az) [5] rfl [] rfl ⟨rfl,rfl,rfl⟩
theorem wY{A:Option Addr}{n c:Nat}{l:List UInt8}(hn:n≤140737488351232):cj Tryz.prog 102 [.slice A n c] [] [cV 1 A n (aR l),eX] (fun v_ X_ S_=>v_=(.agg (aR (bc l)).toArray)∧X_=[]∧S_=[]):=by
 refine aQ (N:=10) Tryz.func102 rfl rfl (by simp) fun b=> ?_
 refine aY (fun m=>ig (m.rd 0 rfl)) ?_
 rintro⟨hl_r,hA_r⟩
 have hln:l.length=n:=hl_r
 refine ah<|aj<| ?_
 refine hx (aP dT (fun g2=> ?_))
 refine ai<|ak (X' :=[_]) (S' :=[_,_]) (fun _ m=>m)<|ag<|ah<|aj<| ?_
 refine hx (aq rfl Tryz.call172 (FD) [] rfl [] rfl ?_)
 rintro _ _ _ ⟨g,rfl,rfl,rfl⟩
 refine hy (fun _=>ab rfl)<|ai<|al (ρ' :=[(3,_),(2,_),(0,_)]) ⟨rfl,rfl,rfl,trivial⟩<|ak (X' :=[_,_]) (S' :=[_,_]) (fun _ m=>m)<|ag<|ah<|aj<|hy (fun _=>aa rfl)<|hy (fun _=>aa rfl)<| ?_
 refine hx (aq rfl Tryz.call173 (vV rfl (by show 0+n≤_;omega) (by show 0+n≤_;omega) (s:=⟨mw,0,none,0,[]⟩)) [0] rfl [0,1] rfl ?_)
 rintro _ _ _ ⟨s1,rfl,rfl,rfl,hw⟩
 refine ai<|al (ρ' :=[(3,_),(2,_),(0,_)]) ⟨rfl,rfl,rfl,trivial⟩<|ak (X' :=[_,_]) (S' :=[_,_]) (fun _ m=>m)<|ag<|ah<|aj<| ?_
 obtain⟨hw1,hw2⟩:=hw
 have ok1:=hw2 [] Ek
 rw[List.nil_append]at ok1
 refine hy (fun _=>aa rfl)<| ?_
 refine hx (aq rfl Tryz.call174 (FH ok1 hw1 (by omega) (all:=l)) [0] rfl [1] rfl ?_)
 rintro _ _ _ ⟨rfl,rfl,rfl⟩
 refine cJ (aK 1 rfl rfl rfl bo (by rw[ay,bk]) aS rfl ?_)
 refine ai<|al (ρ' :=[(3,_),(2,_),(0,_)]) ⟨rfl,rfl,rfl,trivial⟩<|ak (X' :=[_,_]) (S' :=[_,_]) (fun _ m=>m)<|ag<|aX<| ?_
 exact fx trivial rfl rfl cx bo (by rw[ay,bk]) (fun m=>(m.aZ 0 rfl).az) [] rfl [] rfl ⟨rfl,rfl,rfl⟩
end Go.Proofs.YtmibdabdlgmafaaGreatDoor
end
section
set_option maxRecDepth 20000
set_option maxHeartbeats 4000000
namespace Go.Proofs.YtmibdabdlgmafaaGreatDoor
open Go.Eng Go.Hx
theorem DQ{g:Nat}{st:cA}{d:RD}{kk:Nat}{nm:List UInt8}(hD:DS st d kk)(hm:nm.length=32):cj Tryz.prog 73 [.pointer (some ⟨g,0,none⟩),.agg (aR nm).toArray] [bj g st] [eX] (fun v_ X_ S_=>∃v,v_=(.tuple #[v,.int .i64 (d.eZ nm)])∧X_=[bj g st,aG 5 1 v (d.py nm).length (aR (d.py nm))]∧S_=[]):=by
 have hlen:=hD.vB (aE nm)
 have hol:=rk (f:=d.cz (aE nm)) (most:=4096) (by decide)
 refine aQ (N:=33) Tryz.func73 rfl rfl (by simp) fun b=> ?_
 refine ah<|aj<| ?_
 refine hx (cI rfl (fun g3=> ?_))
 refine aT (fun w m=>m.bQ 0 rfl (show _=aL g3 53 (aR nm)from congrArg (aL _ _) (bA _))) ?_
 refine hy (fun _=>ab rfl)<|hy (fun _=>ab rfl)<|ai<|ak (X' :=[_,_]) (S' :=[_]) (fun _ m=>m)<|ag<|ah<|aj<|hy (fun _=>aa rfl)<|hy (fun m=>a6 rfl cx bo (by rw[ay];exact hm) ((m.aZ 0 rfl).az))<| ?_
 refine hx (aq rfl Tryz.call94 (sr hm) [] rfl [] rfl ?_)
 rintro _ _ _ ⟨rfl,rfl,rfl⟩
 refine hx (aq rfl Tryz.call90 (DR hD) [1] rfl [] rfl ?_)
 rintro _ _ _ ⟨v,rfl,rfl,rfl⟩
 refine aD (fun m=>(m.own 1 rfl).slice) ?_
 rintro⟨A_x,c_x,rfl,hc_x⟩
 refine aD (fun m=>(m.ord 1 rfl).2.1) fun hA_x=> ?_
 refine hy (fun _=>aa rfl)<|hy (fun _=>au rfl rfl)<|hy (fun _=>au rfl rfl)<|hy (fun _=>ab rfl)<|hy (fun _=>ab rfl)<|ai<|al (ρ' :=[(7,_),(6,_),(5,_),(4,_),(3,_),(0,_),(1,_)]) ⟨rfl,rfl,rfl,rfl,rfl,rfl,rfl,trivial⟩<|ak (X' :=[_,_,_]) (S' :=[_]) (fun _ m=>m)<|ag<|ah<|ah<|aj<|hy (fun _=>aa rfl)<|hy (fun _=>dP rfl rfl)<|ai<|al (ρ' :=[(17,_),(7,_),(6,_),(5,_),(4,_),(3,_),(0,_),(1,_)]) ⟨rfl,rfl,rfl,rfl,rfl,rfl,rfl,rfl,trivial⟩<|ag<| ?_
 refine cD rfl (fun h1=> ?_) (fun h1=> ?_)
 ·rw[jr h1,lp (by rw[jr h1];exact h1)]
  refine ah<|aj<|hy (fun _=>aa rfl)<|hy (fun _=>ab rfl)<|hy (fun _=>ab rfl)<|ai<|al (ρ' :=[(5,_),(4,_),(17,_),(7,_),(6,_),(3,_),(0,_),(1,_)]) ⟨rfl,rfl,rfl,rfl,rfl,rfl,rfl,rfl,trivial⟩<|ag<|aX<|ax<| ?_
  refine ak (fun w m=>m.dG (r' :=aG 5 1 (.slice none 0 0) 0 []) (.refl _ _) (Own.nil _ _ _ _) (fun k hk=>hk.elim)) ?_
  exact dy trivial rfl rfl rfl [1,0] rfl [] rfl ⟨_,rfl,rfl,rfl⟩
 ·have h1:=Decidable.not_not.1 h1
  refine aC<|ag<|ah<|aj<|hy (fun _=>aa rfl)<| ?_
  refine hx (cN rfl Tryz.call155 (F7 hc_x (by omega) (show(4096:Int)≤1000000 by decide)) [] rfl (.x 1 rfl .own .nil) ?_)
  rintro _ _ _ ⟨v2,rfl,rfl,rfl⟩
  refine⟨rfl, ?_⟩
  refine aD (fun m=>(m.own 0 rfl).slice) ?_
  rintro⟨A_x2,c_x2,rfl,hc_x2⟩
  refine aD (fun m=>(m.ord 0 rfl).2.1) fun hA_x2=> ?_
  refine hy (fun _=>aa rfl)<|hy (fun _=>au rfl rfl)<|hy (fun _=>au rfl rfl)<|hy (fun _=>ab rfl)<|hy (fun _=>ab rfl)<|ai<|al (ρ' :=[(7,_),(8,_),(17,_),(6,_),(5,_),(4,_),(3,_),(0,_),(1,_)]) ⟨rfl,rfl,rfl,rfl,rfl,rfl,rfl,rfl,rfl,trivial⟩<|ak (X' :=[_,_,_,_]) (S' :=[_]) (fun _ m=>m)<|ag<|ah<|ah<|cG [4] [(0,some 0),(1,some 0),(2,some 0),(3,some 0),(5,some 1),(4,none),(6,some 1),(7,some 1)] (by kernel_rfl) (by kernel_rfl) rfl 99<|an (aa rfl)<|an (dP rfl rfl)<|an (aa rfl)<| ?_
  refine lH 26 rfl (fun h2=> ?_) (fun h2=> ?_)
  ·have hE:=ni (d:=d) (nm:=nm) h1 (.inl h2)
   rw[hE,lp (by rw[hE];decide)]
   refine aV rfl rfl rfl (by decide)<|aV rfl rfl rfl (by decide)<|Cz rfl rfl rfl (by decide) (fun _=>wk [0,0,0,0] [0] rfl rfl)<|aV rfl rfl rfl (by decide)<|an (bX rfl rfl)<|br<|al (ρ' :=[(31,_),(7,_),(8,_),(17,_),(6,_),(5,_),(4,_),(3,_),(0,_),(1,_)]) ⟨rfl,rfl,rfl,rfl,rfl,rfl,rfl,rfl,rfl,rfl,trivial⟩<|ag<| ?_
   refine ic rfl (rfl) ?_
   refine ah<|aj<|hy (fun _=>ab rfl)<|hy (fun _=>ab rfl)<|ai<|ag<|aX<|ax<| ?_
   refine ak (fun w m=>m.dG (r' :=aG 5 1 (.slice none 0 0) 0 []) (.refl _ _) (Own.nil _ _ _ _) (fun k hk=>hk.elim)) ?_
   exact dy trivial rfl rfl rfl [2,0] rfl [] rfl ⟨_,rfl,rfl,rfl⟩
  ·have h2:=Decidable.not_not.1 h2
   refine bI (o:=_) rfl rfl rfl (aa rfl)<|lL (o:=_) rfl rfl rfl (fun m=>a6 rfl cx bo (by rw[ay];exact hm) ((m.aZ 3 rfl).az))<| ?_
   refine AK (o:=_) rfl rfl rfl (cN rfl Tryz.call102 (wY (by omega)) [] rfl (.x 0 rfl .own (.s 0 rfl .nil)) ?_)
   rintro _ _ _ ⟨rfl,rfl,rfl⟩
   refine⟨rfl, ?_⟩
   refine⟨(fun _=>wk [0,0,0,0] [0] rfl rfl), ?_⟩
   refine bI (o:=_) rfl rfl rfl (o3 rfl rfl (bk _) hm)<|an (bP rfl rfl)<|br<|al (ρ' :=[(31,_),(7,_),(8,_),(17,_),(6,_),(5,_),(4,_),(3,_),(0,_),(1,_)]) ⟨rfl,rfl,rfl,rfl,rfl,rfl,rfl,rfl,rfl,rfl,trivial⟩<|ak (X' :=[_,_,_,_]) (S' :=[_]) (fun _ m=>m)<|ag<| ?_
   refine cD rfl (fun h3=> ?_) (fun h3=> ?_)
   ·have hE:=ni (d:=d) (nm:=nm) h1 (.inr h3)
    rw[hE,lp (by rw[hE];decide)]
    refine ah<|aj<|hy (fun _=>ab rfl)<|hy (fun _=>ab rfl)<|ai<|ag<|aX<|ax<| ?_
    refine ak (fun w m=>m.dG (r' :=aG 5 1 (.slice none 0 0) 0 []) (.refl _ _) (Own.nil _ _ _ _) (fun k hk=>hk.elim)) ?_
    exact dy trivial rfl rfl rfl [2,0] rfl [] rfl ⟨_,rfl,rfl,rfl⟩
   ·have hE:=sP (d:=d) (nm:=nm) h1 (fun q=>q.elim (fun q=>q h2) h3)
    rw[hE,sA hE]
    refine aC<|ag<|ah<|aj<|hy (fun _=>aa rfl)<|hy (fun _=>ab rfl)<|hy (fun _=>ab rfl)<|ai<|al (ρ' :=[(5,_),(4,_),(31,_),(7,_),(8,_),(17,_),(6,_),(3,_),(0,_),(1,_)]) ⟨rfl,rfl,rfl,rfl,rfl,rfl,rfl,rfl,rfl,rfl,trivial⟩<|ag<|aX<| ?_
    exact dy trivial rfl rfl rfl [1,0] rfl [] rfl ⟨_,rfl,rfl,rfl⟩
theorem GA{g:Nat}{st:cA}{d:RD}{kk:Nat}{nm:List UInt8}(hD:DS st d kk)(hm:nm.length=32):cj Tryz.prog 145 [.pointer (some ⟨g,0,none⟩),.agg (aR nm).toArray] [bj g st] [eX] (fun v_ X_ S_=>v_=(.bool (decide (d.eZ nm=0)))∧X_=[bj g st]∧S_=[]):=by
 refine aQ (N:=15) Tryz.func145 rfl rfl (by simp) fun b=> ?_
 refine ah<|aj<| ?_
 refine hx (cI rfl (fun g3=> ?_))
 refine aT (fun w m=>m.bQ 0 rfl (show _=aL g3 53 (aR nm)from congrArg (aL _ _) (bA _))) ?_
 refine hy (fun _=>ab rfl)<|ai<|ak (X' :=[_,_]) (S' :=[_]) (fun _ m=>m)<|ag<|ah<|aj<|hy (fun _=>aa rfl)<|hy (fun m=>a6 rfl cx bo (by rw[ay];exact hm) ((m.aZ 0 rfl).az))<| ?_
 refine hx (aq rfl Tryz.call73 (DQ hD hm) [1] rfl [0] rfl ?_)
 rintro _ _ _ ⟨v,rfl,rfl,rfl⟩
 refine aD (fun m=>(m.own 1 rfl).slice) ?_
 rintro⟨A_x,c_x,rfl,hc_x⟩
 refine aD (fun m=>(m.ord 1 rfl).2.1) fun hA_x=> ?_
 refine hy (fun _=>aa rfl)<|hy (fun _=>au rfl rfl)<|hy (fun _=>au rfl rfl)<|hy (fun _=>ab rfl)<|hy (fun _=>ab rfl)<|ai<|al (ρ' :=[(6,_),(4,_),(3,_),(0,_),(1,_)]) ⟨rfl,rfl,rfl,rfl,rfl,trivial⟩<|ak (X' :=[_,_,_]) (S' :=[_]) (fun _ m=>m)<|ag<|ah<|aj<|hy (fun _=>aa rfl)<|hy (fun _=>cM rfl rfl)<|hy (fun _=>ab rfl)<|ai<|al (ρ' :=[(4,_),(6,_),(3,_),(0,_),(1,_)]) ⟨rfl,rfl,rfl,rfl,rfl,trivial⟩<|ag<|aX<| ?_
 exact bf trivial rfl rfl [0] rfl [] rfl ⟨rfl,rfl,rfl⟩
end Go.Proofs.YtmibdabdlgmafaaGreatDoor
end
section
set_option maxRecDepth 20000
set_option maxHeartbeats 4000000
namespace Go.Proofs.YtmibdabdlgmafaaGreatDoor
open Go.Eng Go.Hx
theorem Gu:dg Tryz.prog 179=some false:=by kernel_rfl
theorem Gh:fm Tryz.prog 179=some 1:=by kernel_rfl
theorem FY:TI Tryz.prog 179 .nilFunc 1 8:=by unfold TI;kernel_rfl
def tu(g:Nat)(L:List bh)(v:Value)(F:RD→RD×Int):Prop:=∃(f:Nat) (first cap:List Value),v= .func (.func f) first.toArray cap.toArray∧(∀args w,(callFunc f args).run Tryz.prog w= .ok (.enter f args) w)∧
 ∀(st:cA) (d:RD) (kk:Nat),DS st d kk→kk≤99000→cj Tryz.prog f (first++[]++cap) [bj g st] [nD L] (fun v_ X_ S_=>∃st1,v_= .int .i64 (F d).2∧X_=[bj g st1]∧S_=[]∧DS st1 (F d).1 (kk+1))
theorem GW{g:Nat}{st:cA}{d:RD}{kk:Nat}{A:Option Addr}{n c:Nat}{fs:List Value}{Fs:List (RD→RD×Int)}{L:List bh}(hD:DS st d kk)(hkk:kk+n≤99000)(hn:n≤100000)(hF:Fs.length=n)(hfs:∀(i:Nat) (F:RD→RD×Int),Fs[i]? =some F→∃v,fs[i]? =some v∧tu g L v F):cj Tryz.prog 109 [.slice A n c] [bj g st] [cV 1 A n fs,nD L] (fun v_ X_ S_=>∃st1,v_=(.int .i64 (bZ Fs d).2)∧X_=[bj g st1]∧S_=[]∧(DS st1 (bZ Fs d).1 (kk+n))):=by
 obtain⟨d0,hd0⟩:∃d0,d0=bZ Fs d:=⟨_,rfl⟩
 rw[←hd0]
 refine aQ (N:=18) Tryz.func109 rfl rfl (by simp) fun b=> ?_
 refine aY (fun m=>gY (m.rd 0 rfl)) ?_
 rintro⟨hl_f,hA_f⟩
 refine ah<|aj<|hy (fun _=>ab rfl)<|ai<|ag<|ah<|ah<|aj<|hy (fun _=>aa rfl)<|hy (fun _=>aU rfl Tryz.underlying239)<|hy (fun _=>aa rfl)<|ai<|ag<|aI<| ?_
 refine fJ (fun k st d=>n-k) (fun k st d=>[(8,.int .i64 (k:Nat))]) (fun k st d=>[bj g st]) (fun k st d=>[]) (fun k st d=>k≤n∧DS st d (kk+k)∧bZ (Fs.drop k) d=d0) 0 st d [(7,_),(6,_),(0,_)] ⟨rfl,rfl,rfl,trivial⟩ [0] rfl [] rfl (⟨Nat.zero_le _,hD,hd0.symm⟩) ⟨rfl,trivial⟩ (fun k st d ⟨hk,hD,hR⟩=> ?_)
 refine ah<|aj<|hy (fun _=>bu rfl rfl)<|ai<|ag<|ah<| ?_
 refine cD rfl (fun hlt=> ?_) (fun hlt=> ?_)
 ·obtain⟨F,hFk⟩:∃F,Fs[k]? =some F:=⟨_,List.getElem?_eq_getElem (by omega)⟩
  obtain⟨v,hv,f,first,cap,rfl,hcall,hcon⟩:=hfs k F hFk
  have hdr:Fs.drop k=F::Fs.drop (k+1):=by
   have hlt2:k<Fs.length:=by omega
   rw[List.drop_eq_getElem_cons hlt2]
   congr 1
   exact Option.some.inj ((List.getElem?_eq_getElem hlt2).symm.trans hFk)
  rw[hdr]at hR
  refine aC<|ag<|ah<|aI<|ah<|aj<|hy (fun _=>aO rfl rfl Tryz.underlying239 Gh hA_f rfl (by omega))<|hy (fun m=>aw rfl Gu ((m.rd 0 rfl).cell hv))<|hy (fun _=>ab rfl)<|ai<|al (ρ' :=[(4,_),(9,_),(8,_),(7,_),(6,_),(0,_)]) ⟨rfl,rfl,rfl,rfl,rfl,rfl,trivial⟩<|ag<|ah<|aj<|hy (fun _=>aa rfl)<| ?_
  refine hx (kT rfl rfl hcall (hcon st d (kk+k) hD (by omega)) [0] rfl [1] rfl ?_)
  rintro _ _ _ ⟨st1,rfl,rfl,rfl,hD1⟩
  refine hy (fun _=>ab rfl)<|ai<|al (ρ' :=[(5,_),(4,_),(9,_),(8,_),(7,_),(6,_),(0,_)]) ⟨rfl,rfl,rfl,rfl,rfl,rfl,rfl,trivial⟩<|ak (X' :=[_]) (S' :=[_,_]) (fun _ m=>m)<|ag<|ah<|aj<|hy (fun _=>aa rfl)<|hy (fun _=>dP rfl rfl)<|ai<|al (ρ' :=[(15,_),(5,_),(4,_),(9,_),(8,_),(7,_),(6,_),(0,_)]) ⟨rfl,rfl,rfl,rfl,rfl,rfl,rfl,rfl,trivial⟩<|ag<| ?_
  refine cD rfl (fun he=> ?_) (fun he=> ?_)
  ·have e0:bZ (F::Fs.drop (k+1)) d=F d:=if_pos he
   rw[e0]at hR
   rw[←hR]
   refine ah<|aj<|hy (fun _=>aa rfl)<|hy (fun _=>ab rfl)<|ai<|al (ρ' :=[(2,_),(15,_),(5,_),(4,_),(9,_),(8,_),(7,_),(6,_),(0,_)]) ⟨rfl,rfl,rfl,rfl,rfl,rfl,rfl,rfl,rfl,trivial⟩<|ag<|aX<|a8<|ax<|ax<|a8<|ax<| ?_
   exact bf trivial rfl rfl [0] rfl [] rfl ⟨st1,rfl,rfl,rfl,(hD1.le (by omega))⟩
  ·have e0:bZ (F::Fs.drop (k+1)) d=bZ (Fs.drop (k+1)) (F d).1:=if_neg he
   rw[e0]at hR
   refine aC<|aM<|ag<|aj<|hy (fun _=>aN rfl rfl (bC (by omega) (by omega)))<|hy (fun _=>aa rfl)<|ai<|al (ρ' :=[(8,_),(15,_),(5,_),(4,_),(9,_),(7,_),(6,_),(0,_)]) ⟨rfl,rfl,rfl,rfl,rfl,rfl,rfl,rfl,trivial⟩<| ?_
   refine fu (k+1) st1 (F d).1 ⟨rfl,rfl,rfl,rfl,trivial⟩ [0] rfl [0,1] rfl (⟨by omega,hD1,hR⟩) (by omega)
 ·obtain rfl:k=n:=by omega
  rw[List.drop_of_length_le (by omega)]at hR
  have hR:(d,0)=d0:=hR
  rw[←hR]
  refine bK<|ao<|ao<|aB<|ag<|ah<|aj<|hy (fun _=>ab rfl)<|ai<|ag<|aX<| ?_
  exact bf trivial rfl rfl [0] rfl [] rfl ⟨st,rfl,rfl,rfl,hD⟩
end Go.Proofs.YtmibdabdlgmafaaGreatDoor
end
section
set_option maxRecDepth 20000
set_option maxHeartbeats 4000000
namespace Go.Proofs.YtmibdabdlgmafaaGreatDoor
open Go.Eng Go.Hx
theorem FG{g g2 g9 g3:Nat}{st:cA}{d:RD}{kk:Nat}{p:List UInt8}{A:Option Addr}{n c:Nat}{bb:List UInt8}(hD:DS st d kk)(hkk:kk≤99000)(hc:n≤c)(hl:bb.length=n)(hn:n≤4096):cj Tryz.prog 105 [.pointer (some ⟨g2,0,none⟩),.pointer (some ⟨g9,0,none⟩),.pointer (some ⟨g3,0,none⟩)] [bj g st] [aL g2 35 [.pointer (some ⟨g,0,none⟩)],aL g9 9 [SV p],aL g3 27 [.slice A n c],cV 1 A n (aR bb)] (fun v_ X_ S_=>∃st1,v_=(.int .i64 (d.bH p (bE bb)))∧X_=[bj g st1]∧S_=[]∧(DS st1 (d.write p (bE bb)) (kk+1))):=by
 have hsl:=kK bb
 refine aQ (N:=9) Tryz.func105 rfl rfl (by simp) fun b=> ?_
 refine aY (fun m=>ig (m.rd 3 rfl)) ?_
 rintro⟨hl_r,hA_r⟩
 refine ah<|aj<|hy (fun _=>ab rfl)<|ai<|ag<|ah<|cG [3,4] [(0,some 1),(1,some 1),(2,some 0),(3,none),(4,none),(5,some 2)] (by kernel_rfl) (by kernel_rfl) rfl 1<|ca (fun m=>aw rfl kq (aA (m.vA 0 rfl) (i:=0) rfl))<|ca (fun m=>aw rfl l0 (aA (m.vA 1 rfl) (i:=0) rfl))<|ca (fun m=>aw rfl ea (aA (m.vA 2 rfl) (i:=0) rfl))<| ?_
 refine dV (aq rfl Tryz.call106 (Gv (by omega) (by omega) hl) [] rfl [3] rfl ?_)
 rintro _ _ _ ⟨v,rfl,rfl,rfl⟩
 refine⟨(fun _=>wk [1] [0,1,2,3] rfl rfl), ?_⟩
 refine b5 (fun m=>(m.own 0 rfl).slice) ?_
 rintro⟨A_x,c_x,rfl,hc_x⟩
 refine b5 (fun m=>(m.ord 0 rfl).2.1) fun hA_x=> ?_
 refine dV (cN rfl Tryz.call33 (vX hD (by omega) rfl (by omega)) [1] rfl (.x 0 rfl .own .nil) ?_)
 rintro _ _ _ ⟨st1,rfl,rfl,rfl,hp⟩
 refine⟨rfl, ?_⟩
 refine⟨(fun h=>absurd h (by decide)), ?_⟩
 refine an (ab rfl)<|br<|al (ρ' :=[(3,_),(0,_),(1,_),(2,_)]) ⟨rfl,rfl,rfl,rfl,trivial⟩<|ak (X' :=[_,_]) (S' :=[_,_,_,_]) (fun _ m=>m)<|ag<|aX<| ?_
 exact bf trivial rfl rfl [0] rfl [] rfl ⟨st1,rfl,rfl,rfl,hp⟩
theorem Ft{g g2 g9 g6:Nat}{st:cA}{d:RD}{kk:Nat}{p nm:List UInt8}(hD:DS st d kk)(hkk:kk≤99000)(hm:nm.length=32):cj Tryz.prog 107 [.pointer (some ⟨g2,0,none⟩),.pointer (some ⟨g9,0,none⟩),.pointer (some ⟨g6,0,none⟩)] [bj g st] [aL g2 35 [.pointer (some ⟨g,0,none⟩)],aL g9 9 [SV p],aL g6 53 (aR nm)] (fun v_ X_ S_=>∃st1,v_=(.int .i64 (d.bU p (aE nm)))∧X_=[bj g st1]∧S_=[]∧(DS st1 (d.rename p (aE nm)) (kk+1))):=by
 refine aQ (N:=9) Tryz.func107 rfl rfl (by simp) fun b=> ?_
 refine ah<|aj<|hy (fun _=>ab rfl)<|ai<|ag<|ah<|cG [3,4] [(0,some 1),(1,some 1),(2,some 0),(3,none),(4,none),(5,some 2)] (by kernel_rfl) (by kernel_rfl) rfl 1<|ca (fun m=>aw rfl kq (aA (m.vA 0 rfl) (i:=0) rfl))<|ca (fun m=>aw rfl l0 (aA (m.vA 1 rfl) (i:=0) rfl))<|ca (fun m=>a6 rfl cx bo (by rw[ay];exact hm) ((m.vA 2 rfl).az))<| ?_
 refine dV (aq rfl Tryz.call94 (sr hm) [] rfl [] rfl ?_)
 rintro _ _ _ ⟨rfl,rfl,rfl⟩
 refine⟨(fun _=>wk [0] [0,1,2] rfl rfl), ?_⟩
 refine dV (aq rfl Tryz.call108 (AX hD (by omega) (a:=p) (c:=aE nm)) [0] rfl [] rfl ?_)
 rintro _ _ _ ⟨st1,rfl,rfl,rfl,hp⟩
 refine⟨(fun h=>absurd h (by decide)), ?_⟩
 refine an (ab rfl)<|br<|al (ρ' :=[(3,_),(0,_),(1,_),(2,_)]) ⟨rfl,rfl,rfl,rfl,trivial⟩<|ak (X' :=[_]) (S' :=[_,_,_]) (fun _ m=>m)<|ag<|aX<| ?_
 exact bf trivial rfl rfl [0] rfl [] rfl ⟨st1,rfl,rfl,rfl,hp⟩
abbrev jy(g g2 g9 g3 g6:Nat)(A:Option Addr)(n c:Nat)(bb nm p:List UInt8):List bh:=[aL g2 35 [.pointer (some ⟨g,0,none⟩)],aL g9 9 [SV p],aL g3 27 [.slice A n c],aL g6 53 (aR nm),cV 1 A n (aR bb)]
theorem u9{g g2 g9 g3 g6:Nat}{A:Option Addr}{n c:Nat}{bb nm p:List UInt8}(hc:n≤c)(hl:bb.length=n)(hn:n≤4096):
  tu g (jy g g2 g9 g3 g6 A n c bb nm p) (.func (.func 105) #[] #[.pointer (some ⟨g2,0,none⟩),.pointer (some ⟨g9,0,none⟩),.pointer (some ⟨g3,0,none⟩)]) (sd p (bE bb)):=
 ⟨105,[],[.pointer (some ⟨g2,0,none⟩),.pointer (some ⟨g9,0,none⟩),.pointer (some ⟨g3,0,none⟩)],rfl,Tryz.call105,fun st d kk hD hk=>cj.vt (FG hD hk hc hl hn) (by
  intro s hs
  simp only[List.mem_cons,List.not_mem_nil,or_false]at hs
  rcases hs with rfl|rfl|rfl|rfl
  ·exact⟨_,List.mem_singleton.2 rfl,View.pn 0 rfl⟩
  ·exact⟨_,List.mem_singleton.2 rfl,View.pn 1 rfl⟩
  ·exact⟨_,List.mem_singleton.2 rfl,View.pn 2 rfl⟩
  ·exact⟨_,List.mem_singleton.2 rfl,View.pn 4 rfl⟩) (fun v X S h=>by
  obtain⟨st1,h1,h2,h3,h4⟩:=h
  exact⟨[],⟨st1,h1,h2,rfl,h4⟩,sB.nil⟩)⟩
theorem xg{g g2 g9 g3 g6:Nat}{A:Option Addr}{n c:Nat}{bb nm p:List UInt8}(hm:nm.length=32):
  tu g (jy g g2 g9 g3 g6 A n c bb nm p) (.func (.func 107) #[] #[.pointer (some ⟨g2,0,none⟩),.pointer (some ⟨g9,0,none⟩),.pointer (some ⟨g6,0,none⟩)]) (rV p (aE nm)):=
 ⟨107,[],[.pointer (some ⟨g2,0,none⟩),.pointer (some ⟨g9,0,none⟩),.pointer (some ⟨g6,0,none⟩)],rfl,Tryz.call107,fun st d kk hD hk=>cj.vt (Ft hD hk hm) (by
  intro s hs
  simp only[List.mem_cons,List.not_mem_nil,or_false]at hs
  rcases hs with rfl|rfl|rfl
  ·exact⟨_,List.mem_singleton.2 rfl,View.pn 0 rfl⟩
  ·exact⟨_,List.mem_singleton.2 rfl,View.pn 1 rfl⟩
  ·exact⟨_,List.mem_singleton.2 rfl,View.pn 3 rfl⟩) (fun v X S h=>by
  obtain⟨st1,h1,h2,h3,h4⟩:=h
  exact⟨[],⟨st1,h1,h2,rfl,h4⟩,sB.nil⟩)⟩
theorem rB{g:Nat}{L:List bh}:tu g L (.func (.func 110) #[.pointer (some ⟨g,0,none⟩)] #[]) cq:=
 ⟨110,[.pointer (some ⟨g,0,none⟩)],[],rfl,Tryz.call110,fun st d kk hD hk=>cj.vt (u6 hD) (fun s hs=>by cases hs) (fun v X S h=>by
  obtain⟨st1,h1,h2,h3,h4⟩:=h
  exact⟨[],⟨st1,h1,h2,rfl,h4.le (by omega)⟩,sB.nil⟩)⟩
theorem fe:dZ.length=32:=List.length_replicate
theorem xU:(aR dZ).length=32:=by rw[ay,fe]
theorem wh{d:RD}{b:List UInt8}(h:4096<b.length):d.put b=(d,dZ,3):=by unfold RD.put;rw[if_pos h]
theorem Ax{d:RD}{b:List UInt8}(h:¬4096<b.length)(h6:d.eZ (bc b)=6):d.put b=(d,dZ,6):=by unfold RD.put;rw[if_neg h,if_pos h6]
theorem xK{d:RD}{b:List UInt8}(h:¬4096<b.length)(h6:d.eZ (bc b)=0):d.put b=(d,bc b,0):=by unfold RD.put;rw[if_neg h,if_neg (by rw[h6];decide),if_pos h6]
theorem BS{d:RD}{b:List UInt8}(h:¬4096<b.length)(h6:¬d.eZ (bc b)=6)(h0:¬d.eZ (bc b)=0):d.put b=((d.iF b).1,if(d.iF b).2=0 then bc b else dZ,(d.iF b).2):=by unfold RD.put;rw[if_neg h,if_neg h6,if_neg h0]
abbrev AQ(g g2 g9 g3 g6:Nat):List Value:=[.func (.func 105) #[] #[.pointer (some ⟨g2,0,none⟩),.pointer (some ⟨g9,0,none⟩),.pointer (some ⟨g3,0,none⟩)],.func (.func 110) #[.pointer (some ⟨g,0,none⟩)] #[],.func (.func 107) #[] #[.pointer (some ⟨g2,0,none⟩),.pointer (some ⟨g9,0,none⟩),.pointer (some ⟨g6,0,none⟩)],.func (.func 110) #[.pointer (some ⟨g,0,none⟩)] #[]]
abbrev wg(p b nm:List UInt8):List (RD→RD×Int):=[sd p (bE b),cq,rV p (aE nm),cq]
theorem xF{g g2 g9 g3 g6:Nat}{A:Option Addr}{n c:Nat}{bb nm p:List UInt8}(hc:n≤c)(hl:bb.length=n)(hn:n≤4096)(hm:nm.length=32):
  ∀(i:Nat) (F:RD→RD×Int),(wg p bb nm)[i]? =some F→∃v,(AQ g g2 g9 g3 g6)[i]? =some v∧tu g (jy g g2 g9 g3 g6 A n c bb nm p) v F:=by
 intro i F h
 match i with
 |0=>cases h;exact⟨_,rfl,u9 hc hl hn⟩
 |1=>cases h;exact⟨_,rfl,rB⟩
 |2=>cases h;exact⟨_,rfl,xg hm⟩
 |3=>cases h;exact⟨_,rfl,rB⟩
 |i+4=>cases h
theorem F4{g:Nat}{st:cA}{d:RD}{kk:Nat}{A:Option Addr}{n c:Nat}{bb:List UInt8}(hD:DS st d kk)(hkk:kk≤90000)(hc:n≤c)(hl:bb.length=n)(hn:n≤100000):cj Tryz.prog 28 [.pointer (some ⟨g,0,none⟩),.slice A n c] [bj g st] [cV 1 A n (aR bb),eX] (fun v_ X_ S_=>∃st1,v_=(.tuple #[.agg (aR (d.put bb).2.1).toArray,.int .i64 (d.put bb).2.2])∧X_=[bj g st1]∧S_=[]∧(DS st1 (d.put bb).1 (kk+4))):=by
 have h32:(aR (bc bb)).length=32:=by rw[ay,bk]
 have hhl:(b4 (bc bb)).length=64:=by rw[dI,bk]
 refine aQ (N:=53) Tryz.func28 rfl rfl (by simp) fun b=> ?_
 refine aY (fun m=>ig (m.rd 0 rfl)) ?_
 rintro⟨hl_r,hA_r⟩
 refine ah<|aj<| ?_
 refine hx (cI rfl (fun g2=> ?_))
 refine aT (fun w m=>m.bQ 0 rfl (show _=aL g2 35 [.pointer (some ⟨g,0,none⟩)]from rfl)) ?_
 refine hx (cI rfl (fun g3=> ?_))
 refine aT (fun w m=>m.bQ 0 rfl (show _=aL g3 27 [.slice A n c]from rfl)) ?_
 refine hx (aP dT (fun g4=> ?_))
 refine hy (fun _=>ab rfl)<|ai<|ak (X' :=[_,_,_,_]) (S' :=[_,_]) (fun _ m=>m)<|ag<|ah<|ah<|aj<|hy (fun m=>aw rfl ea (aA (m.aZ 1 rfl) rfl))<|hy (fun _=>aU rfl Tryz.underlying27)<|hy (fun _=>cY rfl rfl)<|ai<|al (ρ' :=[(15,_),(5,_),(4,_),(3,_),(2,_),(0,_),(1,_)]) ⟨rfl,rfl,rfl,rfl,rfl,rfl,rfl,trivial⟩<|ag<| ?_
 refine cD rfl (fun h1=> ?_) (fun h1=> ?_)
 ·have hb:4096<bb.length:=by omega
  rw[wh hb]
  refine ah<|aj<|hy (fun _=>yV (eJ dT rfl (by kernel_rfl)) ((rfl:_=Value.agg (aR dZ).toArray)))<| ?_
  refine cJ (aK 0 rfl rfl rfl bo xU aS rfl ?_)
  refine hy (fun _=>ab rfl)<|ai<|al (ρ' :=[(5,_),(15,_),(4,_),(3,_),(2,_),(0,_),(1,_)]) ⟨rfl,rfl,rfl,rfl,rfl,rfl,rfl,trivial⟩<|ak (X' :=[_,_,_,_]) (S' :=[_,_]) (fun _ m=>m)<|ag<|aX<|ax<| ?_
  exact eP trivial rfl rfl rfl cx bo xU (fun m=>(m.aZ 0 rfl).az) [3] rfl [] rfl ⟨st,rfl,rfl,rfl,(hD.le (by omega))⟩
 ·have hb:¬4096<bb.length:=by omega
  refine aC<|ag<|ah<|aj<|hy (fun m=>aw rfl ea (aA (m.aZ 1 rfl) rfl))<| ?_
  refine hx (aq rfl Tryz.call102 (wY (by omega)) [] rfl [0,1] rfl ?_)
  rintro _ _ _ ⟨rfl,rfl,rfl⟩
  refine hx (aP dT (fun g6=> ?_))
  refine cJ (aK 0 rfl rfl rfl bo h32 aS rfl ?_)
  refine ai<|al (ρ' :=[(6,_),(15,_),(5,_),(4,_),(3,_),(2,_),(0,_),(1,_)]) ⟨rfl,rfl,rfl,rfl,rfl,rfl,rfl,rfl,trivial⟩<|ak (X' :=[_,_,_,_,_]) (S' :=[_,_]) (fun _ m=>m)<|ag<|ah<|aj<|hy (fun m=>aw rfl kq (aA (m.aZ 3 rfl) rfl))<|hy (fun m=>a6 rfl cx bo h32 ((m.aZ 0 rfl).az))<| ?_
  refine hx (aq rfl Tryz.call73 (DQ hD (bk _)) [4] rfl [1] rfl ?_)
  rintro _ _ _ ⟨v,rfl,rfl,rfl⟩
  refine aD (fun m=>(m.own 1 rfl).slice) ?_
  rintro⟨A_x,c_x,rfl,hc_x⟩
  refine aD (fun m=>(m.ord 1 rfl).2.1) fun hA_x=> ?_
  refine hy (fun _=>aa rfl)<|hy (fun _=>au rfl rfl)<|hy (fun _=>au rfl rfl)<|hy (fun _=>ab rfl)<|hy (fun _=>ab rfl)<|ai<|al (ρ' :=[(8,_),(6,_),(15,_),(5,_),(4,_),(3,_),(2,_),(0,_),(1,_)]) ⟨rfl,rfl,rfl,rfl,rfl,rfl,rfl,rfl,rfl,trivial⟩<|ak (X' :=[_,_,_,_,_,_]) (S' :=[_,_]) (fun _ m=>m)<|ag<|ah<|ah<|aj<|hy (fun _=>aa rfl)<|hy (fun _=>kv rfl Tryz.underlying47 (fun _ h=>by cases h))<|hy (fun _=>kv rfl Tryz.underlying47 (fun _ h=>by cases h))<| ?_
  refine hx (aq rfl Tryz.call103 (Ej) [] rfl [] rfl ?_)
  rintro _ _ _ ⟨rfl,rfl,rfl⟩
  refine ai<|al (ρ' :=[(28,_),(8,_),(6,_),(15,_),(5,_),(4,_),(3,_),(2,_),(0,_),(1,_)]) ⟨rfl,rfl,rfl,rfl,rfl,rfl,rfl,rfl,rfl,rfl,trivial⟩<|ak (X' :=[_,_,_,_,_,_]) (S' :=[_,_]) (fun _ m=>m)<|ag<| ?_
  refine cD rfl (fun h6=> ?_) (fun h6=> ?_)
  ·rw[Ax hb h6]
   have h6' :d.eZ (bc bb)=6:=h6
   rw[h6']
   refine ah<|aj<|hy (fun _=>yV (eJ dT rfl (by kernel_rfl)) ((rfl:_=Value.agg (aR dZ).toArray)))<|hy (fun _=>aa rfl)<| ?_
   refine cJ (aK 3 rfl rfl rfl bo xU aS rfl ?_)
   refine hy (fun _=>ab rfl)<|ai<|al (ρ' :=[(5,_),(28,_),(8,_),(6,_),(15,_),(4,_),(3,_),(2,_),(0,_),(1,_)]) ⟨rfl,rfl,rfl,rfl,rfl,rfl,rfl,rfl,rfl,rfl,trivial⟩<|ak (X' :=[_,_,_,_,_,_]) (S' :=[_,_]) (fun _ m=>m)<|ag<|aX<|ax<| ?_
   exact eP trivial rfl rfl rfl cx bo xU (fun m=>(m.aZ 0 rfl).az) [1] rfl [] rfl ⟨st,rfl,rfl,rfl,(hD.le (by omega))⟩
  ·refine aC<|ag<|ah<|ah<|aj<|hy (fun _=>aa rfl)<|hy (fun _=>cM rfl rfl)<|ai<|al (ρ' :=[(32,_),(28,_),(8,_),(6,_),(15,_),(5,_),(4,_),(3,_),(2,_),(0,_),(1,_)]) ⟨rfl,rfl,rfl,rfl,rfl,rfl,rfl,rfl,rfl,rfl,rfl,trivial⟩<|ag<| ?_
   refine cD rfl (fun h0=> ?_) (fun h0=> ?_)
   ·rw[xK hb h0]
    have h0' :d.eZ (bc bb)=0:=h0
    rw[h0']
    refine ah<|aj<|hy (fun m=>a6 rfl cx bo h32 ((m.aZ 2 rfl).az))<|hy (fun _=>aa rfl)<| ?_
    refine cJ (aK 3 rfl rfl rfl bo h32 aS rfl ?_)
    refine hy (fun _=>ab rfl)<|ai<|al (ρ' :=[(5,_),(32,_),(28,_),(8,_),(6,_),(15,_),(4,_),(3,_),(2,_),(0,_),(1,_)]) ⟨rfl,rfl,rfl,rfl,rfl,rfl,rfl,rfl,rfl,rfl,rfl,trivial⟩<|ak (X' :=[_,_,_,_,_,_]) (S' :=[_,_]) (fun _ m=>m)<|ag<|aX<|ax<| ?_
    exact eP trivial rfl rfl rfl cx bo h32 (fun m=>(m.aZ 0 rfl).az) [1] rfl [] rfl ⟨st,rfl,rfl,rfl,(hD.le (by omega))⟩
   ·rw[BS hb h6 h0]
    refine aC<|ag<|ah<|aj<|hy (fun m=>a6 rfl cx bo h32 ((m.aZ 2 rfl).az))<| ?_
    refine hx (aq rfl Tryz.call104 (AG (bk _)) [] rfl [] rfl ?_)
    rintro _ _ _ ⟨rfl,rfl,rfl⟩
    refine hy (fun _=>yV (ji rfl rfl (iW (a:=[116,47]) (b:=b4 (bc bb)) (by simp[hhl]))) ((show Value.string (strOf [116,47]++strOf (b4 (bc bb)))=SV (bN (bc bb))from congrArg Value.string (dp _ _))))<| ?_
    refine hx (aP GV (fun g9=> ?_))
    refine cJ (dH 0 rfl rfl rfl Hp rfl (by first|exact Nat.le_of_ble_eq_true rfl|simp) ?_)
    refine ai<|al (ρ' :=[(9,_),(32,_),(28,_),(8,_),(6,_),(15,_),(5,_),(4,_),(3,_),(2,_),(0,_),(1,_)]) ⟨rfl,rfl,rfl,rfl,rfl,rfl,rfl,rfl,rfl,rfl,rfl,rfl,trivial⟩<|ak (X' :=[_,_,_,_,_,_,_]) (S' :=[_,_]) (fun _ m=>m)<|ag<|ah<|aj<|hy (fun _=>iy rfl rfl)<|hy (fun _=>ab rfl)<|ai<|al (ρ' :=[(10,_),(9,_),(32,_),(28,_),(8,_),(6,_),(15,_),(5,_),(4,_),(3,_),(2,_),(0,_),(1,_)]) ⟨rfl,rfl,rfl,rfl,rfl,rfl,rfl,rfl,rfl,rfl,rfl,rfl,rfl,trivial⟩<|ag<|ah<|aj<|hy (fun _=>iy rfl rfl)<|hy (fun _=>ab rfl)<|ai<|al (ρ' :=[(11,_),(10,_),(9,_),(32,_),(28,_),(8,_),(6,_),(15,_),(5,_),(4,_),(3,_),(2,_),(0,_),(1,_)]) ⟨rfl,rfl,rfl,rfl,rfl,rfl,rfl,rfl,rfl,rfl,rfl,rfl,rfl,rfl,trivial⟩<|ag<|ah<|ah<|aj<|hy (fun _=>aa rfl)<|hy (fun m=>aw rfl kq (aA (m.aZ 6 rfl) rfl))<|hy (fun _=>iy rfl rfl)<|hy (fun _=>aa rfl)<|hy (fun m=>aw rfl kq (aA (m.aZ 6 rfl) rfl))<|hy (fun _=>iy rfl rfl)<| ?_
    refine hx (bY Tryz.underlying239 FY rfl rfl rfl (by simp[Value.cells,B8]) (by decide) (by decide) (fun g46=> ?_))
    have hA_b46:0<4→(some (⟨g46,0,none⟩:Addr))≠none:=fun _ h=>by cases h
    refine aT (fun w m=>m.bQ 1 rfl (show _=aL g9 9 [SV (bN (bc bb))]from rfl)) ?_
    refine aT (fun w m=>m.bQ 4 rfl (show _=aL g6 53 (aR (bc bb))from rfl)) ?_
    refine aT (fun w m=>m.bQ 2 rfl (show _=aG 179 1 (.slice (some ⟨g46,0,none⟩) 4 4) 4 (AQ g g2 g9 g3 g6)from rfl)) ?_
    refine aT (fun w m=>(m.perm (ar [7] _ [_] _ rfl)).freeze) ?_
    refine aT (fun w m=>(m.perm (ar [2] _ [_] _ rfl)).freeze) ?_
    refine aT (fun w m=>(m.perm (ar [5] _ [_] _ rfl)).freeze) ?_
    refine aT (fun w m=>(m.perm (ar [1] _ [_] _ rfl)).freeze) ?_
    refine aT (S' :=nD (jy g g2 g9 g3 g6 A n c bb (bc bb) (bN (bc bb)))::_) (fun w m=>m.Cb [3,2,1,0,4] rfl) ?_
    refine hx (cN rfl Tryz.call109 (GW hD (by omega) (show 4≤100000 by decide) rfl (xF hc hl (by omega) (bk _)) (kk:=kk) (Fs:=(wg (bN (bc bb)) bb (bc bb))) (fs:=(AQ g g2 g9 g3 g6)) (L:=(jy g g2 g9 g3 g6 A n c bb (bc bb) (bN (bc bb))))) [1] rfl (.x 0 rfl .own (.s 0 rfl .nil)) ?_)
    rintro _ _ _ ⟨st1,rfl,rfl,rfl,hD1⟩
    refine⟨rfl, ?_⟩
    refine hy (fun _=>ab rfl)<|ai<|al (ρ' :=[(12,_),(11,_),(10,_),(9,_),(32,_),(28,_),(8,_),(6,_),(15,_),(5,_),(4,_),(3,_),(2,_),(0,_),(1,_)]) ⟨rfl,rfl,rfl,rfl,rfl,rfl,rfl,rfl,rfl,rfl,rfl,rfl,rfl,rfl,rfl,trivial⟩<|ak (X' :=[_,_,_,_]) (S' :=[_,_,_,_,_,_,_]) (fun _ m=>m)<|ag<|ah<|aj<|hy (fun _=>aa rfl)<|hy (fun _=>dP rfl rfl)<|ai<|al (ρ' :=[(49,_),(12,_),(11,_),(10,_),(9,_),(32,_),(28,_),(8,_),(6,_),(15,_),(5,_),(4,_),(3,_),(2,_),(0,_),(1,_)]) ⟨rfl,rfl,rfl,rfl,rfl,rfl,rfl,rfl,rfl,rfl,rfl,rfl,rfl,rfl,rfl,rfl,trivial⟩<|ag<| ?_
    refine cD rfl (fun h2=> ?_) (fun h2=> ?_)
    ·have hn2:¬(d.iF bb).2=0:=h2
     rw[if_neg hn2]
     refine ah<|aj<|hy (fun _=>yV (eJ dT rfl (by kernel_rfl)) ((rfl:_=Value.agg (aR dZ).toArray)))<|hy (fun _=>aa rfl)<| ?_
     refine cJ (aK 3 rfl rfl rfl bo xU aS rfl ?_)
     refine hy (fun _=>ab rfl)<|ai<|al (ρ' :=[(5,_),(49,_),(12,_),(11,_),(10,_),(9,_),(32,_),(28,_),(8,_),(6,_),(15,_),(4,_),(3,_),(2,_),(0,_),(1,_)]) ⟨rfl,rfl,rfl,rfl,rfl,rfl,rfl,rfl,rfl,rfl,rfl,rfl,rfl,rfl,rfl,rfl,trivial⟩<|ak (X' :=[_,_,_,_]) (S' :=[_,_,_,_,_,_,_]) (fun _ m=>m)<|ag<|aX<|ax<| ?_
     exact eP trivial rfl rfl rfl cx bo xU (fun m=>(m.aZ 0 rfl).az) [1] rfl [] rfl ⟨st1,rfl,rfl,rfl,hD1⟩
    ·have h2:=Decidable.not_not.1 h2
     have h2' :(bZ (wg (bN (bc bb)) bb (bc bb)) d).2=0:=h2
     have h2'' :(d.iF bb).2=0:=h2'
     rw[if_pos h2'',h2'']
     refine aC<|ag<|ah<|aj<|hy (fun m=>a6 rfl cx bo h32 ((m.vA 1 rfl).az))<| ?_
     refine cJ (aK 3 rfl rfl rfl bo h32 aS rfl ?_)
     refine hy (fun _=>ab rfl)<|ai<|al (ρ' :=[(5,_),(49,_),(12,_),(11,_),(10,_),(9,_),(32,_),(28,_),(8,_),(6,_),(15,_),(4,_),(3,_),(2,_),(0,_),(1,_)]) ⟨rfl,rfl,rfl,rfl,rfl,rfl,rfl,rfl,rfl,rfl,rfl,rfl,rfl,rfl,rfl,rfl,trivial⟩<|ak (X' :=[_,_,_,_]) (S' :=[_,_,_,_,_,_,_]) (fun _ m=>m)<|ag<|aX<| ?_
     exact eP trivial rfl rfl rfl cx bo h32 (fun m=>(m.aZ 0 rfl).az) [1] rfl [] rfl ⟨st1,rfl,rfl,rfl,hD1⟩
end Go.Proofs.YtmibdabdlgmafaaGreatDoor
end
section
set_option maxRecDepth 20000
namespace Go.Proofs.YtmibdabdlgmafaaGreatDoor
open Go.Eng Go.Hx
def ss(l:List (List UInt8)):List Value:=l.map SV
theorem yD{l:List (List UInt8)}{i:Nat}(h:i<l.length):(ss l)[i]? =some (SV (l.getD i [])):=by simp[ss,List.getElem?_map,List.getElem?_eq_getElem h,List.getD]
theorem En{l:List (List UInt8)}:∀u∈ss l,u.oneCell' =true:=by
 intro u hu
 obtain⟨x,_,rfl⟩:=List.mem_map.1 hu
 rfl
end Go.Proofs.YtmibdabdlgmafaaGreatDoor
end
section
namespace Go.Proofs
open Go.Shelf
def Tryz.uu:Go.Shelf.Ren:=⟨fun|190=>165|125=>207|258=>223|128=>254|129=>255|302=>258|303=>259|304=>260|305=>261|306=>262|307=>263|308=>264|309=>265|310=>266|333=>291|329=>287|330=>288|334=>292|335=>293|336=>294|344=>307|n=>n,fun|31=>152|9=>9|3=>3|46=>263|0=>0|51=>166|53=>310|4=>4|183=>339|182=>338|131=>343|5=>5|218=>376|222=>380|228=>391|229=>324|n=>n,fun|n=>n⟩
theorem Tryz.B6:Go.Proofs.Lays.n190 Tryz.prog Tryz.uu:={
 mixed:=by kernel_rfl
 f125:=Tryz.func207.trans (congrArg some (by kernel_rfl))
 f128:=Tryz.func254.trans (congrArg some (by kernel_rfl))
 f129:=Tryz.func255.trans (congrArg some (by kernel_rfl))
 f190:=Tryz.func165.trans (congrArg some (by kernel_rfl))
 f258:=Tryz.func223.trans (congrArg some (by kernel_rfl))
 f302:=Tryz.func258.trans (congrArg some (by kernel_rfl))
 f303:=Tryz.func259.trans (congrArg some (by kernel_rfl))
 f304:=Tryz.func260.trans (congrArg some (by kernel_rfl))
 f305:=Tryz.func261.trans (congrArg some (by kernel_rfl))
 f306:=Tryz.func262.trans (congrArg some (by kernel_rfl))
 f307:=Tryz.func263.trans (congrArg some (by kernel_rfl))
 f308:=Tryz.func264.trans (congrArg some (by kernel_rfl))
 f309:=Tryz.func265.trans (congrArg some (by kernel_rfl))
 f310:=Tryz.func266.trans (congrArg some (by kernel_rfl))
 f329:=Tryz.func287.trans (congrArg some (by kernel_rfl))
 f330:=Tryz.func288.trans (congrArg some (by kernel_rfl))
 f333:=Tryz.func291.trans (congrArg some (by kernel_rfl))
 f334:=Tryz.func292.trans (congrArg some (by kernel_rfl))
 f335:=Tryz.func293.trans (congrArg some (by kernel_rfl))
 f336:=Tryz.func294.trans (congrArg some (by kernel_rfl))
 f344:=Tryz.func307.trans (congrArg some (by kernel_rfl))
 t0:=Tryz.underlying0
 a0:=Tryz.isAgg0
 z0:=Tryz.sizeOf0
 v0:=Tryz.zeroValue0
 t3:=Tryz.underlying3
 a3:=Tryz.isAgg3
 z3:=Tryz.sizeOf3
 v3:=Tryz.zeroValue3
 t4:=Tryz.underlying4
 a4:=Tryz.isAgg4
 z4:=Tryz.sizeOf4
 v4:=Tryz.zeroValue4
 t5:=Tryz.underlying5
 a5:=Tryz.isAgg5
 z5:=Tryz.sizeOf5
 v5:=Tryz.zeroValue5
 t9:=Tryz.underlying9
 a9:=Tryz.isAgg9
 z9:=Tryz.sizeOf9
 v9:=Tryz.zeroValue9
 t31:=Tryz.underlying152
 a31:=Tryz.isAgg152
 z31:=Tryz.sizeOf152
 v31:=Tryz.zeroValue152
 t46:=Tryz.underlying263
 a46:=Tryz.isAgg263
 z46:=Tryz.sizeOf263
 v46:=Tryz.zeroValue263
 t51:=Tryz.underlying166
 a51:=Tryz.isAgg166
 z51:=Tryz.sizeOf166
 v51:=Tryz.zeroValue166
 t53:=Tryz.underlying310
 a53:=Tryz.isAgg310
 z53:=Tryz.sizeOf310
 v53:=Tryz.zeroValue310
 t131:=Tryz.underlying343
 a131:=Tryz.isAgg343
 z131:=Tryz.sizeOf343
 v131:=Tryz.zeroValue343
 t182:=Tryz.underlying338
 a182:=Tryz.isAgg338
 z182:=Tryz.sizeOf338
 v182:=Tryz.zeroValue338
 t183:=Tryz.underlying339
 a183:=Tryz.isAgg339
 z183:=Tryz.sizeOf339
 v183:=Tryz.zeroValue339
 t218:=Tryz.underlying376
 a218:=Tryz.isAgg376
 z218:=Tryz.sizeOf376
 v218:=Tryz.zeroValue376
 t222:=Tryz.underlying380
 a222:=Tryz.isAgg380
 z222:=Tryz.sizeOf380
 v222:=Tryz.zeroValue380
 t228:=Tryz.underlying391
 a228:=Tryz.isAgg391
 z228:=Tryz.sizeOf391
 v228:=Tryz.zeroValue391
 t229:=Tryz.underlying324
 a229:=Tryz.isAgg324
 z229:=Tryz.sizeOf324
 v229:=Tryz.zeroValue324}
end Go.Proofs
end
section
set_option maxRecDepth 20000
namespace Go.Proofs.YtmibdabdlgmafaaGreatDoor
open Go.Eng Go.Hx Go.Sort
def yd(l:List (List UInt8)):List (List UInt8):=l.mergeSort fun x y=>decide (x≤y)
theorem Ba{w:World}{g n o:Nat}{os:Array Obj}{cur:Array Value}{e:TypeId}{fr:Nat×Nat}(d:Array (List UInt8))(hb:w.heap[g]? =some (.cells cur e fr)):
  (grow (putRow encStr (Go.Sort.ahead w n) g o d) os).heap[g]? =some (.cells (putCells encStr o d cur) e fr):=by
 have hg:g<w.heap.size:=(Array.getElem?_eq_some_iff.1 hb).1
 rw[heap_grow_old _ _ (by simpa using hg)]
 simp[putRow,mapBlock,Go.Sort.ahead,Array.getElem?_modify,hb,onCells]
theorem Fe{w:World}{g n o:Nat}{os:Array Obj}(d:Array (List UInt8)):Fr (fun k=>k=g) w (grow (putRow encStr (Go.Sort.ahead w n) g o d) os):=by
 refine⟨rfl,rfl,rfl,by simp,fun k hk hne=> ?_⟩
 rw[heap_grow_old _ _ (by simpa using hk)]
 have:g≠k:=fun e=>hne e.symm
 simp[putRow,mapBlock,Go.Sort.ahead,Array.getElem?_modify,this]
theorem Bb(cur:List Value)(o:Nat)(ts:List (List UInt8))(h:o+ts.length≤cur.length):((putCells encStr o ts.toArray cur.toArray).toList.drop o).take ts.length=ss ts:=by
 apply List.ext_getElem?
 intro j
 by_cases hj:j<ts.length
 ·rw[List.getElem?_take_of_lt hj,List.getElem?_drop,Array.getElem?_toList]
  simp[putCells,hj,ss,show o+j<cur.length by omega,SV,strOf]
 ·rw[List.getElem?_take_eq_none (by omega),List.getElem?_eq_none (by simp[ss];omega)]
theorem sb(l:List (List UInt8)):(yd l).length=l.length:=List.length_mergeSort ..
theorem EJ{A:Option Addr}{n c base:Nat}{e:TypeId}{l:List (List UInt8)}{w:World}(h:Go.Eng.Own w base e 1 (.slice A n c) n (ss l))(hn6:n≤1000000):
  Calls Tryz.prog 165 #[.slice A n c] w fun r w' =>r= .returned (.tuple #[])∧Go.Eng.Own w' base e 1 (.slice A n c) n (ss (yd l))∧Fr (je (.slice A n c)) w w' :=by
 obtain⟨h1,h2⟩:=h
 have hl:l.length=n:=by simpa[ss]using h1
 rcases h2 with⟨hv,hn⟩|⟨g,o,cap,cur,hv,hb,⟨fr,hh,hf,hfl⟩,hnc,hcm,hfit,hcs⟩
 ·cases hv
  obtain rfl:l=[]:=List.eq_nil_of_length_eq_zero hl
  refine Calls.mono (qU CC (by intro s hs;cases hs)) (fun r w' ⟨hr,hf⟩=>⟨hr,⟨by simp[yd,ss],.inl ⟨rfl,rfl⟩⟩,hf.mono (fun _ _ e=>e.elim)⟩)
 ·cases hv
  subst hl
  have hB:fE w g e cur:=⟨fr,hh,hf,hfl⟩
  have hH:Holds encStr w g o l.toArray:=by
   intro j hj
   have hj' :j<l.length:=by simpa using hj
   have h3:((cur.drop o).take (l.length*1))[j]? =(ss l)[j]? :=by rw[hcs]
   rw[List.getElem?_take_of_lt (by omega),List.getElem?_drop,yD hj']at h3
   refine⟨?_,hB.frozen (by omega)⟩
   rw[hB.cell h3]
   simp[List.getD,List.getElem?_eq_getElem hj',hj',SV,strOf]
  refine Calls.mono (Any.slices_Sort_string Tryz.B6 g o c l w hH hB.lt (by omega)) ?_
  rintro r w' ⟨hr,k,os,rfl⟩
  refine⟨hr,⟨by simp[ss,sb],.inr ⟨g,o,c,(putCells encStr o (yd l).toArray cur.toArray).toList,rfl,hb, ?_,hnc,hcm,by simp[putCells];omega, ?_⟩⟩,Fe _⟩
  ·have:=Ba (n:=k) (o:=o) (os:=os) (yd l).toArray hh
   exact⟨fr,by simpa[yd]using this,fun i hi=>hf i (by simpa[putCells]using hi),by simpa[putCells]using hfl⟩
  ·have:=Bb cur o (yd l) (by rw[sb];omega)
   rw[sb]at this
   rw[Nat.mul_one];exact this
theorem F6{A:Option Addr}{n c:Nat}{e:TypeId}{l:List (List UInt8)}(hn:n≤1000000):cj Tryz.prog 165 [.slice A n c] [aG e 1 (.slice A n c) n (ss l)] [] (fun v_ X_ S_=>v_=(.tuple #[])∧X_=[aG e 1 (.slice A n c) n (ss (yd l))]∧S_=[]):=by
 refine fun w m=>Calls.mono (EJ (m.own 0 rfl) hn) ?_
 rintro r w' ⟨hr,ho,hf⟩
 exact⟨_,_,_,hr,⟨rfl,rfl,rfl⟩,m.change (r' :=aG e 1 (.slice A n c) n (ss (yd l))) hf ho (fun k hk=>.inl hk)⟩
end Go.Proofs.YtmibdabdlgmafaaGreatDoor
end
section
set_option maxRecDepth 20000
namespace Go.Proofs.YtmibdabdlgmafaaGreatDoor
open Go.Eng Go.Hx
theorem ml{α:Type}:∀{l:List α} {j:Nat} {x:α},l[j]? =some x→l.Perm (x::l.eraseIdx j)
 | [],j,x,h=>by simp at h
 |a::r,0,x,h=>by
  simp only[List.getElem?_cons_zero,Option.some.injEq]at h
  subst h;exact List.Perm.refl _
 |a::r,j+1,x,h=>by
  have:=ml (l:=r) (j:=j) (x:=x) (by simpa using h)
  exact(List.Perm.cons a this).trans (List.Perm.swap x a _)
def pre(p s:List UInt8):Bool:=decide (s.take p.length=p)
theorem sv{s p:List UInt8}:cj Tryz.prog 222 [.string (strOf s),.string (strOf p)] [] [] (fun v_ X_ S_=>v_=(.bool (pre p s))∧X_=[]∧S_=[]):=by
 have hs1:=di s
 have hs2:=di p
 refine aQ (N:=18) Tryz.func222 rfl rfl (by simp) fun b=> ?_
 by_cases h:p.length≤s.length
 ·refine ah<|aj<|hy (fun _=>ab rfl)<|ai<|ag<|ah<|aj<|hy (fun _=>aa rfl)<|hy (fun _=>db rfl Tryz.underlying9)<|hy (fun _=>aa rfl)<|hy (fun _=>db rfl Tryz.underlying9)<|hy (fun _=>yT (kl rfl rfl) ((decide_eq_true (by omega))))<|hy (fun _=>aa rfl)<|dU (o:=_) rfl rfl rfl (fun _=>aa rfl)<|dU (o:=_) rfl rfl rfl (fun _=>aa rfl)<|dU (o:=_) rfl rfl rfl (fun _=>db rfl Tryz.underlying9)<|dU (o:=_) rfl rfl rfl (fun _=>yV (sC rfl rfl Tryz.underlying9 (show((p.length:Nat):Int)=_ by omega) (by rw[qy];exact h)) ((rfl:Value.string _= .string (strOf (s.take p.length)))))<|dU (o:=_) rfl rfl rfl (fun _=>aa rfl)<|dU (o:=_) rfl rfl rfl (fun _=>tj rfl rfl)<|hy (fun _=>bX rfl rfl)<|hy (fun _=>ab rfl)<|ai<|al (ρ' :=[(4,_),(0,_),(1,_)]) ⟨rfl,rfl,rfl,trivial⟩<|ag<|aX<| ?_
  exact bf trivial rfl rfl [] rfl [] rfl ⟨(congrArg Value.bool (decide_eq_decide.2 cF)),rfl,rfl⟩
 ·refine ah<|aj<|hy (fun _=>ab rfl)<|ai<|ag<|ah<|aj<|hy (fun _=>aa rfl)<|hy (fun _=>db rfl Tryz.underlying9)<|hy (fun _=>aa rfl)<|hy (fun _=>db rfl Tryz.underlying9)<|hy (fun _=>yF (kl rfl rfl) ((decide_eq_false (by omega))))<|hy (fun _=>aa rfl)<|bD rfl rfl rfl (by decide)<|bD rfl rfl rfl (by decide)<|bD rfl rfl rfl (by decide)<|bD rfl rfl rfl (by decide)<|bD rfl rfl rfl (by decide)<|bD rfl rfl rfl (by decide)<|hy (fun _=>bP rfl rfl)<|hy (fun _=>ab rfl)<|ai<|al (ρ' :=[(4,_),(0,_),(1,_)]) ⟨rfl,rfl,rfl,trivial⟩<|ag<|aX<| ?_
  exact bf trivial rfl rfl [] rfl [] rfl ⟨(congrArg Value.bool (decide_eq_false (fun e=>h (by rw[←e,List.length_take];omega))).symm),rfl,rfl⟩
theorem vk{s p:List UInt8}:cj Tryz.prog 164 [.string (strOf s),.string (strOf p)] [] [] (fun v_ X_ S_=>v_=(.bool (pre p s))∧X_=[]∧S_=[]):=by
 refine aQ (N:=8) Tryz.func164 rfl rfl (by simp) fun b=> ?_
 refine ah<|aj<|hy (fun _=>ab rfl)<|ai<|ag<|ah<|aj<|hy (fun _=>aa rfl)<|hy (fun _=>aa rfl)<| ?_
 refine hx (aq rfl Tryz.call222 (sv) [] rfl [] rfl ?_)
 rintro _ _ _ ⟨rfl,rfl,rfl⟩
 refine hy (fun _=>ab rfl)<|ai<|al (ρ' :=[(4,_),(0,_),(1,_)]) ⟨rfl,rfl,rfl,trivial⟩<|ak (X' :=[]) (S' :=[]) (fun _ m=>m)<|ag<|aX<| ?_
 exact bf trivial rfl rfl [] rfl [] rfl ⟨rfl,rfl,rfl⟩
theorem F0{g:Nat}{st:cA}{p:List UInt8}(hk:st.seen.length≤100000):cj Tryz.prog 86 [.pointer (some ⟨g,0,none⟩),.string (strOf p)] [bj g st] [] (fun v_ X_ S_=>∃v n ks,v_=v∧X_=[bj g st,aG 9 1 v n (ss (yd ks))]∧S_=[]∧(n=ks.length∧ks.Perm ((cn st.seen).filter (pre p)))):=by
 refine aQ (N:=26) Tryz.func86 rfl rfl (by simp) fun b=> ?_
 refine bw (fun w m=>(m.perm (ar [0] _ [_] _ rfl)).unpack) ?_
 refine ah<|aj<|hy (fun _=>ab rfl)<|ai<|ag<|ah<|aj<|hy (fun _=>ab rfl)<|ai<|ag<|ah<|ah<|aj<|hy (fun _=>aa rfl)<|hy (fun _=>a7 rfl)<|hy (fun _=>aH rfl gv (by decide))<|hy (fun m=>aw rfl iR (aA (m.aZ 0 rfl) rfl))<| ?_
 refine hx (pE 1 rfl rfl Tryz.underlying174 (fun r11=> ?_))
 refine ai<|al (ρ' :=[(11,_),(5,_),(4,_),(0,_),(1,_)]) ⟨rfl,rfl,rfl,rfl,rfl,trivial⟩<|ak (X' :=[_,_,_,_,_]) (S' :=[]) (fun _ m=>m)<|ag<|aI<| ?_
 refine bw (fun w m=>m.dG (r' :=aG 9 1 (.slice none 0 0) 0 []) (.refl _ _) (Own.nil _ _ _ _) (fun k hk=>hk.elim)) ?_
 refine nP (fun left cur A1 k c1 ks=>left.length) (fun left cur A1 k c1 ks=>[(5,.slice A1 k c1)]) (fun left cur A1 k c1 ks=>[aG 9 1 (.slice A1 k c1) k (ss ks),jG SV r11 st.gs (dC st.seen) (dC left) cur]) (fun left cur A1 k c1 ks=>[]) (fun left cur A1 k c1 ks=>k=ks.length∧k+left.length≤st.seen.length∧(ks++(cn left).filter (pre p)).Perm ((cn st.seen).filter (pre p))) st.seen none none 0 0 [] [(11,_),(4,_),(0,_),(1,_)] ⟨rfl,rfl,rfl,rfl,trivial⟩ [0,0] rfl [] rfl (⟨rfl,by omega,List.Perm.refl _⟩) ⟨rfl,trivial⟩ (fun left cur A1 k c1 ks ⟨hkn,hkl,hpm⟩=> ?_)
 refine ah<|aj<| ?_
 refine hx (rU 1 rfl rfl (fun h0=> ?_) (fun j x hx1=> ?_))
 ·obtain rfl:left=[]:=List.map_eq_nil_iff.1 h0
  refine hy (fun _=>au rfl rfl)<|ai<|al (ρ' :=[(13,_),(5,_),(11,_),(4,_),(0,_),(1,_)]) ⟨rfl,rfl,rfl,rfl,rfl,rfl,trivial⟩<|ag<|ah<| ?_
  refine dL rfl (rfl) ?_
  refine bK<|ao<|ao<|aB<|ag<|ah<|aj<|hy (fun _=>aa rfl)<| ?_
  refine hx (aq rfl Tryz.call165 (F6 (by omega)) [0] rfl [] rfl ?_)
  rintro _ _ _ ⟨rfl,rfl,rfl⟩
  refine ai<|al (ρ' :=[(13,_),(5,_),(11,_),(4,_),(0,_),(1,_)]) ⟨rfl,rfl,rfl,rfl,rfl,rfl,trivial⟩<|ak (X' :=[_,_,_,_,_,_]) (S' :=[]) (fun _ m=>m)<|ag<|ah<|aj<|hy (fun _=>aa rfl)<|hy (fun _=>ab rfl)<|ai<|al (ρ' :=[(4,_),(13,_),(5,_),(11,_),(0,_),(1,_)]) ⟨rfl,rfl,rfl,rfl,rfl,rfl,trivial⟩<|ag<|aX<| ?_
  refine ak (fun w m=>m.uS 1 rfl) ?_
  refine ak (X' :=bj g st::_) (fun w m=>(m.perm (ar [2,0,1,1,1] _ [_,_,_,_,_] _ rfl)).pack) ?_
  exact bf trivial rfl rfl [0,0] rfl [] rfl ⟨_,_,_,rfl,rfl,rfl,⟨hkn,by simpa[cn]using hpm⟩⟩
 ·obtain⟨key,v⟩:=x
  obtain⟨r,hr,e⟩:=wK hx1
  obtain rfl:v=r.val:=e
  have hlt:=(List.getElem?_eq_some_iff.1 hr).1
  simp only at hr
  have hpe:=ml hr
  have hpa:(cn left).Perm (key::cn (left.eraseIdx j)):=by simpa[cn]using hpe.map Prod.fst
  have hpf:=hpa.filter (pre p)
  refine hy (fun _=>au rfl rfl)<|ai<|al (ρ' :=[(13,_),(5,_),(11,_),(4,_),(0,_),(1,_)]) ⟨rfl,rfl,rfl,rfl,rfl,rfl,trivial⟩<|ag<|ah<| ?_
  refine ic rfl (rfl) ?_
  refine aC<|ag<|aI<|ah<|aj<|hy (fun m=>pW rfl (m.Ee 0 rfl))<|hy (fun _=>au rfl rfl)<|hy (fun _=>ab rfl)<|ai<|al (ρ' :=[(6,_),(13,_),(5,_),(11,_),(4,_),(0,_),(1,_)]) ⟨rfl,rfl,rfl,rfl,rfl,rfl,rfl,trivial⟩<|ag<|ah<|aj<|hy (fun _=>aa rfl)<|hy (fun _=>aa rfl)<| ?_
  refine hx (aq rfl Tryz.call164 (vk) [] rfl [] rfl ?_)
  rintro _ _ _ ⟨rfl,rfl,rfl⟩
  refine ai<|al (ρ' :=[(18,_),(6,_),(13,_),(5,_),(11,_),(4,_),(0,_),(1,_)]) ⟨rfl,rfl,rfl,rfl,rfl,rfl,rfl,rfl,trivial⟩<|ak (X' :=[_,_,_,_,_,_]) (S' :=[]) (fun _ m=>m)<|ag<| ?_
  refine xf rfl (fun hpr=> ?_) (fun hpr=> ?_)
  ·have hp2:(ks++[key]++(cn (left.eraseIdx j)).filter (pre p)).Perm ((cn st.seen).filter (pre p)):=by
    rw[List.filter_cons,if_pos hpr]at hpf
    rw[List.append_assoc]
    exact((List.Perm.append_left ks hpf).symm.trans hpm)
   refine aj<|hy (fun _=>aa rfl)<|hy (fun _=>aa rfl)<| ?_
   refine hx (bY Tryz.underlying152 GV rfl rfl rfl (by simp[Value.cells,SV]) (by decide) (by decide) (fun g21=> ?_))
   have hA_b21:0<1→(some (⟨g21,0,none⟩:Addr))≠none:=fun _ h=>by cases h
   refine aT (fun w m=>m.bQ 0 rfl (show _=aG 9 1 (.slice (some ⟨g21,0,none⟩) 1 1) 1 (ss [key])from rfl)) ?_
   refine hx (bL 2 rfl rfl rfl Tryz.underlying152 Tryz.underlying152 (by exact .inl rfl) GV rfl (fun m=>Src.b7 (m.ord 0 rfl)) En (by unfold maxLen;omega) (by omega) (fun u=> ?_))
   refine aD (fun m=>(m.own 0 rfl).slice) ?_
   rintro⟨A_o,c_o,rfl,hc_o⟩
   refine aD (fun m=>(m.ord 0 rfl).2.1) fun hA_o=> ?_
   refine aT (fun w m=>m.bQ 0 rfl (show _=aG 9 1 (.slice A_o (k+1) c_o) (k+1) (ss (ks++[key]))from by simp[ss])) ?_
   refine hy (fun _=>ab rfl)<|ai<|al (ρ' :=[(5,_),(18,_),(6,_),(13,_),(11,_),(4,_),(0,_),(1,_)]) ⟨rfl,rfl,rfl,rfl,rfl,rfl,rfl,rfl,trivial⟩<|ak (X' :=[_,_,_,_,_,_,_]) (S' :=[]) (fun _ m=>m)<|aM<| ?_
   refine ak (fun w m=>m.bQ 2 rfl (show _=jG SV r11 st.gs (dC st.seen) (dC (left.eraseIdx j)) (some (key,r.val))from congrArg (fun q=>jG SV r11 st.gs (dC st.seen) q (some (key,r.val))) (mh left j))) ?_
   refine eM (left.eraseIdx j) (some (key,r.val)) A_o (k+1) c_o (ks++[key]) ⟨rfl,rfl,rfl,rfl,rfl,trivial⟩ [1,0,1,1,1,1] rfl [] rfl (⟨by rw[List.length_append,hkn];rfl,by rw[List.length_eraseIdx,if_pos hlt];omega,hp2⟩) (by rw[List.length_eraseIdx,if_pos hlt];omega)
  ·have hp2:(ks++(cn (left.eraseIdx j)).filter (pre p)).Perm ((cn st.seen).filter (pre p)):=by
    rw[List.filter_cons,if_neg (by rw[show pre p key=false from hpr];decide)]at hpf
    exact((List.Perm.append_left ks hpf).symm.trans hpm)
   refine aC<|aM<| ?_
   refine ak (fun w m=>m.bQ 0 rfl (show _=jG SV r11 st.gs (dC st.seen) (dC (left.eraseIdx j)) (some (key,r.val))from congrArg (fun q=>jG SV r11 st.gs (dC st.seen) q (some (key,r.val))) (mh left j))) ?_
   refine eM (left.eraseIdx j) (some (key,r.val)) A1 k c1 ks ⟨rfl,rfl,rfl,rfl,rfl,trivial⟩ [1,0,0,0,0,0] rfl [] rfl (⟨hkn,by rw[List.length_eraseIdx,if_pos hlt];omega,hp2⟩) (by rw[List.length_eraseIdx,if_pos hlt];omega)
end Go.Proofs.YtmibdabdlgmafaaGreatDoor
end
section
set_option maxRecDepth 20000
namespace Go.Proofs.YtmibdabdlgmafaaGreatDoor
open Go.Eng Go.Hx
theorem y9{g:Nat}{st:cA}{d:RD}{kk:Nat}{p:List UInt8}(hD:DS st d kk)(hkk:kk≤99000):cj Tryz.prog 79 [.pointer (some ⟨g,0,none⟩),.string (strOf p)] [bj g st] [] (fun v_ X_ S_=>∃st1,v_=(.int .i64 (d.ct p))∧X_=[bj g st1]∧S_=[]∧(DS st1 (d.remove p) (kk+1))):=by
 exact cj.mono (Cn hD.ok (by omega)) (fun v X S h=>by
  obtain⟨st1,A,j,h1,h2,h3,hw⟩:=h
  exact⟨st1,by rw[hD.ct];exact h1,h2,h3,hD.remove hw⟩)
theorem Cu{g:Nat}{st:cA}{d:RD}{kk:Nat}{n:Int}(hD:DS st d kk)(hn:n≤1000000000000):cj Tryz.prog 57 [.pointer (some ⟨g,0,none⟩),.int .i64 n] [bj g st] [] (fun v_ X_ S_=>∃st1,v_=(.tuple #[])∧X_=[bj g st1]∧S_=[]∧(DS st1 (d.bF n) kk)):=by
 exact cj.mono D4 (fun v X S h=>⟨_,h.1,h.2.1,h.2.2,hD.bF hn⟩)
theorem uI{g:Nat}{st:cA}{d:RD}{kk:Nat}{A:Option Addr}{n c:Nat}{bs:List Bool}(hD:DS st d kk)(hkk:kk≤99000)(hc:n≤c):cj Tryz.prog 72 [.pointer (some ⟨g,0,none⟩),.slice A n c] [bj g st] [cV 1 A n (jJ bs)] (fun v_ X_ S_=>∃st1,v_=(.tuple #[])∧X_=[bj g st1]∧S_=[]∧(DS st1 (d.dR bs) kk)):=by
 have hw:st.waits.length≤1000000:=by have:=hD.ok.rest;omega
 exact cj.mono (xI hc hD.ok.sm hw) (fun v X S h=>by
  obtain⟨gs,h1,h2,h3⟩:=h
  exact⟨_,h1,h2,h3,hD.dR bs gs⟩)
def gQ(d:RD)(p:List UInt8):List (List UInt8):=(d.seen.map (·.1)).filter (pre p)
theorem fq.gQ{fs:c6}{l:List FP}(h:fq fs l){q:List UInt8→Bool}{ks:List (List UInt8)}(hk:ks.Perm ((cn fs).filter q)):yd ks=(l.map (·.1)).filter q:=by
 have h1:(yd ks).Perm ((l.map (·.1)).filter q):=(List.mergeSort_perm _ _).trans (hk.trans (h.keys.filter q))
 have h2:(yd ks).Pairwise (· ≤·):=by
  have:=List.pairwise_mergeSort (le:=fun x y:List UInt8=>decide (x≤y)) (fun a b c hab hbc=>by simpa using List.le_trans (by simpa using hab) (by simpa using hbc)) (fun a b=>by simpa using List.le_total a b) ks
  exact this.imp (fun hab=>by simpa using hab)
 have h3:((l.map (·.1)).filter q).Pairwise (· ≤·):=(h.ord.imp (fun hlt=>List.le_of_lt hlt)).filter q
 exact h1.eq_of_pairwise (fun a b _ _ hab hba=>List.le_antisymm hab hba) h2 h3
theorem DN{g:Nat}{st:cA}{d:RD}{kk:Nat}{p:List UInt8}(hD:DS st d kk)(hkk:kk≤99000):cj Tryz.prog 86 [.pointer (some ⟨g,0,none⟩),.string (strOf p)] [bj g st] [] (fun v_ X_ S_=>∃v,v_=v∧X_=[bj g st,aG 9 1 v (gQ d p).length (ss (gQ d p))]∧S_=[]∧((gQ d p).length≤kk)):=by
 have h1:st.seen.length≤kk:=hD.ok.seen
 have h2:d.seen.length≤kk:=hD.uA.seen
 have h3:(gQ d p).length≤kk:=Nat.le_trans (List.length_filter_le _ _) (by rw[List.length_map];exact h2)
 exact cj.mono (F0 (p:=p) (by omega)) (fun v X S h=>by
  obtain⟨v1,n,ks,h1,h2,h3',h4,h5⟩:=h
  have e:=hD.lU.files.gQ h5
  have hl:n=(gQ d p).length:=by
   unfold gQ
   rw[←e,h4]
   exact(List.mergeSort_perm _ _).length_eq.symm
  subst hl
  refine⟨v1,h1, ?_,h3',h3⟩
  rw[h2,e]
  rfl)
end Go.Proofs.YtmibdabdlgmafaaGreatDoor
end
section
namespace Go.Hx
open Go.Eng
end Go.Hx
end
section
namespace Go.Proofs.YtmibdabdlgmafaaGreatDoor
open Go.Eng Go.Hx
end Go.Proofs.YtmibdabdlgmafaaGreatDoor
end
