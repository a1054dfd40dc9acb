/- Part. -/
import Derived.Test.YtmibdabdlgmafaaGreatDoorSLX4
import Derived.Test.YtmibdabdlgmafaaGreatDoorProg
import Derived.Conc.MuLib
import Derived.KernelRfl
set_option linter.all false
section
set_option maxRecDepth 20000
set_option maxHeartbeats 2000000
namespace Go.Proofs.YtmibdabdlgmafaaGreatDoor
open Go.Eng Go.Hx
def mv(s:Nat×Nat):List Value:=[.int .i64 (s.1:Nat),.int .i64 (s.2:Nat)]
theorem mA{s:Nat×Nat}:∀u∈mv s,u.oneCell' =true:=by
 intro u hu
 simp only[mv,List.mem_cons,List.not_mem_nil,or_false]at hu
 rcases hu with rfl|rfl <;> rfl
theorem Am{A:Option Addr}{n c i:Nat}{l:List UInt8}(hn:n≤1000000000)(hl:l.length=n)(hi:i<n):cj Tryz.prog 218 [.slice A n c,.int .i64 (i:Nat)] [] [dw 1 A n (aK l)] (fun v_ X_ S_=>v_=(.agg (mv (a8 l i)).toArray)∧X_=[]∧S_=[]):=by
 refine aU (N:=67) Tryz.func218 rfl rfl (by simp) fun b=> ?_
 refine ba (fun m=>fG (m.rd 0 rfl)) ?_
 rintro⟨hl_r,hA_r⟩
 refine ah<|aj<| ?_
 refine hx (aJ p8 (fun g4=> ?_))
 refine ai<|ak (X' :=[_]) (S' :=[_]) (fun _ m=>m)<|ag<|ah<|aj<| ?_
 refine hx (aJ p8 (fun g5=> ?_))
 refine ai<|ak (X' :=[_,_]) (S' :=[_]) (fun _ m=>m)<|ag<|ah<|ah<|aj<|hy (fun _=>aa rfl)<|hy (fun _=>bk rfl rfl)<|hy (fun _=>aa rfl)<| ?_
 refine eG 10 rfl (fun h0=> ?_) (fun h0=> ?_)
 ·exact absurd h0 (by omega)
 ·refine ca (o:=_) rfl rfl rfl (fun _=>aa rfl)<|ca (o:=_) rfl rfl rfl (fun _=>aa rfl)<|ca (o:=_) rfl rfl rfl (fun _=>aX rfl Tryz.underlying27)<|ca (o:=_) rfl rfl rfl (fun _=>gG rfl rfl)<|hy (fun _=>a7 rfl rfl)<|ai<|al (ρ' :=[(15,_),(5,_),(4,_),(0,_),(1,_)]) ⟨rfl,rfl,rfl,rfl,rfl,trivial⟩<|ag<| ?_
  refine dx rfl ((decide_eq_false (by omega))) ?_
  refine bD (fun w m=>m.bQ 0 rfl (show _=aH g5 298 (mv (ck l i 0))from rfl)) ?_
  refine bD (fun w m=>m.bQ 1 rfl (show _=aH g4 298 (mv (0,0))from rfl)) ?_
  refine aC<|ag<|ah<|ah<|aj<|hy (fun _=>ab rfl)<|ai<|ag<|aN<| ?_
  refine dA (fun q=>2000-q) (fun q=>[(6,.int .i64 ((q+1:Nat):Int))]) (fun q=>[aH g5 298 (mv (ck l i q))]) (fun q=>[]) (fun q=>q≤min i 1024) 0 [(15,_),(5,_),(4,_),(0,_),(1,_)] ⟨rfl,rfl,rfl,rfl,rfl,trivial⟩ [1] rfl [] rfl (Nat.zero_le _) ⟨rfl,trivial⟩ (fun q hI=> ?_)
  refine ah<|ah<|aj<|hy (fun _=>aa rfl)<|hy (fun _=>aa rfl)<|hy (fun _=>lA rfl rfl)<|hy (fun _=>aa rfl)<| ?_
  refine eG 20 rfl (fun h1=> ?_) (fun h1=> ?_)
  ·refine ca (o:=_) rfl rfl rfl (fun _=>aa rfl)<|ca (o:=_) rfl rfl rfl (fun _=>lA rfl rfl)<|hy (fun _=>bo rfl rfl)<|ai<|al (ρ' :=[(23,_),(6,_),(15,_),(5,_),(4,_),(0,_),(1,_)]) ⟨rfl,rfl,rfl,rfl,rfl,rfl,rfl,trivial⟩<|ag<| ?_
   refine cI rfl (fun h2=> ?_) (fun h2=> ?_)
   ·refine aC<|ag<|ah<|aN<|ah<|aj<|hy (fun _=>ab rfl)<|ai<|ag<|ah<|aN<| ?_
    refine dA (fun j=>131-j) (fun j=>[(7,.int .i64 (j:Nat))]) (fun j=>[]) (fun j=>[]) (fun j=>j≤131∧i+j≤n∧kC l i (i-(q+1)) (131-j) j=k4 l i (i-(q+1))) 0 [(23,_),(6,_),(15,_),(5,_),(4,_),(0,_),(1,_)] ⟨rfl,rfl,rfl,rfl,rfl,rfl,rfl,trivial⟩ [] rfl [] rfl (⟨by decide,by omega,rfl⟩) ⟨rfl,trivial⟩ (fun j ⟨hj,hij,hL⟩=> ?_)
    refine ah<|ah<|cV [] [(0,some 0),(1,some 0),(2,some 0),(3,some 0),(4,some 0),(5,some 0),(6,some 0),(7,some 0),(8,some 0),(9,some 0),(10,some 0),(11,some 0),(12,some 0),(13,some 0),(14,some 0),(15,some 0),(16,some 0),(17,some 0),(18,some 0),(19,some 0),(20,some 0),(21,some 0),(22,some 0),(23,some 0),(24,some 0),(25,some 0),(26,some 0)] (by kernel_rfl) (by kernel_rfl) rfl 99<|an (aa rfl)<|an (aa rfl)<|an (aM rfl rfl (bB (by omega) (by omega)))<|an (aa rfl)<|an (aX rfl Tryz.underlying27)<|an (bk rfl rfl)<|an (aa rfl)<| ?_
    refine gJ 32 rfl (fun g1=> ?_) (fun g1=> ?_)
    ·refine bI (o:=_) rfl rfl rfl (aa rfl)<|bI (o:=_) rfl rfl rfl (bk rfl rfl)<|an (bo rfl rfl)<|an (aa rfl)<| ?_
     refine gJ 36 rfl (fun g2=> ?_) (fun g2=> ?_)
     ·refine bI (o:=_) rfl rfl rfl (aa rfl)<|bI (o:=_) rfl rfl rfl (aa rfl)<|bI (o:=_) rfl rfl rfl (aa rfl)<|bI (o:=_) rfl rfl rfl (aM rfl rfl (bB (by omega) (by omega)))<|bI (o:=_) rfl rfl rfl (aL rfl rfl Tryz.underlying27 dE hA_r (show((i+j:Nat):Int)=_ by omega) (by omega))<|jQ (o:=_) rfl rfl rfl (fun m=>av rfl iy ((m.rd 0 rfl).cell (bC (by omega))))<|bI (o:=_) rfl rfl rfl (aa rfl)<|bI (o:=_) rfl rfl rfl (aa rfl)<|bI (o:=_) rfl rfl rfl (aa rfl)<|bI (o:=_) rfl rfl rfl (aM rfl rfl (bB (by omega) (by omega)))<|bI (o:=_) rfl rfl rfl (aa rfl)<|bI (o:=_) rfl rfl rfl (yV (b6 rfl rfl (bB (by omega) (by omega))) ((show Value.int .i64 ((i:Int)+(j:Int)-((q+1:Nat):Int))= .int .i64 ((i-(q+1)+j:Nat):Int) by congr 1;omega)))<|bI (o:=_) rfl rfl rfl (aL rfl rfl Tryz.underlying27 dE hA_r rfl (by omega))<|jQ (o:=_) rfl rfl rfl (fun m=>av rfl iy ((m.rd 0 rfl).cell (bC (by omega))))<|bI (o:=_) rfl rfl rfl (cy rfl rfl)<|an (bo rfl rfl)<|bE<|al (ρ' :=[(52,_),(7,_),(23,_),(6,_),(15,_),(5,_),(4,_),(0,_),(1,_)]) ⟨rfl,rfl,rfl,rfl,rfl,rfl,rfl,rfl,rfl,trivial⟩<|ag<| ?_
      refine cI rfl (fun g3=> ?_) (fun g3=> ?_)
      ·have e3:l.getD (i+j) 0=l.getD (i-(q+1)+j) 0:=UInt8.toNat_inj.1 (by omega)
       rw[gS (by omega) ⟨by omega,e3⟩]at hL
       refine aC<|ag<|aN<|aj<|hy (fun _=>aa rfl)<|hy (fun _=>aM rfl rfl (bB (by omega) (by omega)))<|hy (fun _=>ab rfl)<|ai<|al (ρ' :=[(7,_),(52,_),(23,_),(6,_),(15,_),(5,_),(4,_),(0,_),(1,_)]) ⟨rfl,rfl,rfl,rfl,rfl,rfl,rfl,rfl,rfl,trivial⟩<|aW<| ?_
       refine cS (j+1) ⟨rfl,rfl,rfl,rfl,rfl,rfl,rfl,rfl,trivial⟩ [0,0] rfl [0] rfl (⟨by omega,by omega,by rw[←hL];rfl⟩) (by omega)
      ·refine bS<|ar<|ar<|aE<|ag<|ah<|aj<|hy (fun _=>aa rfl)<|hy (fun _=>cF rfl rfl)<|hy (fun _=>aa rfl)<| ?_
       have hL2:j=k4 l i (i-(q+1)):=(by rw[←hL,ku (fun e=>g3 (by rw[e.2]))])
       subst hL2
       refine eG 57 rfl (fun h3=> ?_) (fun h3=> ?_)
       ·refine ca (o:=_) rfl rfl rfl (fun _=>aa rfl)<|ca (o:=_) rfl rfl rfl (fun _=>aI rfl kg (by decide))<|ca (o:=_) rfl rfl rfl (fun m=>av rfl dV (aB (m.aT 0 rfl) rfl))<|ca (o:=_) rfl rfl rfl (fun _=>cF rfl rfl)<|hy (fun _=>bo rfl rfl)<|ai<|al (ρ' :=[(62,_),(52,_),(7,_),(23,_),(6,_),(15,_),(5,_),(4,_),(0,_),(1,_)]) ⟨rfl,rfl,rfl,rfl,rfl,rfl,rfl,rfl,rfl,rfl,trivial⟩<|ag<| ?_
        refine cI rfl (fun h4=> ?_) (fun h4=> ?_)
        ·refine aj<|hy (fun _=>aa rfl)<|hy (fun _=>aa rfl)<|hy (fun _=>cD p8 rfl rfl (by kernel_rfl) (.cons (o:=0) (sz:=1) (by kernel_rfl) rfl rfl (Nat.le_of_ble_eq_true rfl) (.cons (o:=1) (sz:=1) (by kernel_rfl) rfl rfl (Nat.le_of_ble_eq_true rfl) .nil)))<| ?_
         refine cN (aG 0 rfl rfl rfl kP rfl (mA (s:=(k4 l i (i-(q+1)),q+1))) rfl ?_)
         have hst:mv (k4 l i (i-(q+1)),q+1)=mv (ck l i (q+1)):=by
          rw[dJ]
          unfold gp
          rw[if_pos ⟨by omega,by omega⟩]
         refine aV (fun w m=>m.bQ 0 rfl (show _=aH g5 298 (mv (ck l i (q+1)))from congrArg (aH g5 _) hst)) ?_
         refine ai<|al (ρ' :=[(62,_),(52,_),(7,_),(23,_),(6,_),(15,_),(5,_),(4,_),(0,_),(1,_)]) ⟨rfl,rfl,rfl,rfl,rfl,rfl,rfl,rfl,rfl,rfl,trivial⟩<|ak (X' :=[_,_]) (S' :=[_]) (fun _ m=>m)<|aW<|ag<|aj<|hy (fun _=>aa rfl)<|hy (fun _=>aM rfl rfl (bB (by omega) (by omega)))<|hy (fun _=>ab rfl)<|ai<|al (ρ' :=[(6,_),(62,_),(52,_),(7,_),(23,_),(15,_),(5,_),(4,_),(0,_),(1,_)]) ⟨rfl,rfl,rfl,rfl,rfl,rfl,rfl,rfl,rfl,rfl,trivial⟩<| ?_
         refine cS (q+1) ⟨rfl,rfl,rfl,rfl,rfl,rfl,trivial⟩ [0,0] rfl [0] rfl ((by omega)) (by omega)
        ·have hst:mv (ck l i q)=mv (ck l i (q+1)):=by
          rw[dJ]
          unfold gp
          rw[if_neg (fun h=>by omega)]
         refine aC<|aW<|ag<|aj<|hy (fun _=>aa rfl)<|hy (fun _=>aM rfl rfl (bB (by omega) (by omega)))<|hy (fun _=>ab rfl)<|ai<|al (ρ' :=[(6,_),(62,_),(52,_),(7,_),(23,_),(15,_),(5,_),(4,_),(0,_),(1,_)]) ⟨rfl,rfl,rfl,rfl,rfl,rfl,rfl,rfl,rfl,rfl,trivial⟩<| ?_
         refine ak (fun w m=>m.bQ 0 rfl (show _=aH g5 298 (mv (ck l i (q+1)))from congrArg (aH g5 _) hst)) ?_
         refine cS (q+1) ⟨rfl,rfl,rfl,rfl,rfl,rfl,trivial⟩ [0,0] rfl [0] rfl ((by omega)) (by omega)
       ·have hst:mv (ck l i q)=mv (ck l i (q+1)):=by
         rw[dJ]
         unfold gp
         rw[if_neg (fun h=>by omega)]
        refine a6 rfl rfl rfl (by decide)<|a6 rfl rfl rfl (by decide)<|a6 rfl rfl rfl (by decide)<|a6 rfl rfl rfl (by decide)<|hy (fun _=>a7 rfl rfl)<|ai<|al (ρ' :=[(62,_),(52,_),(7,_),(23,_),(6,_),(15,_),(5,_),(4,_),(0,_),(1,_)]) ⟨rfl,rfl,rfl,rfl,rfl,rfl,rfl,rfl,rfl,rfl,trivial⟩<|ag<| ?_
        refine dx rfl (rfl) ?_
        refine aC<|aW<|ag<|aj<|hy (fun _=>aa rfl)<|hy (fun _=>aM rfl rfl (bB (by omega) (by omega)))<|hy (fun _=>ab rfl)<|ai<|al (ρ' :=[(6,_),(62,_),(52,_),(7,_),(23,_),(15,_),(5,_),(4,_),(0,_),(1,_)]) ⟨rfl,rfl,rfl,rfl,rfl,rfl,rfl,rfl,rfl,rfl,trivial⟩<| ?_
        refine ak (fun w m=>m.bQ 0 rfl (show _=aH g5 298 (mv (ck l i (q+1)))from congrArg (aH g5 _) hst)) ?_
        refine cS (q+1) ⟨rfl,rfl,rfl,rfl,rfl,rfl,trivial⟩ [0,0] rfl [0] rfl ((by omega)) (by omega)
     ·refine aO rfl rfl rfl (by decide)<|aO rfl rfl rfl (by decide)<|aO rfl rfl rfl (by decide)<|aO rfl rfl rfl (by decide)<|aO rfl rfl rfl (by decide)<|aO rfl rfl rfl (by decide)<|aO rfl rfl rfl (by decide)<|aO rfl rfl rfl (by decide)<|aO rfl rfl rfl (by decide)<|aO rfl rfl rfl (by decide)<|aO rfl rfl rfl (by decide)<|aO rfl rfl rfl (by decide)<|aO rfl rfl rfl (by decide)<|aO rfl rfl rfl (by decide)<|aO rfl rfl rfl (by decide)<|an (a7 rfl rfl)<|bE<|al (ρ' :=[(52,_),(7,_),(23,_),(6,_),(15,_),(5,_),(4,_),(0,_),(1,_)]) ⟨rfl,rfl,rfl,rfl,rfl,rfl,rfl,rfl,rfl,trivial⟩<|ag<| ?_
      refine dx rfl (rfl) ?_
      refine bS<|ar<|ar<|aE<|ag<|ah<|aj<|hy (fun _=>aa rfl)<|hy (fun _=>cF rfl rfl)<|hy (fun _=>aa rfl)<| ?_
      have hL2:j=k4 l i (i-(q+1)):=(by rw[←hL,show 131-j=0 by omega];rfl)
      subst hL2
      refine eG 57 rfl (fun h3=> ?_) (fun h3=> ?_)
      ·refine ca (o:=_) rfl rfl rfl (fun _=>aa rfl)<|ca (o:=_) rfl rfl rfl (fun _=>aI rfl kg (by decide))<|ca (o:=_) rfl rfl rfl (fun m=>av rfl dV (aB (m.aT 0 rfl) rfl))<|ca (o:=_) rfl rfl rfl (fun _=>cF rfl rfl)<|hy (fun _=>bo rfl rfl)<|ai<|al (ρ' :=[(62,_),(52,_),(7,_),(23,_),(6,_),(15,_),(5,_),(4,_),(0,_),(1,_)]) ⟨rfl,rfl,rfl,rfl,rfl,rfl,rfl,rfl,rfl,rfl,trivial⟩<|ag<| ?_
       refine cI rfl (fun h4=> ?_) (fun h4=> ?_)
       ·refine aj<|hy (fun _=>aa rfl)<|hy (fun _=>aa rfl)<|hy (fun _=>cD p8 rfl rfl (by kernel_rfl) (.cons (o:=0) (sz:=1) (by kernel_rfl) rfl rfl (Nat.le_of_ble_eq_true rfl) (.cons (o:=1) (sz:=1) (by kernel_rfl) rfl rfl (Nat.le_of_ble_eq_true rfl) .nil)))<| ?_
        refine cN (aG 0 rfl rfl rfl kP rfl (mA (s:=(k4 l i (i-(q+1)),q+1))) rfl ?_)
        have hst:mv (k4 l i (i-(q+1)),q+1)=mv (ck l i (q+1)):=by
         rw[dJ]
         unfold gp
         rw[if_pos ⟨by omega,by omega⟩]
        refine aV (fun w m=>m.bQ 0 rfl (show _=aH g5 298 (mv (ck l i (q+1)))from congrArg (aH g5 _) hst)) ?_
        refine ai<|al (ρ' :=[(62,_),(52,_),(7,_),(23,_),(6,_),(15,_),(5,_),(4,_),(0,_),(1,_)]) ⟨rfl,rfl,rfl,rfl,rfl,rfl,rfl,rfl,rfl,rfl,trivial⟩<|ak (X' :=[_,_]) (S' :=[_]) (fun _ m=>m)<|aW<|ag<|aj<|hy (fun _=>aa rfl)<|hy (fun _=>aM rfl rfl (bB (by omega) (by omega)))<|hy (fun _=>ab rfl)<|ai<|al (ρ' :=[(6,_),(62,_),(52,_),(7,_),(23,_),(15,_),(5,_),(4,_),(0,_),(1,_)]) ⟨rfl,rfl,rfl,rfl,rfl,rfl,rfl,rfl,rfl,rfl,trivial⟩<| ?_
        refine cS (q+1) ⟨rfl,rfl,rfl,rfl,rfl,rfl,trivial⟩ [0,0] rfl [0] rfl ((by omega)) (by omega)
       ·have hst:mv (ck l i q)=mv (ck l i (q+1)):=by
         rw[dJ]
         unfold gp
         rw[if_neg (fun h=>by omega)]
        refine aC<|aW<|ag<|aj<|hy (fun _=>aa rfl)<|hy (fun _=>aM rfl rfl (bB (by omega) (by omega)))<|hy (fun _=>ab rfl)<|ai<|al (ρ' :=[(6,_),(62,_),(52,_),(7,_),(23,_),(15,_),(5,_),(4,_),(0,_),(1,_)]) ⟨rfl,rfl,rfl,rfl,rfl,rfl,rfl,rfl,rfl,rfl,trivial⟩<| ?_
        refine ak (fun w m=>m.bQ 0 rfl (show _=aH g5 298 (mv (ck l i (q+1)))from congrArg (aH g5 _) hst)) ?_
        refine cS (q+1) ⟨rfl,rfl,rfl,rfl,rfl,rfl,trivial⟩ [0,0] rfl [0] rfl ((by omega)) (by omega)
      ·have hst:mv (ck l i q)=mv (ck l i (q+1)):=by
        rw[dJ]
        unfold gp
        rw[if_neg (fun h=>by omega)]
       refine a6 rfl rfl rfl (by decide)<|a6 rfl rfl rfl (by decide)<|a6 rfl rfl rfl (by decide)<|a6 rfl rfl rfl (by decide)<|hy (fun _=>a7 rfl rfl)<|ai<|al (ρ' :=[(62,_),(52,_),(7,_),(23,_),(6,_),(15,_),(5,_),(4,_),(0,_),(1,_)]) ⟨rfl,rfl,rfl,rfl,rfl,rfl,rfl,rfl,rfl,rfl,trivial⟩<|ag<| ?_
       refine dx rfl (rfl) ?_
       refine aC<|aW<|ag<|aj<|hy (fun _=>aa rfl)<|hy (fun _=>aM rfl rfl (bB (by omega) (by omega)))<|hy (fun _=>ab rfl)<|ai<|al (ρ' :=[(6,_),(62,_),(52,_),(7,_),(23,_),(15,_),(5,_),(4,_),(0,_),(1,_)]) ⟨rfl,rfl,rfl,rfl,rfl,rfl,rfl,rfl,rfl,rfl,trivial⟩<| ?_
       refine ak (fun w m=>m.bQ 0 rfl (show _=aH g5 298 (mv (ck l i (q+1)))from congrArg (aH g5 _) hst)) ?_
       refine cS (q+1) ⟨rfl,rfl,rfl,rfl,rfl,rfl,trivial⟩ [0,0] rfl [0] rfl ((by omega)) (by omega)
    ·refine aO rfl rfl rfl (by decide)<|aO rfl rfl rfl (by decide)<|an (a7 rfl rfl)<|an (aa rfl)<| ?_
     refine aO rfl rfl rfl (by decide)<|aO rfl rfl rfl (by decide)<|aO rfl rfl rfl (by decide)<|aO rfl rfl rfl (by decide)<|aO rfl rfl rfl (by decide)<|aO rfl rfl rfl (by decide)<|aO rfl rfl rfl (by decide)<|aO rfl rfl rfl (by decide)<|aO rfl rfl rfl (by decide)<|aO rfl rfl rfl (by decide)<|aO rfl rfl rfl (by decide)<|aO rfl rfl rfl (by decide)<|aO rfl rfl rfl (by decide)<|aO rfl rfl rfl (by decide)<|aO rfl rfl rfl (by decide)<|an (a7 rfl rfl)<|bE<|al (ρ' :=[(52,_),(7,_),(23,_),(6,_),(15,_),(5,_),(4,_),(0,_),(1,_)]) ⟨rfl,rfl,rfl,rfl,rfl,rfl,rfl,rfl,rfl,trivial⟩<|ag<| ?_
     refine dx rfl (rfl) ?_
     refine bS<|ar<|ar<|aE<|ag<|ah<|aj<|hy (fun _=>aa rfl)<|hy (fun _=>cF rfl rfl)<|hy (fun _=>aa rfl)<| ?_
     have hL2:j=k4 l i (i-(q+1)):=(by rw[←hL,ku (fun e=>g1 (by omega))])
     subst hL2
     refine eG 57 rfl (fun h3=> ?_) (fun h3=> ?_)
     ·refine ca (o:=_) rfl rfl rfl (fun _=>aa rfl)<|ca (o:=_) rfl rfl rfl (fun _=>aI rfl kg (by decide))<|ca (o:=_) rfl rfl rfl (fun m=>av rfl dV (aB (m.aT 0 rfl) rfl))<|ca (o:=_) rfl rfl rfl (fun _=>cF rfl rfl)<|hy (fun _=>bo rfl rfl)<|ai<|al (ρ' :=[(62,_),(52,_),(7,_),(23,_),(6,_),(15,_),(5,_),(4,_),(0,_),(1,_)]) ⟨rfl,rfl,rfl,rfl,rfl,rfl,rfl,rfl,rfl,rfl,trivial⟩<|ag<| ?_
      refine cI rfl (fun h4=> ?_) (fun h4=> ?_)
      ·refine aj<|hy (fun _=>aa rfl)<|hy (fun _=>aa rfl)<|hy (fun _=>cD p8 rfl rfl (by kernel_rfl) (.cons (o:=0) (sz:=1) (by kernel_rfl) rfl rfl (Nat.le_of_ble_eq_true rfl) (.cons (o:=1) (sz:=1) (by kernel_rfl) rfl rfl (Nat.le_of_ble_eq_true rfl) .nil)))<| ?_
       refine cN (aG 0 rfl rfl rfl kP rfl (mA (s:=(k4 l i (i-(q+1)),q+1))) rfl ?_)
       have hst:mv (k4 l i (i-(q+1)),q+1)=mv (ck l i (q+1)):=by
        rw[dJ]
        unfold gp
        rw[if_pos ⟨by omega,by omega⟩]
       refine aV (fun w m=>m.bQ 0 rfl (show _=aH g5 298 (mv (ck l i (q+1)))from congrArg (aH g5 _) hst)) ?_
       refine ai<|al (ρ' :=[(62,_),(52,_),(7,_),(23,_),(6,_),(15,_),(5,_),(4,_),(0,_),(1,_)]) ⟨rfl,rfl,rfl,rfl,rfl,rfl,rfl,rfl,rfl,rfl,trivial⟩<|ak (X' :=[_,_]) (S' :=[_]) (fun _ m=>m)<|aW<|ag<|aj<|hy (fun _=>aa rfl)<|hy (fun _=>aM rfl rfl (bB (by omega) (by omega)))<|hy (fun _=>ab rfl)<|ai<|al (ρ' :=[(6,_),(62,_),(52,_),(7,_),(23,_),(15,_),(5,_),(4,_),(0,_),(1,_)]) ⟨rfl,rfl,rfl,rfl,rfl,rfl,rfl,rfl,rfl,rfl,trivial⟩<| ?_
       refine cS (q+1) ⟨rfl,rfl,rfl,rfl,rfl,rfl,trivial⟩ [0,0] rfl [0] rfl ((by omega)) (by omega)
      ·have hst:mv (ck l i q)=mv (ck l i (q+1)):=by
        rw[dJ]
        unfold gp
        rw[if_neg (fun h=>by omega)]
       refine aC<|aW<|ag<|aj<|hy (fun _=>aa rfl)<|hy (fun _=>aM rfl rfl (bB (by omega) (by omega)))<|hy (fun _=>ab rfl)<|ai<|al (ρ' :=[(6,_),(62,_),(52,_),(7,_),(23,_),(15,_),(5,_),(4,_),(0,_),(1,_)]) ⟨rfl,rfl,rfl,rfl,rfl,rfl,rfl,rfl,rfl,rfl,trivial⟩<| ?_
       refine ak (fun w m=>m.bQ 0 rfl (show _=aH g5 298 (mv (ck l i (q+1)))from congrArg (aH g5 _) hst)) ?_
       refine cS (q+1) ⟨rfl,rfl,rfl,rfl,rfl,rfl,trivial⟩ [0,0] rfl [0] rfl ((by omega)) (by omega)
     ·have hst:mv (ck l i q)=mv (ck l i (q+1)):=by
       rw[dJ]
       unfold gp
       rw[if_neg (fun h=>by omega)]
      refine a6 rfl rfl rfl (by decide)<|a6 rfl rfl rfl (by decide)<|a6 rfl rfl rfl (by decide)<|a6 rfl rfl rfl (by decide)<|hy (fun _=>a7 rfl rfl)<|ai<|al (ρ' :=[(62,_),(52,_),(7,_),(23,_),(6,_),(15,_),(5,_),(4,_),(0,_),(1,_)]) ⟨rfl,rfl,rfl,rfl,rfl,rfl,rfl,rfl,rfl,rfl,trivial⟩<|ag<| ?_
      refine dx rfl (rfl) ?_
      refine aC<|aW<|ag<|aj<|hy (fun _=>aa rfl)<|hy (fun _=>aM rfl rfl (bB (by omega) (by omega)))<|hy (fun _=>ab rfl)<|ai<|al (ρ' :=[(6,_),(62,_),(52,_),(7,_),(23,_),(15,_),(5,_),(4,_),(0,_),(1,_)]) ⟨rfl,rfl,rfl,rfl,rfl,rfl,rfl,rfl,rfl,rfl,trivial⟩<| ?_
      refine ak (fun w m=>m.bQ 0 rfl (show _=aH g5 298 (mv (ck l i (q+1)))from congrArg (aH g5 _) hst)) ?_
      refine cS (q+1) ⟨rfl,rfl,rfl,rfl,rfl,rfl,trivial⟩ [0,0] rfl [0] rfl ((by omega)) (by omega)
   ·have hq:q=min i 1024:=by omega
    subst hq
    refine bS<|ar<|ar<|aE<|ag<|ah<|aj<|hy (fun m=>aR rfl uk kP rfl ((m.aT 0 rfl).au))<| ?_
    refine cN (aG 1 rfl rfl rfl kP rfl mA rfl ?_)
    refine ai<|al (ρ' :=[(23,_),(6,_),(15,_),(5,_),(4,_),(0,_),(1,_)]) ⟨rfl,rfl,rfl,rfl,rfl,rfl,rfl,trivial⟩<|ak (X' :=[_,_]) (S' :=[_]) (fun _ m=>m)<|ag<|aQ<| ?_
    exact gw trivial rfl rfl uk kP rfl (fun m=>(m.aT 0 rfl).au) [] rfl [] rfl ⟨rfl,rfl,rfl⟩
  ·refine a6 rfl rfl rfl (by decide)<|a6 rfl rfl rfl (by decide)<|hy (fun _=>a7 rfl rfl)<|ai<|al (ρ' :=[(23,_),(6,_),(15,_),(5,_),(4,_),(0,_),(1,_)]) ⟨rfl,rfl,rfl,rfl,rfl,rfl,rfl,trivial⟩<|ag<| ?_
   refine dx rfl (rfl) ?_
   have hq:q=min i 1024:=by omega
   subst hq
   refine bS<|ar<|ar<|aE<|ag<|ah<|aj<|hy (fun m=>aR rfl uk kP rfl ((m.aT 0 rfl).au))<| ?_
   refine cN (aG 1 rfl rfl rfl kP rfl mA rfl ?_)
   refine ai<|al (ρ' :=[(23,_),(6,_),(15,_),(5,_),(4,_),(0,_),(1,_)]) ⟨rfl,rfl,rfl,rfl,rfl,rfl,rfl,trivial⟩<|ak (X' :=[_,_]) (S' :=[_]) (fun _ m=>m)<|ag<|aQ<| ?_
   exact gw trivial rfl rfl uk kP rfl (fun m=>(m.aT 0 rfl).au) [] rfl [] rfl ⟨rfl,rfl,rfl⟩
theorem Bd{A:Option Addr}{n c:Nat}{l:List UInt8}(hc:n≤c)(hn:n≤500000000)(hl:l.length=n):cj Tryz.prog 219 [.slice A n c] [] [dw 1 A n (aK l)] (fun v_ X_ S_=>∃v,v_=v∧X_=[aF 5 1 v (eV l).length (aK (eV l))]∧S_=[]):=by
 refine aU (N:=31) Tryz.func219 rfl rfl (by simp) fun b=> ?_
 refine ba (fun m=>fG (m.rd 0 rfl)) ?_
 rintro⟨hl_r,hA_r⟩
 refine ah<|aj<|hy (fun _=>ab rfl)<|ai<|ag<|ah<|aj<|hy (fun _=>ab rfl)<|ai<|ag<|ah<|ah<|aj<|hy (fun _=>ab rfl)<|ai<|ag<|aN<| ?_
 refine bD (fun w m=>m.cL (r' :=aF 5 1 (.slice none 0 0) 0 []) (.refl _ _) (Own.nil _ _ _ _) (fun k hk=>hk.elim)) ?_
 refine lf (fun i o A3 c3=>n-i) (fun i o A3 c3=>[(3,.slice A3 o.length c3),(4,.int .i64 (i:Nat))]) (fun i o A3 c3=>[aF 5 1 (.slice A3 o.length c3) o.length (aK o)]) (fun i o A3 c3=>[]) (fun i o A3 c3=>i≤n+128∧o.length≤2*i∧o++eV (l.drop i)=eV l) 0 [] none 0 [(2,_),(0,_)] ⟨rfl,rfl,trivial⟩ [0] rfl [] rfl (⟨by omega,by decide,rfl⟩) ⟨rfl,rfl,trivial⟩ (fun i o A3 c3 ⟨hin,hon,hE⟩=> ?_)
 refine ah<|ah<|aj<|hy (fun _=>aa rfl)<|hy (fun _=>aa rfl)<|hy (fun _=>aX rfl Tryz.underlying27)<|hy (fun _=>bk rfl rfl)<|ai<|al (ρ' :=[(9,_),(3,_),(4,_),(2,_),(0,_)]) ⟨rfl,rfl,rfl,rfl,rfl,trivial⟩<|ag<| ?_
 refine cI rfl (fun hi=> ?_) (fun hi=> ?_)
 ·obtain⟨k,hk⟩:∃k,k=min (n-i) 128:=⟨_,rfl⟩
  have hki:1≤k∧k≤128∧i+k≤n:=by omega
  have hdl:(l.drop i).length=n-i:=by rw[List.length_drop,hl]
  have hne:l.drop i≠ []:=fun e=>by rw[e]at hdl;simp at hdl;omega
  have htk:(l.drop i).take 128=(l.drop i).take k:=by
   rcases Nat.lt_or_ge (n-i) 128 with h|h
   ·rw[List.take_of_length_le (by omega),List.take_of_length_le (by omega)]
   ·rw[show k=128 by omega]
  rw[mn hne,hdl,←hk,htk,List.drop_drop]at hE
  refine bD (fun w m=>m.lq 0 rfl (View.sub (n:=n) (c:=c) (k:=i) (m:=k) (by omega) (by omega))) ?_
  refine ba (fun m=>fG (m.rd 0 rfl)) ?_
  rintro⟨hl_p,hA_p⟩
  refine aC<|ag<|ah<|aN<|ah<|aj<|hy (fun _=>aa rfl)<|hy (fun _=>aa rfl)<|hy (fun _=>aa rfl)<|hy (fun _=>aM rfl rfl (bB (by omega) (by omega)))<|hy (fun _=>aa rfl)<|hy (fun _=>aX rfl Tryz.underlying27)<|hy (fun _=>yV (sF rfl rfl) ((show Value.int .i64 _= .int .i64 ((i+k:Nat):Int) by congr 1;omega)))<|hy (fun _=>yV (en rfl rfl rfl Tryz.underlying27 dE rfl rfl (by omega) (by omega)) ((show Value.slice (if c=i then A else A.map (·.add (i*1))) (i+k-i) (c-i)= .slice (if c=i then A else A.map (·.add (i*1))) k (c-i) by congr 1;omega)))<|hy (fun _=>ab rfl)<|ai<|al (ρ' :=[(5,_),(9,_),(3,_),(4,_),(2,_),(0,_)]) ⟨rfl,rfl,rfl,rfl,rfl,rfl,trivial⟩<|ag<|ah<|aj<|hy (fun _=>aa rfl)<|hy (fun _=>aa rfl)<|hy (fun _=>aX rfl Tryz.underlying27)<|hy (fun _=>yV (b6 rfl rfl (bB (by omega) (by omega))) ((show Value.int .i64 ((k:Int)-1)= .int .i64 ((k-1:Nat):Int) by congr 1;omega)))<|hy (fun _=>yV (bJ rfl Tryz.underlying3 Tryz.underlying5 (fl _)) ((show Value.int .u8 _=B8 (UInt8.ofNat (k-1))from rfl)))<| ?_
  refine hx (cg Tryz.underlying27 ey rfl rfl rfl (by simp[Value.cells,B8]) (by decide) (by decide) (fun g25=> ?_))
  have hA_b25:0<1→(some (⟨g25,0,none⟩:Addr))≠none:=fun _ h=>by cases h
  refine aV (fun w m=>m.bQ 0 rfl (show _=aF 5 1 (.slice (some ⟨g25,0,none⟩) 1 1) 1 (aK [UInt8.ofNat (k-1)])from rfl)) ?_
  refine hx (bu 1 rfl rfl rfl Tryz.underlying27 Tryz.underlying27 (by exact .inl rfl) ey rfl (fun m=>Src.bN (m.ord 0 rfl)) aS (by unfold maxLen;omega) (by omega) (fun u=> ?_))
  refine aw (fun m=>(m.own 0 rfl).slice) ?_
  rintro⟨A_x,c_x,rfl,hc_x⟩
  refine aw (fun m=>(m.ord 0 rfl).2.1) fun hA_x=> ?_
  refine hy (fun _=>ab rfl)<|ai<|al (ρ' :=[(3,_),(5,_),(9,_),(4,_),(2,_),(0,_)]) ⟨rfl,rfl,rfl,rfl,rfl,rfl,trivial⟩<|ak (X' :=[_,_]) (S' :=[_,_]) (fun _ m=>m)<|ag<|aj<|hy (fun _=>aa rfl)<|hy (fun _=>aa rfl)<| ?_
  refine hx (bu 0 rfl rfl rfl Tryz.underlying27 Tryz.underlying27 (by exact .inl rfl) ey rfl (fun m=>Src.bN (m.rd 0 rfl)) aS (by unfold maxLen;omega) (by omega) (fun u2=> ?_))
  refine aw (fun m=>(m.own 0 rfl).slice) ?_
  rintro⟨A_x2,c_x2,rfl,hc_x⟩
  refine aw (fun m=>(m.ord 0 rfl).2.1) fun hA_x=> ?_
  refine hy (fun _=>ab rfl)<|ai<|al (ρ' :=[(3,_),(5,_),(9,_),(4,_),(2,_),(0,_)]) ⟨rfl,rfl,rfl,rfl,rfl,rfl,trivial⟩<|ak (X' :=[_,_]) (S' :=[_,_]) (fun _ m=>m)<|aW<|ag<|aj<|hy (fun _=>aa rfl)<|hy (fun _=>aM rfl rfl (bB (by omega) (by omega)))<|hy (fun _=>ab rfl)<|ai<|al (ρ' :=[(4,_),(3,_),(5,_),(9,_),(2,_),(0,_)]) ⟨rfl,rfl,rfl,rfl,rfl,rfl,trivial⟩<| ?_
  have hol:o.length+1+k=(o++(UInt8.ofNat (k-1)::(l.drop i).take k)).length:=by simp;omega
  rw[hol]
  refine ak (fun w m=>m.bQ 0 rfl (show _=aF 5 1 (.slice A_x2 (o++(UInt8.ofNat (k-1)::(l.drop i).take k)).length c_x2) (o++(UInt8.ofNat (k-1)::(l.drop i).take k)).length (aK (o++(UInt8.ofNat (k-1)::(l.drop i).take k)))from congrArg (aF _ _ _ _) (show aK o++aK [UInt8.ofNat (k-1)]++aK ((l.drop i).take k)=_ by rw[←bm,←bm,List.append_assoc];rfl))) ?_
  refine fA (i+128) (o++(UInt8.ofNat (k-1)::(l.drop i).take k)) _ _ ⟨rfl,rfl,rfl,rfl,trivial⟩ [0] rfl [1] rfl (⟨by omega,by rw[←hol];omega,by rw[←hE];simp⟩) (by omega)
 ·rw[List.drop_of_length_le (by omega),oF,List.append_nil]at hE
  subst hE
  refine bS<|ar<|ar<|aE<|ag<|ah<|aj<|hy (fun _=>aa rfl)<|hy (fun _=>ab rfl)<|ai<|al (ρ' :=[(2,_),(9,_),(3,_),(4,_),(0,_)]) ⟨rfl,rfl,rfl,rfl,rfl,trivial⟩<|ag<|aQ<| ?_
  exact bd trivial rfl rfl [0] rfl [] rfl ⟨_,rfl,rfl,rfl⟩
theorem CO{A:Option Addr}{n c:Nat}{l:List UInt8}(hc:n≤c)(hn:n≤500000000)(hl:l.length=n):cj Tryz.prog 159 [.slice A n c] [] [dw 1 A n (aK l)] (fun v_ X_ S_=>∃v,v_=v∧X_=[aF 5 1 v (eD l).length (aK (eD l))]∧S_=[]):=by
 refine aU (N:=54) Tryz.func159 rfl rfl (by simp) fun b=> ?_
 refine ba (fun m=>fG (m.rd 0 rfl)) ?_
 rintro⟨hl_r,hA_r⟩
 refine ah<|aj<|hy (fun _=>ab rfl)<|ai<|ag<|ah<|aj<|hy (fun _=>ab rfl)<|ai<|ag<|ah<|aj<|hy (fun _=>ab rfl)<|ai<|ag<|ah<|aj<|hy (fun _=>ab rfl)<|ai<|ag<|ah<|aN<| ?_
 refine bD (fun w m=>m.cL (r' :=aF 5 1 (.slice none 0 0) 0 []) (.refl _ _) (Own.nil _ _ _ _) (fun k hk=>hk.elim)) ?_
 refine qM (fun i f o A3 c3=>n-i) (fun i f o A3 c3=>[(3,.slice A3 o.length c3),(4,.int .i64 (f:Nat)),(5,.int .i64 (i:Nat))]) (fun i f o A3 c3=>[aF 5 1 (.slice A3 o.length c3) o.length (aK o)]) (fun i f o A3 c3=>[]) (fun i f o A3 c3=>i≤n∧f≤i∧o.length+2*(i-f)≤2*i∧gF l i ((l.drop f).take (i-f)) o=eD l) 0 0 [] none 0 [(2,_),(0,_)] ⟨rfl,rfl,trivial⟩ [0] rfl [] rfl (⟨by omega,by decide,by decide,rfl⟩) ⟨rfl,rfl,rfl,trivial⟩ (fun i f o A3 c3 ⟨hin,hfi,hon,hE⟩=> ?_)
 have hown:((l.drop f).take (i-f)).length=i-f:=by rw[List.length_take,List.length_drop];omega
 refine ah<|ah<|aj<|hy (fun _=>aa rfl)<|hy (fun _=>aa rfl)<|hy (fun _=>aX rfl Tryz.underlying27)<|hy (fun _=>bk rfl rfl)<|ai<|al (ρ' :=[(10,_),(3,_),(4,_),(5,_),(2,_),(0,_)]) ⟨rfl,rfl,rfl,rfl,rfl,rfl,trivial⟩<|ag<| ?_
 refine cI rfl (fun hi=> ?_) (fun hi=> ?_)
 ·refine aC<|ag<|aN<|ah<|aj<|hy (fun _=>aa rfl)<|hy (fun _=>aa rfl)<| ?_
  refine hx (aq rfl Tryz.call218 (Am (by omega) hl (by omega)) [] rfl [0] rfl ?_)
  rintro _ _ _ ⟨rfl,rfl,rfl⟩
  refine hx (aJ p8 (fun g6=> ?_))
  refine cN (aG 0 rfl rfl rfl kP rfl mA rfl ?_)
  refine ai<|al (ρ' :=[(6,_),(10,_),(3,_),(4,_),(5,_),(2,_),(0,_)]) ⟨rfl,rfl,rfl,rfl,rfl,rfl,rfl,trivial⟩<|ak (X' :=[_,_]) (S' :=[_]) (fun _ m=>m)<|ag<|ah<|ah<|aj<|hy (fun _=>aI rfl kg (by decide))<|hy (fun m=>av rfl dV (aB (m.aT 0 rfl) rfl))<|hy (fun _=>cy rfl rfl)<|ai<|al (ρ' :=[(16,_),(6,_),(10,_),(3,_),(4,_),(5,_),(2,_),(0,_)]) ⟨rfl,rfl,rfl,rfl,rfl,rfl,rfl,rfl,trivial⟩<|ag<| ?_
  refine cI rfl (fun h0=> ?_) (fun h0=> ?_)
  ·rw[mH (by omega) (by omega)]at hE
   have hsn:(l.drop f).take (i-f)++[l.getD i 0]=(l.drop f).take (i+1-f):=by
    rw[show i+1-f=(i-f)+1 by omega,ep (by rw[List.length_drop];omega)]
    congr 2
    simp only[List.getD,List.getElem?_drop]
    rw[show f+(i-f)=i by omega]
   rw[hsn]at hE
   refine ah<|aj<|hy (fun _=>aa rfl)<|hy (fun _=>aM rfl rfl (bB (by omega) (by omega)))<|hy (fun _=>ab rfl)<|ai<|al (ρ' :=[(5,_),(16,_),(6,_),(10,_),(3,_),(4,_),(2,_),(0,_)]) ⟨rfl,rfl,rfl,rfl,rfl,rfl,rfl,rfl,trivial⟩<|ag<|bS<|ar<|aE<| ?_
   refine mg (i+1) f o A3 c3 ⟨rfl,rfl,rfl,rfl,rfl,trivial⟩ [1] rfl [0] rfl (⟨by omega,by omega,by omega,hE⟩) (by omega)
  ·have hm:=mh (b:=l) (i:=i) (by omega)
   rw[jY (by omega) (by omega)]at hE
   obtain⟨m1,m2,m3,m4,m5,m6⟩:=hm.resolve_left (fun e=>h0 (by rw[e];rfl))
   have hll:=fo ((l.drop f).take (i-f))
   refine bD (fun w m=>m.lq 0 rfl (View.sub (n:=n) (c:=c) (k:=f) (m:=i-f) (by omega) (by omega))) ?_
   refine ba (fun m=>fG (m.rd 0 rfl)) ?_
   rintro⟨hl_p,hA_p⟩
   refine aC<|ag<|ah<|aj<|hy (fun _=>aa rfl)<|hy (fun _=>aa rfl)<|hy (fun _=>aa rfl)<|hy (fun _=>aa rfl)<|hy (fun _=>en rfl rfl rfl Tryz.underlying27 dE rfl rfl (by omega) (by omega))<| ?_
   refine hx (aq rfl Tryz.call219 (Bd (by omega) (by omega) hown) [] rfl [0] rfl ?_)
   rintro _ _ _ ⟨v,rfl,rfl,rfl⟩
   refine aw (fun m=>(m.own 0 rfl).slice) ?_
   rintro⟨A_x2,c_x2,rfl,hc_x2⟩
   refine aw (fun m=>(m.ord 0 rfl).2.1) fun hA_x2=> ?_
   refine hx (bu 2 rfl rfl rfl Tryz.underlying27 Tryz.underlying27 (by exact .inl rfl) ey rfl (fun m=>Src.bN (m.ord 0 rfl)) aS (by unfold maxLen;omega) (by omega) (fun u=> ?_))
   refine aw (fun m=>(m.own 0 rfl).slice) ?_
   rintro⟨A_x,c_x,rfl,hc_x⟩
   refine aw (fun m=>(m.ord 0 rfl).2.1) fun hA_x=> ?_
   generalize hLL:eV ((l.drop f).take (i-f))=L at hE hll ⊢
   refine hy (fun _=>ab rfl)<|ai<|al (ρ' :=[(3,_),(16,_),(6,_),(10,_),(4,_),(5,_),(2,_),(0,_)]) ⟨rfl,rfl,rfl,rfl,rfl,rfl,rfl,rfl,trivial⟩<|ak (X' :=[_,_,_]) (S' :=[_,_]) (fun _ m=>m)<|ag<|ah<|aj<|hy (fun _=>aa rfl)<|hy (fun _=>aI rfl kg (by decide))<|hy (fun m=>av rfl dV (aB (m.aT 2 rfl) rfl))<|hy (fun _=>yV (aM rfl rfl (bB (by omega) (by omega))) ((show Value.int .i64 (124+((a8 l i).1:Int))= .int .i64 ((124+(a8 l i).1:Nat):Int) by congr 1)))<|hy (fun _=>yV (bJ rfl Tryz.underlying3 Tryz.underlying5 (fl _)) ((show Value.int .u8 _=B8 (UInt8.ofNat (124+(a8 l i).1))from rfl)))<|hy (fun _=>aI rfl vf (by decide))<|hy (fun m=>av rfl dV (aB (m.aT 2 rfl) rfl))<|hy (fun _=>yV (b6 rfl rfl (bB (by omega) (by omega))) ((show Value.int .i64 (((a8 l i).2:Int)-1)= .int .i64 (((a8 l i).2-1:Nat):Int) by congr 1;omega)))<|hy (fun _=>yV (gr rfl rfl (by omega) (by omega)) ((show Value.int .i64 ((((a8 l i).2-1:Nat):Int) % 256)= .int .i64 ((((a8 l i).2-1) % 256:Nat):Int) by congr 1)))<|hy (fun _=>yV (bJ rfl Tryz.underlying3 Tryz.underlying5 (fl _)) ((show Value.int .u8 _=B8 (UInt8.ofNat (((a8 l i).2-1) % 256))from rfl)))<|hy (fun _=>aI rfl vf (by decide))<|hy (fun m=>av rfl dV (aB (m.aT 2 rfl) rfl))<|hy (fun _=>yV (b6 rfl rfl (bB (by omega) (by omega))) ((show Value.int .i64 (((a8 l i).2:Int)-1)= .int .i64 (((a8 l i).2-1:Nat):Int) by congr 1;omega)))<|hy (fun _=>yV (jF rfl rfl (by omega) (by omega) (bB (by omega) (by omega))) ((show Value.int .i64 ((((a8 l i).2-1:Nat):Int)/256)= .int .i64 ((((a8 l i).2-1)/256:Nat):Int) by congr 1)))<|hy (fun _=>yV (bJ rfl Tryz.underlying3 Tryz.underlying5 (fl _)) ((show Value.int .u8 _=B8 (UInt8.ofNat (((a8 l i).2-1)/256))from rfl)))<| ?_
   refine hx (cg Tryz.underlying27 ey rfl rfl rfl (by simp[Value.cells,B8]) (by decide) (by decide) (fun g41=> ?_))
   have hA_b41:0<3→(some (⟨g41,0,none⟩:Addr))≠none:=fun _ h=>by cases h
   have htm:[UInt8.ofNat (124+(a8 l i).1),UInt8.ofNat (((a8 l i).2-1) % 256),UInt8.ofNat (((a8 l i).2-1)/256)]=hZ (a8 l i):=by
    unfold hZ
    congr 2
    exact UInt8.toNat_inj.1 (by rw[UInt8.toNat_ofNat',UInt8.toNat_ofNat'];omega)
   refine aV (fun w m=>m.bQ 0 rfl (show _=aF 5 1 (.slice (some ⟨g41,0,none⟩) 3 3) 3 (aK (hZ (a8 l i)))from congrArg (aF _ _ _ _) (show aK [UInt8.ofNat (124+(a8 l i).1),UInt8.ofNat (((a8 l i).2-1) % 256),UInt8.ofNat (((a8 l i).2-1)/256)]=_ by rw[htm]))) ?_
   refine hx (bu 1 rfl rfl rfl Tryz.underlying27 Tryz.underlying27 (by exact .inl rfl) ey rfl (fun m=>Src.bN (m.ord 0 rfl)) aS (by unfold maxLen;omega) (by omega) (fun u2=> ?_))
   refine aw (fun m=>(m.own 0 rfl).slice) ?_
   rintro⟨A_x3,c_x3,rfl,hc_x⟩
   refine aw (fun m=>(m.ord 0 rfl).2.1) fun hA_x=> ?_
   refine hy (fun _=>ab rfl)<|ai<|al (ρ' :=[(3,_),(16,_),(6,_),(10,_),(4,_),(5,_),(2,_),(0,_)]) ⟨rfl,rfl,rfl,rfl,rfl,rfl,rfl,rfl,trivial⟩<|ak (X' :=[_,_,_,_]) (S' :=[_,_]) (fun _ m=>m)<|ag<|ah<|aj<|hy (fun _=>aa rfl)<|hy (fun _=>aI rfl kg (by decide))<|hy (fun m=>av rfl dV (aB (m.aT 3 rfl) rfl))<|hy (fun _=>yV (aM rfl rfl (bB (by omega) (by omega))) ((show Value.int .i64 ((i:Int)+((a8 l i).1:Int))= .int .i64 ((i+(a8 l i).1:Nat):Int) by congr 1)))<|hy (fun _=>ab rfl)<|ai<|al (ρ' :=[(5,_),(3,_),(16,_),(6,_),(10,_),(4,_),(2,_),(0,_)]) ⟨rfl,rfl,rfl,rfl,rfl,rfl,rfl,rfl,trivial⟩<|ag<|aj<|hy (fun _=>aa rfl)<|hy (fun _=>ab rfl)<|ai<|al (ρ' :=[(4,_),(5,_),(3,_),(16,_),(6,_),(10,_),(2,_),(0,_)]) ⟨rfl,rfl,rfl,rfl,rfl,rfl,rfl,rfl,trivial⟩<|aW<| ?_
   have hol:o.length+L.length+3=(o++L++hZ (a8 l i)).length:=by simp[hZ];omega
   rw[hol]
   refine ak (fun w m=>m.bQ 0 rfl (show _=aF 5 1 (.slice A_x3 (o++L++hZ (a8 l i)).length c_x3) (o++L++hZ (a8 l i)).length (aK (o++L++hZ (a8 l i)))from congrArg (aF _ _ _ _) (show aK o++aK L++aK (hZ (a8 l i))=aK (o++L++hZ (a8 l i)) by rw[bm,bm]))) ?_
   have hE2:gF l (i+(a8 l i).1) ((l.drop (i+(a8 l i).1)).take (i+(a8 l i).1-(i+(a8 l i).1))) (o++L++hZ (a8 l i))=eD l:=by rw[Nat.sub_self,List.take_zero];exact hE
   refine mg (i+(a8 l i).1) (i+(a8 l i).1) (o++L++hZ (a8 l i)) _ _ ⟨rfl,rfl,rfl,rfl,rfl,trivial⟩ [0] rfl [1] rfl (⟨by omega,Nat.le_refl _,by rw[←hol];omega,hE2⟩) (by omega)
 ·obtain rfl:i=n:=by omega
  rw[me (by omega),List.take_of_length_le (by rw[List.length_drop];omega)]at hE
  have hdl:(l.drop f).length=i-f:=by rw[List.length_drop];omega
  have hll:=fo (l.drop f)
  refine bD (fun w m=>m.lq 0 rfl (View.drop (n:=i) (c:=c) (k:=f) (by omega) (by omega))) ?_
  refine ba (fun m=>fG (m.rd 0 rfl)) ?_
  rintro⟨hl_p,hA_p⟩
  refine bS<|ar<|ar<|aE<|ag<|ah<|aj<|hy (fun _=>aa rfl)<|hy (fun _=>aa rfl)<|hy (fun _=>aa rfl)<|hy (fun _=>dm rfl rfl Tryz.underlying27 dE rfl (by omega))<| ?_
  refine hx (aq rfl Tryz.call219 (Bd (by omega) (by omega) hdl) [] rfl [0] rfl ?_)
  rintro _ _ _ ⟨v,rfl,rfl,rfl⟩
  refine aw (fun m=>(m.own 0 rfl).slice) ?_
  rintro⟨A_x2,c_x2,rfl,hc_x2⟩
  refine aw (fun m=>(m.ord 0 rfl).2.1) fun hA_x2=> ?_
  refine hx (bu 1 rfl rfl rfl Tryz.underlying27 Tryz.underlying27 (by exact .inl rfl) ey rfl (fun m=>Src.bN (m.ord 0 rfl)) aS (by unfold maxLen;omega) (by omega) (fun u=> ?_))
  refine aw (fun m=>(m.own 0 rfl).slice) ?_
  rintro⟨A_x,c_x,rfl,hc_x⟩
  refine aw (fun m=>(m.ord 0 rfl).2.1) fun hA_x=> ?_
  have hol:o.length+(eV (l.drop f)).length=(eD l).length:=by rw[←hE];simp
  rw[hol]
  refine aV (fun w m=>m.bQ 0 rfl (show _=aF 5 1 (.slice A_x (eD l).length c_x) (eD l).length (aK (eD l))from congrArg (aF _ _ _ _) (show aK o++aK (eV (l.drop f))=aK (eD l) by rw[←hE,bm]))) ?_
  refine hy (fun _=>ab rfl)<|ai<|al (ρ' :=[(2,_),(10,_),(3,_),(4,_),(5,_),(0,_)]) ⟨rfl,rfl,rfl,rfl,rfl,rfl,trivial⟩<|ak (X' :=[_,_]) (S' :=[_,_]) (fun _ m=>m)<|ag<|aQ<| ?_
  exact bd trivial rfl rfl [0] rfl [] rfl ⟨_,rfl,rfl,rfl⟩
end Go.Proofs.YtmibdabdlgmafaaGreatDoor
end
section
set_option maxRecDepth 20000
set_option maxHeartbeats 2000000
namespace Go.Proofs.YtmibdabdlgmafaaGreatDoor
open Go.Eng Go.Hx
theorem u6{A:Option Addr}{n c:Nat}{l:List UInt8}(hc:n≤c)(hn:n≤1000000000)(hl:l.length=n):cj Tryz.prog 161 [.slice A n c] [] [dw 1 A n (aK l)] (fun v_ X_ S_=>∃v,v_=v∧X_=[aF 5 1 v 4 (aK (gx (db l)))]∧S_=[]):=by
 have e4:n+4-n=4:=by omega
 have ed:(aK (gy l)).drop (n*1)=aK (gx (db l)):=by rw[Nat.mul_one,←oo,gy,List.drop_append_of_le_length (by omega),List.drop_of_length_le (by omega)];rfl
 refine aU (N:=8) Tryz.func161 rfl rfl (by simp) fun b=> ?_
 refine ba (fun m=>fG (m.rd 0 rfl)) ?_
 rintro⟨hl_r,hA_r⟩
 refine ah<|aj<|hy (fun _=>ab rfl)<|ai<|ag<|ah<|aj<|hy (fun _=>aa rfl)<| ?_
 refine hx (aq rfl Tryz.call189 (rB (by omega)) [] rfl [0] rfl ?_)
 rintro _ _ _ ⟨v,rfl,rfl,rfl⟩
 refine aw (fun m=>(m.own 0 rfl).slice) ?_
 rintro⟨A_x,c_x,rfl,hc_x⟩
 refine aw (fun m=>(m.ord 0 rfl).2.1) fun hA_x=> ?_
 refine hy (fun _=>aa rfl)<|hy (fun _=>aX rfl Tryz.underlying27)<|hy (fun _=>yV (dm rfl rfl Tryz.underlying27 dE rfl (by omega)) ((show Value.slice (if c_x=n then A_x else A_x.map (·.add (n*1))) (n+4-n) (c_x-n)= .slice (if c_x=n then A_x else A_x.map (·.add (n*1))) 4 (c_x-n) by congr 1)))<|hy (fun _=>ab rfl)<|ai<|al (ρ' :=[(2,_),(0,_)]) ⟨rfl,rfl,trivial⟩<|ak (X' :=[_]) (S' :=[_]) (fun _ m=>m)<|ag<|aQ<| ?_
 refine ak (X' :=aF 5 1 (.slice (if c_x=n then A_x else A_x.map (·.add (n*1))) (n+4-n) (c_x-n)) (n+4-n) ((aK (gy l)).drop (n*1))::_) (fun w m=>(m.perm (az [0] _ [_] _ rfl)).xl (View.qW (by omega) hc_x)) ?_
 rw[e4,ed]
 exact bd trivial rfl rfl [0] rfl [] rfl ⟨_,rfl,rfl,rfl⟩
theorem CD{A:Option Addr}{n c:Nat}{l:List UInt8}(hc:n≤c)(hn:n≤100000000)(hl:l.length=n):cj Tryz.prog 81 [.slice A n c] [] [dw 1 A n (aK l)] (fun v_ X_ S_=>∃v,v_=v∧X_=[aF 5 1 v (b4 l).length (aK (b4 l))]∧S_=[]):=by
 have hpl:=lH l
 have hcl:=gT l
 refine aU (N:=30) Tryz.func81 rfl rfl (by simp) fun b=> ?_
 refine ba (fun m=>fG (m.rd 0 rfl)) ?_
 rintro⟨hl_r,hA_r⟩
 refine ah<|aj<|hy (fun _=>ab rfl)<|ai<|ag<|ah<|aj<|hy (fun _=>aa rfl)<| ?_
 refine hx (aq rfl Tryz.call159 (CO (by omega) (by omega) (by omega)) [] rfl [0] rfl ?_)
 rintro _ _ _ ⟨v,rfl,rfl,rfl⟩
 refine aw (fun m=>(m.own 0 rfl).slice) ?_
 rintro⟨A_x,c_x,rfl,hc_x⟩
 refine aw (fun m=>(m.ord 0 rfl).2.1) fun hA_x=> ?_
 refine hy (fun _=>ab rfl)<|ai<|al (ρ' :=[(3,_),(2,_),(0,_)]) ⟨rfl,rfl,rfl,trivial⟩<|ak (X' :=[_]) (S' :=[_]) (fun _ m=>m)<|ag<|ah<|aj<| ?_
 refine hx (cg Tryz.underlying27 ey rfl rfl rfl (by simp[Value.cells,B8]) (by decide) (by decide) (fun g7=> ?_))
 have hA_b7:0<2→(some (⟨g7,0,none⟩:Addr))≠none:=fun _ h=>by cases h
 refine hy (fun _=>ab rfl)<|ai<|al (ρ' :=[(4,_),(3,_),(2,_),(0,_)]) ⟨rfl,rfl,rfl,rfl,trivial⟩<|ak (X' :=[_,_]) (S' :=[_]) (fun _ m=>m)<|ag<|ah<|aj<|hy (fun _=>aa rfl)<|hy (fun _=>aa rfl)<|hy (fun _=>aX rfl Tryz.underlying27)<| ?_
 refine hx (aq rfl Tryz.call160 (vd (by omega)) [] rfl [] rfl ?_)
 rintro _ _ _ ⟨v2,rfl,rfl,rfl⟩
 refine aw (fun m=>(m.own 0 rfl).slice) ?_
 rintro⟨A_x2,c_x2,rfl,hc_x2⟩
 refine aw (fun m=>(m.ord 0 rfl).2.1) fun hA_x2=> ?_
 refine aV (fun w m=>m.bQ 1 rfl (show _=aF 5 1 (.slice (some ⟨g7,0,none⟩) 2 2) 2 (aK [76,0])from rfl)) ?_
 refine hx (bu 0 rfl rfl rfl Tryz.underlying27 Tryz.underlying27 (by exact .inl rfl) ey rfl (fun m=>Src.bN (m.ord 1 rfl)) aS (by unfold maxLen;omega) (by omega) (fun u=> ?_))
 refine aw (fun m=>(m.own 0 rfl).slice) ?_
 rintro⟨A_b7,c_b7,rfl,hc_b7⟩
 refine aw (fun m=>(m.ord 0 rfl).2.1) fun hA_b7=> ?_
 refine hy (fun _=>ab rfl)<|ai<|al (ρ' :=[(4,_),(3,_),(2,_),(0,_)]) ⟨rfl,rfl,rfl,rfl,trivial⟩<|ak (X' :=[_,_,_]) (S' :=[_]) (fun _ m=>m)<|ag<|ah<|ah<|aj<|hy (fun _=>aa rfl)<|hy (fun _=>aX rfl Tryz.underlying27)<|hy (fun _=>aa rfl)<|hy (fun _=>aX rfl Tryz.underlying27)<|hy (fun _=>bk rfl rfl)<|ai<|al (ρ' :=[(17,_),(4,_),(3,_),(2,_),(0,_)]) ⟨rfl,rfl,rfl,rfl,rfl,trivial⟩<|ag<| ?_
 refine cI rfl (fun hp=> ?_) (fun hp=> ?_)
 ·have hq:b4 l=[76,1]++gx l.length++eD l++gx (db l):=by
   have:ya l=true:=by unfold ya;exact decide_eq_true (by omega)
   unfold b4 nh
   rw[this];rfl
  refine ah<|aj<|hy (fun _=>aa rfl)<|hy (fun _=>aL rfl rfl Tryz.underlying27 dE hA_b7 (show((1:Nat):Int)=1 from rfl) (by omega))<| ?_
  refine cN (yR 0 rfl rfl rfl dE rfl (by omega) ?_)
  refine ai<|al (ρ' :=[(17,_),(4,_),(3,_),(2,_),(0,_)]) ⟨rfl,rfl,rfl,rfl,rfl,trivial⟩<|ak (X' :=[_,_,_]) (S' :=[_]) (fun _ m=>m)<|ag<|aj<|hy (fun _=>aa rfl)<|hy (fun _=>aa rfl)<| ?_
  refine aV (fun w m=>m.bQ 0 rfl (show _=aF 5 1 (.slice A_b7 (2+4) c_b7) (2+4) (aK ([76,1]++gx n))from rfl)) ?_
  refine hx (bu 0 rfl rfl rfl Tryz.underlying27 Tryz.underlying27 (by exact .inl rfl) ey rfl (fun m=>Src.bN (m.ord 2 rfl)) aS (by unfold maxLen;omega) (by omega) (fun u2=> ?_))
  refine aw (fun m=>(m.own 0 rfl).slice) ?_
  rintro⟨A_b72,c_b72,rfl,hc_b7⟩
  refine aw (fun m=>(m.ord 0 rfl).2.1) fun hA_b7=> ?_
  refine hy (fun _=>ab rfl)<|ai<|al (ρ' :=[(4,_),(17,_),(3,_),(2,_),(0,_)]) ⟨rfl,rfl,rfl,rfl,rfl,trivial⟩<|ak (X' :=[_,_,_]) (S' :=[_]) (fun _ m=>m)<|ag<|ah<|aj<|hy (fun _=>aa rfl)<|hy (fun _=>aa rfl)<| ?_
  refine hx (aq rfl Tryz.call161 (u6 (by omega) (by omega) (by omega)) [] rfl [0] rfl ?_)
  rintro _ _ _ ⟨v3,rfl,rfl,rfl⟩
  refine aw (fun m=>(m.own 0 rfl).slice) ?_
  rintro⟨A_x3,c_x3,rfl,hc_x3⟩
  refine aw (fun m=>(m.ord 0 rfl).2.1) fun hA_x3=> ?_
  refine hx (bu 1 rfl rfl rfl Tryz.underlying27 Tryz.underlying27 (by exact .inl rfl) ey rfl (fun m=>Src.bN (m.ord 0 rfl)) aS (by unfold maxLen;omega) (by omega) (fun u3=> ?_))
  refine aw (fun m=>(m.own 0 rfl).slice) ?_
  rintro⟨A_b73,c_b73,rfl,hc_b7⟩
  refine aw (fun m=>(m.ord 0 rfl).2.1) fun hA_b7=> ?_
  refine hy (fun _=>ab rfl)<|ai<|al (ρ' :=[(2,_),(4,_),(17,_),(3,_),(0,_)]) ⟨rfl,rfl,rfl,rfl,rfl,trivial⟩<|ak (X' :=[_,_,_,_]) (S' :=[_]) (fun _ m=>m)<|ag<|aQ<| ?_
  have hol:2+4+(eD l).length+4=(b4 l).length:=by rw[hq];simp[dN,hl];try omega
  rw[hol]
  have hsl:aK ([76,1]++gx n)++aK (eD l)++aK (gx (db l))=aK (b4 l):=by rw[hq,hl,bm ([76,1]++gx n++(eD l)),bm ([76,1]++gx n)]
  rw[hsl]
  exact bd trivial rfl rfl [0] rfl [] rfl ⟨_,rfl,rfl,rfl⟩
 ·have hq:b4 l=[76,0]++gx l.length++l++gx (db l):=by
   have:ya l=false:=by unfold ya;exact decide_eq_false (by omega)
   unfold b4 nh
   rw[this];rfl
  refine aj<|hy (fun _=>aa rfl)<|hy (fun _=>aa rfl)<| ?_
  refine aV (fun w m=>m.bQ 0 rfl (show _=aF 5 1 (.slice A_b7 (2+4) c_b7) (2+4) (aK ([76,0]++gx n))from rfl)) ?_
  refine hx (bu 0 rfl rfl rfl Tryz.underlying27 Tryz.underlying27 (by exact .inl rfl) ey rfl (fun m=>Src.bN (m.rd 0 rfl)) aS (by unfold maxLen;omega) (by omega) (fun u2=> ?_))
  refine aw (fun m=>(m.own 0 rfl).slice) ?_
  rintro⟨A_b72,c_b72,rfl,hc_b7⟩
  refine aw (fun m=>(m.ord 0 rfl).2.1) fun hA_b7=> ?_
  refine hy (fun _=>ab rfl)<|ai<|al (ρ' :=[(4,_),(17,_),(3,_),(2,_),(0,_)]) ⟨rfl,rfl,rfl,rfl,rfl,trivial⟩<|ak (X' :=[_,_,_]) (S' :=[_]) (fun _ m=>m)<|ag<|ah<|aj<|hy (fun _=>aa rfl)<|hy (fun _=>aa rfl)<| ?_
  refine hx (aq rfl Tryz.call161 (u6 (by omega) (by omega) (by omega)) [] rfl [0] rfl ?_)
  rintro _ _ _ ⟨v3,rfl,rfl,rfl⟩
  refine aw (fun m=>(m.own 0 rfl).slice) ?_
  rintro⟨A_x3,c_x3,rfl,hc_x3⟩
  refine aw (fun m=>(m.ord 0 rfl).2.1) fun hA_x3=> ?_
  refine hx (bu 1 rfl rfl rfl Tryz.underlying27 Tryz.underlying27 (by exact .inl rfl) ey rfl (fun m=>Src.bN (m.ord 0 rfl)) aS (by unfold maxLen;omega) (by omega) (fun u3=> ?_))
  refine aw (fun m=>(m.own 0 rfl).slice) ?_
  rintro⟨A_b73,c_b73,rfl,hc_b7⟩
  refine aw (fun m=>(m.ord 0 rfl).2.1) fun hA_b7=> ?_
  refine hy (fun _=>ab rfl)<|ai<|al (ρ' :=[(2,_),(4,_),(17,_),(3,_),(0,_)]) ⟨rfl,rfl,rfl,rfl,rfl,trivial⟩<|ak (X' :=[_,_,_,_]) (S' :=[_]) (fun _ m=>m)<|ag<|aQ<| ?_
  have hol:2+4+n+4=(b4 l).length:=by rw[hq];simp[dN,hl];try omega
  rw[hol]
  have hsl:aK ([76,0]++gx n)++aK l++aK (gx (db l))=aK (b4 l):=by rw[hq,hl,bm ([76,0]++gx n++l),bm ([76,0]++gx n)]
  rw[hsl]
  exact bd trivial rfl rfl [0] rfl [] rfl ⟨_,rfl,rfl,rfl⟩
end Go.Proofs.YtmibdabdlgmafaaGreatDoor
end
section
set_option maxRecDepth 20000
set_option maxHeartbeats 4000000
namespace Go.Proofs.YtmibdabdlgmafaaGreatDoor
open Go.Eng Go.Hx
@[reducible]def E3 (v:Value) (nn e:Int):List Value:=[v,.int .i64 nn,.int .i64 e]
theorem jE{A:Option Addr}{n c:Nat}{nn e:Int}:∀u∈E3 (.slice A n c) nn e,u.oneCell' =true:=by
 intro u hu
 simp only[List.mem_cons,List.not_mem_nil,or_false]at hu
 rcases hu with rfl|rfl|rfl <;> rfl
theorem kn(l:List UInt8)(i j:Nat):(l.drop i).getD j 0=l.getD (i+j) 0:=by simp[List.getD,List.getElem?_drop]
theorem xy{A:Option Addr}{n c:Nat}{l:List UInt8}{z:Int}(hc:n≤c)(hn:n≤10000000)(hl:l.length=n)(hz:z≤10000000):cj Tryz.prog 217 [.slice A n c,.int .i64 z] [] [dw 1 A n (aK l)] (fun v_ X_ S_=>∃v nn,v_=(.agg (E3 v nn (kq z l []).2).toArray)∧X_=[aF 5 1 v (kq z l []).1.length (aK (kq z l []).1)]∧S_=[]):=by
 refine aU (N:=109) Tryz.func217 rfl rfl (by simp) fun b=> ?_
 refine ba (fun m=>fG (m.rd 0 rfl)) ?_
 rintro⟨hl_r,hA_r⟩
 refine ah<|aj<| ?_
 refine hx (aJ mQ (fun g4=> ?_))
 refine ai<|ak (X' :=[_]) (S' :=[_]) (fun _ m=>m)<|ag<|ah<|aj<|hy (fun _=>ab rfl)<|ai<|ag<|ah<|aj<|hy (fun _=>ab rfl)<|ai<|ag<|ah<|ah<|aj<|hy (fun _=>ab rfl)<|ai<|ag<|aN<| ?_
 refine bD (fun w m=>m.cL (r' :=aF 5 1 (.slice none 0 0) 0 []) (.refl _ _) (Own.nil _ _ _ _) (fun k hk=>hk.elim)) ?_
 refine qM (fun i o nn A3 c3=>n-i) (fun i o nn A3 c3=>[(5,.slice A3 (o:List UInt8).length c3),(6,.int .i64 (nn:Nat)),(7,.int .i64 (i:Nat))]) (fun i o nn A3 c3=>[aF 5 1 (.slice A3 o.length c3) o.length (aK o)]) (fun i o nn A3 c3=>[]) (fun i o nn A3 c3=>i≤n∧nn≤i∧o.length≤10000000∧kq z (l.drop i) o=kq z l []) 0 [] 0 none 0 [(4,_),(0,_),(1,_)] ⟨rfl,rfl,rfl,trivial⟩ [0] rfl [] rfl (⟨Nat.zero_le _,Nat.zero_le _,Nat.zero_le _,rfl⟩) ⟨rfl,rfl,rfl,trivial⟩ (fun i o nn A3 c3 ⟨hin,hni,hol,hU⟩=> ?_)
 refine ah<|ah<|aj<|hy (fun _=>aa rfl)<|hy (fun _=>aa rfl)<|hy (fun _=>aX rfl Tryz.underlying27)<|hy (fun _=>bk rfl rfl)<|ai<|al (ρ' :=[(14,_),(5,_),(6,_),(7,_),(4,_),(0,_),(1,_)]) ⟨rfl,rfl,rfl,rfl,rfl,rfl,rfl,trivial⟩<|ag<| ?_
 refine cI rfl (fun hlt=> ?_) (fun hlt=> ?_)
 ·have hil:i<l.length:=by omega
  have hq0:l.drop i≠ []:=fun e=>by have:=congrArg List.length e;rw[List.length_drop]at this;simp at this;omega
  have hql:(l.drop i).length=n-i:=by rw[List.length_drop,hl]
  have hg0:(l.drop i).getD 0 0=l.getD i 0:=kn l i 0
  have hc0:=(l.getD i 0).toNat_lt
  refine aC<|ag<|ah<|aN<|ah<|aj<|hy (fun _=>aa rfl)<|hy (fun _=>aa rfl)<|hy (fun _=>aL rfl rfl Tryz.underlying27 dE hA_r rfl (by omega))<|hy (fun m=>av rfl iy ((m.rd 0 rfl).cell (bC (by omega))))<|hy (fun _=>bJ rfl Tryz.underlying5 Tryz.underlying3 (wm _))<|hy (fun _=>ab rfl)<|ai<|al (ρ' :=[(8,_),(14,_),(5,_),(6,_),(7,_),(4,_),(0,_),(1,_)]) ⟨rfl,rfl,rfl,rfl,rfl,rfl,rfl,rfl,trivial⟩<|ag<|ah<|ah<|aj<|hy (fun _=>aa rfl)<|hy (fun _=>bk rfl rfl)<|ai<|al (ρ' :=[(23,_),(8,_),(14,_),(5,_),(6,_),(7,_),(4,_),(0,_),(1,_)]) ⟨rfl,rfl,rfl,rfl,rfl,rfl,rfl,rfl,rfl,trivial⟩<|ag<| ?_
  generalize hc8:(l.getD i 0).toNat=c8 at hc0 hg0 ⊢
  have hc8' :((l.drop i).getD 0 0).toNat=c8:=by rw[kn,Nat.add_zero,hc8]
  refine cI rfl (fun h128=> ?_) (fun h128=> ?_)
  ·have ht:cT (l.drop i)=(c8+2,c8+1,0,decide (c8+2≤n-i)):=by
    unfold cT;rw[hc8',if_pos (by omega),hql]
   refine ah<|ah<|aj<|hy (fun _=>aa rfl)<|hy (fun _=>aa rfl)<|hy (fun _=>aM rfl rfl (bB (by omega) (by omega)))<|hy (fun _=>aM rfl rfl (bB (by omega) (by omega)))<|hy (fun _=>aa rfl)<|hy (fun _=>aX rfl Tryz.underlying27)<|hy (fun _=>cF rfl rfl)<|ai<|al (ρ' :=[(30,_),(23,_),(8,_),(14,_),(5,_),(6,_),(7,_),(4,_),(0,_),(1,_)]) ⟨rfl,rfl,rfl,rfl,rfl,rfl,rfl,rfl,rfl,rfl,trivial⟩<|ag<| ?_
   refine cI rfl (fun h30=> ?_) (fun h30=> ?_)
   ·rw[kj hq0 (fun h=>by rw[ht]at h;have:=of_decide_eq_true h.1;omega)]at hU
    rw[←hU]
    refine ah<|aj<|hy (fun _=>cD mQ rfl rfl (by kernel_rfl) (.cons (o:=2) (sz:=1) (by kernel_rfl) rfl rfl (Nat.le_of_ble_eq_true rfl) .nil))<| ?_
    refine cN (aG 1 rfl rfl rfl jj rfl jE rfl ?_)
    refine ai<|al (ρ' :=[(30,_),(23,_),(8,_),(14,_),(5,_),(6,_),(7,_),(4,_),(0,_),(1,_)]) ⟨rfl,rfl,rfl,rfl,rfl,rfl,rfl,rfl,rfl,rfl,trivial⟩<|ak (X' :=[_,_]) (S' :=[_]) (fun _ m=>m)<|ag<|aQ<|ay<|ay<|bc<|ay<|ay<|bc<|ay<| ?_
    refine ak (fun w m=>m.cL (r' :=aF 5 1 (.slice none 0 0) 0 []) (.refl _ _) (Own.nil _ _ _ _) (fun k hk=>hk.elim)) ?_
    exact gw trivial rfl rfl pR jj rfl (fun m=>(m.aT 1 rfl).au) [0] rfl [] rfl ⟨_,_,rfl,rfl,rfl⟩
   ·have hok:(cT (l.drop i)).2.2.2=true:=by rw[ht];exact decide_eq_true (by omega)
    have hdo:(cT (l.drop i)).2.2.1≤o.length:=by rw[ht];exact Nat.zero_le _
    refine aC<|ag<|ah<|ah<|aj<|hy (fun _=>aa rfl)<|hy (fun _=>aX rfl Tryz.underlying27)<|hy (fun _=>aa rfl)<|hy (fun _=>aM rfl rfl (bB (by omega) (by omega)))<|hy (fun _=>aM rfl rfl (bB (by omega) (by omega)))<|hy (fun _=>aa rfl)<|hy (fun _=>cF rfl rfl)<|ai<|al (ρ' :=[(38,_),(30,_),(23,_),(8,_),(14,_),(5,_),(6,_),(7,_),(4,_),(0,_),(1,_)]) ⟨rfl,rfl,rfl,rfl,rfl,rfl,rfl,rfl,rfl,rfl,rfl,trivial⟩<|ag<| ?_
    refine cI rfl (fun h38=> ?_) (fun h38=> ?_)
    ·rw[nJ hq0 hok hdo (by rw[ht];show z<(o.length:Int)+((c8+1:Nat):Int);omega)]at hU
     rw[←hU]
     refine ah<|aj<|hy (fun _=>cD mQ rfl rfl (by kernel_rfl) (.cons (o:=2) (sz:=1) (by kernel_rfl) rfl rfl (Nat.le_of_ble_eq_true rfl) .nil))<| ?_
     refine cN (aG 1 rfl rfl rfl jj rfl jE rfl ?_)
     refine ai<|al (ρ' :=[(38,_),(30,_),(23,_),(8,_),(14,_),(5,_),(6,_),(7,_),(4,_),(0,_),(1,_)]) ⟨rfl,rfl,rfl,rfl,rfl,rfl,rfl,rfl,rfl,rfl,rfl,trivial⟩<|ak (X' :=[_,_]) (S' :=[_]) (fun _ m=>m)<|ag<|aQ<|ay<|ay<|bc<|ay<|ay<|bc<|ay<| ?_
     refine ak (fun w m=>m.cL (r' :=aF 5 1 (.slice none 0 0) 0 []) (.refl _ _) (Own.nil _ _ _ _) (fun k hk=>hk.elim)) ?_
     exact gw trivial rfl rfl pR jj rfl (fun m=>(m.aT 1 rfl).au) [0] rfl [] rfl ⟨_,_,rfl,rfl,rfl⟩
    ·rw[qI hq0 hok hdo (by rw[ht];show¬z<(o.length:Int)+((c8+1:Nat):Int);omega)]at hU
     have hK:i+1+(c8+1)-(i+1)=c8+1:=by omega
     have hma:made (l.drop i) o=o++(l.drop (i+1)).take (i+1+(c8+1)-(i+1)):=by unfold made;rw[ht,hK,if_pos rfl,List.drop_drop];rfl
     rw[hma,ht,List.drop_drop]at hU
     have hpl:((l.drop (i+1)).take (i+1+(c8+1)-(i+1))).length=i+1+(c8+1)-(i+1):=by rw[List.length_take,List.length_drop];omega
     refine bD (fun w m=>m.lq 0 rfl (View.sub (n:=n) (c:=c) (k:=i+1) (m:=i+1+(c8+1)-(i+1)) (by omega) (by omega))) ?_
     refine ba (fun m=>fG (m.rd 0 rfl)) ?_
     rintro⟨hl_q,hA_q⟩
     refine aC<|ag<|ah<|aj<|hy (fun _=>aa rfl)<|hy (fun _=>aa rfl)<|hy (fun _=>aa rfl)<|hy (fun _=>aM rfl rfl (bB (by omega) (by omega)))<|hy (fun _=>aa rfl)<|hy (fun _=>aa rfl)<|hy (fun _=>aM rfl rfl (bB (by omega) (by omega)))<|hy (fun _=>aM rfl rfl (bB (by omega) (by omega)))<|hy (fun _=>en rfl rfl rfl Tryz.underlying27 dE (show((i+1:Nat):Int)=_ by omega) (show((i+1+(c8+1):Nat):Int)=_ by omega) (by omega) (by omega))<| ?_
     refine hx (bu 0 rfl rfl rfl Tryz.underlying27 Tryz.underlying27 (by exact .inl rfl) ey rfl (fun m=>Src.bN (m.rd 0 rfl)) aS (by unfold maxLen;omega) (by omega) (fun u=> ?_))
     refine aw (fun m=>(m.own 0 rfl).slice) ?_
     rintro⟨A_x,c_x,rfl,hc_x⟩
     refine aw (fun m=>(m.ord 0 rfl).2.1) fun hA_x=> ?_
     have hlm:o.length+(i+1+(c8+1)-(i+1))=(o++(l.drop (i+1)).take (i+1+(c8+1)-(i+1))).length:=by rw[List.length_append,hpl]
     rw[hlm]at hc_x hA_x ⊢
     refine aV (fun w m=>m.bQ 0 rfl (show _=aF 5 1 (.slice A_x (o++(l.drop (i+1)).take (i+1+(c8+1)-(i+1))).length c_x) (o++(l.drop (i+1)).take (i+1+(c8+1)-(i+1))).length (aK (o++(l.drop (i+1)).take (i+1+(c8+1)-(i+1))))from congrArg (aF _ _ _ _) (by rw[bm]))) ?_
     refine hy (fun _=>ab rfl)<|ai<|al (ρ' :=[(5,_),(38,_),(30,_),(23,_),(8,_),(14,_),(6,_),(7,_),(4,_),(0,_),(1,_)]) ⟨rfl,rfl,rfl,rfl,rfl,rfl,rfl,rfl,rfl,rfl,rfl,trivial⟩<|ak (X' :=[_,_]) (S' :=[_,_]) (fun _ m=>m)<|ag<|ah<|aj<|hy (fun _=>aa rfl)<|hy (fun _=>aa rfl)<|hy (fun _=>aM rfl rfl (bB (by omega) (by omega)))<|hy (fun _=>yV (aM rfl rfl (bB (by omega) (by omega))) ((show Value.int .i64 _= .int .i64 ((i+(c8+2):Nat):Int) by congr 1)))<|hy (fun _=>ab rfl)<|ai<|al (ρ' :=[(7,_),(5,_),(38,_),(30,_),(23,_),(8,_),(14,_),(6,_),(4,_),(0,_),(1,_)]) ⟨rfl,rfl,rfl,rfl,rfl,rfl,rfl,rfl,rfl,rfl,rfl,trivial⟩<|ag<|bS<|ar<|aE<|ag<|aj<|hy (fun _=>aa rfl)<|hy (fun _=>aM rfl rfl (bB (by omega) (by omega)))<|hy (fun _=>ab rfl)<|ai<|al (ρ' :=[(6,_),(7,_),(5,_),(38,_),(30,_),(23,_),(8,_),(14,_),(4,_),(0,_),(1,_)]) ⟨rfl,rfl,rfl,rfl,rfl,rfl,rfl,rfl,rfl,rfl,rfl,trivial⟩<| ?_
     refine mg (i+(c8+2)) (o++(l.drop (i+1)).take (i+1+(c8+1)-(i+1))) (nn+1) A_x c_x ⟨rfl,rfl,rfl,rfl,rfl,rfl,trivial⟩ [0,0] rfl [1] rfl (⟨by omega,by omega,by rw[←hlm];omega,hU⟩) (by omega)
  ·refine aC<|ag<|ah<|ah<|aj<|hy (fun _=>aa rfl)<|hy (fun _=>aM rfl rfl (bB (by omega) (by omega)))<|hy (fun _=>aa rfl)<|hy (fun _=>aX rfl Tryz.underlying27)<|hy (fun _=>cF rfl rfl)<|ai<|al (ρ' :=[(58,_),(23,_),(8,_),(14,_),(5,_),(6,_),(7,_),(4,_),(0,_),(1,_)]) ⟨rfl,rfl,rfl,rfl,rfl,rfl,rfl,rfl,rfl,rfl,trivial⟩<|ag<| ?_
   refine cI rfl (fun h58=> ?_) (fun h58=> ?_)
   ·have ht:cT (l.drop i)=(0,0,0,false):=by unfold cT;rw[hc8',if_neg (by omega),if_pos (by omega)]
    rw[kj hq0 (fun h=>by rw[ht]at h;cases h.1)]at hU
    rw[←hU]
    refine ah<|aj<|hy (fun _=>cD mQ rfl rfl (by kernel_rfl) (.cons (o:=2) (sz:=1) (by kernel_rfl) rfl rfl (Nat.le_of_ble_eq_true rfl) .nil))<| ?_
    refine cN (aG 1 rfl rfl rfl jj rfl jE rfl ?_)
    refine ai<|al (ρ' :=[(58,_),(23,_),(8,_),(14,_),(5,_),(6,_),(7,_),(4,_),(0,_),(1,_)]) ⟨rfl,rfl,rfl,rfl,rfl,rfl,rfl,rfl,rfl,rfl,trivial⟩<|ak (X' :=[_,_]) (S' :=[_]) (fun _ m=>m)<|ag<|aQ<|ay<|bc<|ay<|ay<|bc<|ay<| ?_
    refine ak (fun w m=>m.cL (r' :=aF 5 1 (.slice none 0 0) 0 []) (.refl _ _) (Own.nil _ _ _ _) (fun k hk=>hk.elim)) ?_
    exact gw trivial rfl rfl pR jj rfl (fun m=>(m.aT 1 rfl).au) [0] rfl [] rfl ⟨_,_,rfl,rfl,rfl⟩
   ·have ht:cT (l.drop i)=(3,c8-124,1+(l.getD (i+1) 0).toNat+256*(l.getD (i+2) 0).toNat,true):=by
     unfold cT;rw[hc8',if_neg (by omega),if_neg (by omega),kn,kn]
    have b1:=(l.getD (i+1) 0).toNat_lt
    have b2:=(l.getD (i+2) 0).toNat_lt
    have hok:(cT (l.drop i)).2.2.2=true:=by rw[ht]
    refine aC<|ag<|ah<|cV [] [(0,some 0),(1,some 0),(2,some 0),(3,some 0),(4,some 0),(5,some 0),(6,some 0),(7,some 0),(8,some 0),(9,some 0),(10,some 0),(11,some 0),(12,some 0),(13,some 0),(14,some 0),(15,some 0)] (by kernel_rfl) (by kernel_rfl) rfl 99<|an (aa rfl)<|an (aa rfl)<|an (aM rfl rfl (bB (by omega) (by omega)))<|an (aL rfl rfl Tryz.underlying27 dE hA_r (show((i+1:Nat):Int)=_ by omega) (by omega))<|cn (fun m=>av rfl iy ((m.rd 0 rfl).cell (bC (by omega))))<|an (bJ rfl Tryz.underlying5 Tryz.underlying3 (wm _))<|an (aM rfl rfl (bB (by omega) (by omega)))<|an (aa rfl)<|an (aa rfl)<|an (aM rfl rfl (bB (by omega) (by omega)))<|an (aL rfl rfl Tryz.underlying27 dE hA_r (show((i+2:Nat):Int)=_ by omega) (by omega))<|cn (fun m=>av rfl iy ((m.rd 0 rfl).cell (bC (by omega))))<|an (bJ rfl Tryz.underlying5 Tryz.underlying3 (wm _))<|an (fv rfl rfl (bB (by omega) (by omega)))<|an (yV (aM rfl rfl (bB (by omega) (by omega))) ((show Value.int .i64 ((1:Int)+((l.getD (i+1) 0).toNat:Int)+256*((l.getD (i+2) 0).toNat:Int))= .int .i64 ((1+(l.getD (i+1) 0).toNat+256*(l.getD (i+2) 0).toNat:Nat):Int) by congr 1)))<|an (ab rfl)<|bE<|al (ρ' :=[(9,_),(58,_),(23,_),(8,_),(14,_),(5,_),(6,_),(7,_),(4,_),(0,_),(1,_)]) ⟨rfl,rfl,rfl,rfl,rfl,rfl,rfl,rfl,rfl,rfl,rfl,trivial⟩<|ag<|ah<|ah<|aj<|hy (fun _=>aa rfl)<|hy (fun _=>aa rfl)<|hy (fun _=>aX rfl Tryz.underlying27)<|hy (fun _=>cF rfl rfl)<|ai<|al (ρ' :=[(78,_),(9,_),(58,_),(23,_),(8,_),(14,_),(5,_),(6,_),(7,_),(4,_),(0,_),(1,_)]) ⟨rfl,rfl,rfl,rfl,rfl,rfl,rfl,rfl,rfl,rfl,rfl,rfl,trivial⟩<|ag<| ?_
    generalize hdd:1+(l.getD (i+1) 0).toNat+256*(l.getD (i+2) 0).toNat=dd at ht ⊢
    refine cI rfl (fun h78=> ?_) (fun h78=> ?_)
    ·rw[kj hq0 (fun h=>by rw[ht]at h;have h2:dd≤o.length:=h.2;omega)]at hU
     rw[←hU]
     refine ah<|aj<|hy (fun _=>cD mQ rfl rfl (by kernel_rfl) (.cons (o:=2) (sz:=1) (by kernel_rfl) rfl rfl (Nat.le_of_ble_eq_true rfl) .nil))<| ?_
     refine cN (aG 1 rfl rfl rfl jj rfl jE rfl ?_)
     refine ai<|al (ρ' :=[(78,_),(9,_),(58,_),(23,_),(8,_),(14,_),(5,_),(6,_),(7,_),(4,_),(0,_),(1,_)]) ⟨rfl,rfl,rfl,rfl,rfl,rfl,rfl,rfl,rfl,rfl,rfl,rfl,trivial⟩<|ak (X' :=[_,_]) (S' :=[_]) (fun _ m=>m)<|ag<|aQ<|ay<|bc<|ay<|ay<|bc<|ay<| ?_
     refine ak (fun w m=>m.cL (r' :=aF 5 1 (.slice none 0 0) 0 []) (.refl _ _) (Own.nil _ _ _ _) (fun k hk=>hk.elim)) ?_
     exact gw trivial rfl rfl pR jj rfl (fun m=>(m.aT 1 rfl).au) [0] rfl [] rfl ⟨_,_,rfl,rfl,rfl⟩
    ·have hdo:(cT (l.drop i)).2.2.1≤o.length:=by rw[ht];show dd≤_;omega
     refine aC<|ag<|ah<|ah<|aj<|hy (fun _=>aa rfl)<|hy (fun _=>aX rfl Tryz.underlying27)<|hy (fun _=>aa rfl)<|hy (fun _=>aM rfl rfl (bB (by omega) (by omega)))<|hy (fun _=>b6 rfl rfl (bB (by omega) (by omega)))<|hy (fun _=>aa rfl)<|hy (fun _=>cF rfl rfl)<|ai<|al (ρ' :=[(86,_),(78,_),(9,_),(58,_),(23,_),(8,_),(14,_),(5,_),(6,_),(7,_),(4,_),(0,_),(1,_)]) ⟨rfl,rfl,rfl,rfl,rfl,rfl,rfl,rfl,rfl,rfl,rfl,rfl,rfl,trivial⟩<|ag<| ?_
     refine cI rfl (fun h86=> ?_) (fun h86=> ?_)
     ·rw[nJ hq0 hok hdo (by rw[ht];show z<(o.length:Int)+((c8-124:Nat):Int);omega)]at hU
      rw[←hU]
      refine ah<|aj<|hy (fun _=>cD mQ rfl rfl (by kernel_rfl) (.cons (o:=2) (sz:=1) (by kernel_rfl) rfl rfl (Nat.le_of_ble_eq_true rfl) .nil))<| ?_
      refine cN (aG 1 rfl rfl rfl jj rfl jE rfl ?_)
      refine ai<|al (ρ' :=[(86,_),(78,_),(9,_),(58,_),(23,_),(8,_),(14,_),(5,_),(6,_),(7,_),(4,_),(0,_),(1,_)]) ⟨rfl,rfl,rfl,rfl,rfl,rfl,rfl,rfl,rfl,rfl,rfl,rfl,rfl,trivial⟩<|ak (X' :=[_,_]) (S' :=[_]) (fun _ m=>m)<|ag<|aQ<|ay<|bc<|ay<|ay<|bc<|ay<| ?_
      refine ak (fun w m=>m.cL (r' :=aF 5 1 (.slice none 0 0) 0 []) (.refl _ _) (Own.nil _ _ _ _) (fun k hk=>hk.elim)) ?_
      exact gw trivial rfl rfl pR jj rfl (fun m=>(m.aT 1 rfl).au) [0] rfl [] rfl ⟨_,_,rfl,rfl,rfl⟩
     ·rw[qI hq0 hok hdo (by rw[ht];show¬z<(o.length:Int)+((c8-124:Nat):Int);omega)]at hU
      have hma:made (l.drop i) o=again dd (c8-124) o:=by unfold made;rw[ht];exact if_neg (show¬dd=0 by omega)
      rw[hma,ht,List.drop_drop]at hU
      refine aC<|ag<|ah<|ah<|aj<|hy (fun _=>ab rfl)<|ai<|ag<|aN<| ?_
      refine lf (fun k2 o2 A4 c4=>c8-124-k2) (fun k2 o2 A4 c4=>[(5,.slice A4 (o2:List UInt8).length c4),(10,.int .i64 (k2:Nat))]) (fun k2 o2 A4 c4=>[aF 5 1 (.slice A4 o2.length c4) o2.length (aK o2)]) (fun k2 o2 A4 c4=>[]) (fun k2 o2 A4 c4=>k2≤c8-124∧o2.length=o.length+k2∧again dd (c8-124-k2) o2=again dd (c8-124) o) 0 o A3 c3 [(86,_),(78,_),(9,_),(58,_),(23,_),(8,_),(14,_),(6,_),(7,_),(4,_),(0,_),(1,_)] ⟨rfl,rfl,rfl,rfl,rfl,rfl,rfl,rfl,rfl,rfl,rfl,rfl,trivial⟩ [0] rfl [] rfl (⟨Nat.zero_le _,rfl,rfl⟩) ⟨rfl,rfl,trivial⟩ (fun k2 o2 A4 c4 ⟨hk2,ho2,hag⟩=> ?_)
      refine ah<|ah<|aj<|hy (fun _=>aa rfl)<|hy (fun _=>aa rfl)<|hy (fun _=>b6 rfl rfl (bB (by omega) (by omega)))<|hy (fun _=>bk rfl rfl)<|ai<|al (ρ' :=[(91,_),(5,_),(10,_),(86,_),(78,_),(9,_),(58,_),(23,_),(8,_),(14,_),(6,_),(7,_),(4,_),(0,_),(1,_)]) ⟨rfl,rfl,rfl,rfl,rfl,rfl,rfl,rfl,rfl,rfl,rfl,rfl,rfl,rfl,rfl,trivial⟩<|ag<| ?_
      refine cI rfl (fun hk=> ?_) (fun hk=> ?_)
      ·have hk3:k2<c8-124:=by omega
       have hi2:o2.length-dd<o2.length:=by omega
       have hs:again dd (c8-124-k2) o2=again dd (c8-124-(k2+1)) (o2++[o2.getD (o2.length-dd) 0]):=by
        rw[show c8-124-k2=(c8-124-(k2+1))+1 by omega];rfl
       rw[hs]at hag
       refine ba (fun m=>(m.ord 0 rfl).2.1) fun hA_x=> ?_
       refine aC<|ag<|ah<|aN<|aj<|hy (fun _=>aa rfl)<|hy (fun _=>aa rfl)<|hy (fun _=>aa rfl)<|hy (fun _=>aX rfl Tryz.underlying27)<|hy (fun _=>aa rfl)<|hy (fun _=>b6 rfl rfl (bB (by omega) (by omega)))<|hy (fun _=>aL rfl rfl Tryz.underlying27 dE hA_x (show((o2.length-dd:Nat):Int)=_ by omega) (by omega))<|hy (fun m=>av rfl iy ((m.ord 0 rfl).cell (bC (by omega))))<| ?_
       refine hx (cg Tryz.underlying27 ey rfl rfl rfl (by simp[Value.cells,B8]) (by decide) (by decide) (fun g102=> ?_))
       have hA_b102:0<1→(some (⟨g102,0,none⟩:Addr))≠none:=fun _ h=>by cases h
       refine aV (fun w m=>m.bQ 0 rfl (show _=aF 5 1 (.slice (some ⟨g102,0,none⟩) 1 1) 1 (aK [o2.getD (o2.length-dd) 0])from rfl)) ?_
       refine hx (bu 1 rfl rfl rfl Tryz.underlying27 Tryz.underlying27 (by exact .inl rfl) ey rfl (fun m=>Src.bN (m.ord 0 rfl)) aS (by unfold maxLen;omega) (by omega) (fun u=> ?_))
       refine aw (fun m=>(m.own 0 rfl).slice) ?_
       rintro⟨A_x,c_x,rfl,hc_x⟩
       refine aw (fun m=>(m.ord 0 rfl).2.1) fun hA_x=> ?_
       have hlm:o2.length+1=(o2++[o2.getD (o2.length-dd) 0]).length:=by rw[List.length_append];rfl
       rw[hlm]at hc_x hA_x ⊢
       refine aV (fun w m=>m.bQ 0 rfl (show _=aF 5 1 (.slice A_x (o2++[o2.getD (o2.length-dd) 0]).length c_x) (o2++[o2.getD (o2.length-dd) 0]).length (aK (o2++[o2.getD (o2.length-dd) 0]))from congrArg (aF _ _ _ _) (by rw[bm]))) ?_
       refine hy (fun _=>ab rfl)<|ai<|al (ρ' :=[(5,_),(91,_),(10,_),(86,_),(78,_),(9,_),(58,_),(23,_),(8,_),(14,_),(6,_),(7,_),(4,_),(0,_),(1,_)]) ⟨rfl,rfl,rfl,rfl,rfl,rfl,rfl,rfl,rfl,rfl,rfl,rfl,rfl,rfl,rfl,trivial⟩<|ak (X' :=[_,_,_]) (S' :=[_]) (fun _ m=>m)<|aW<|ag<|aj<|hy (fun _=>aa rfl)<|hy (fun _=>aM rfl rfl (bB (by omega) (by omega)))<|hy (fun _=>ab rfl)<|ai<|al (ρ' :=[(10,_),(5,_),(91,_),(86,_),(78,_),(9,_),(58,_),(23,_),(8,_),(14,_),(6,_),(7,_),(4,_),(0,_),(1,_)]) ⟨rfl,rfl,rfl,rfl,rfl,rfl,rfl,rfl,rfl,rfl,rfl,rfl,rfl,rfl,rfl,trivial⟩<| ?_
       refine fA (k2+1) (o2++[o2.getD (o2.length-dd) 0]) A_x c_x ⟨rfl,rfl,rfl,rfl,rfl,rfl,rfl,rfl,rfl,rfl,rfl,rfl,rfl,rfl,trivial⟩ [0,1] rfl [0] rfl (⟨by omega,by rw[←hlm];omega,hag⟩) (by omega)
      ·obtain rfl:k2=c8-124:=by omega
       rw[Nat.sub_self]at hag
       have hag:o2=again dd (c8-124) o:=hag
       rw[←hag]at hU
       refine bS<|ar<|ar<|aE<|ag<|aj<|hy (fun _=>aa rfl)<|hy (fun _=>yV (aM rfl rfl (bB (by omega) (by omega))) ((show Value.int .i64 _= .int .i64 ((i+3:Nat):Int) by congr 1)))<|hy (fun _=>ab rfl)<|ai<|al (ρ' :=[(7,_),(91,_),(5,_),(10,_),(86,_),(78,_),(9,_),(58,_),(23,_),(8,_),(14,_),(6,_),(4,_),(0,_),(1,_)]) ⟨rfl,rfl,rfl,rfl,rfl,rfl,rfl,rfl,rfl,rfl,rfl,rfl,rfl,rfl,rfl,trivial⟩<|aW<|ag<|aj<|hy (fun _=>aa rfl)<|hy (fun _=>aM rfl rfl (bB (by omega) (by omega)))<|hy (fun _=>ab rfl)<|ai<|al (ρ' :=[(6,_),(7,_),(91,_),(5,_),(10,_),(86,_),(78,_),(9,_),(58,_),(23,_),(8,_),(14,_),(4,_),(0,_),(1,_)]) ⟨rfl,rfl,rfl,rfl,rfl,rfl,rfl,rfl,rfl,rfl,rfl,rfl,rfl,rfl,rfl,trivial⟩<| ?_
       refine mg (i+3) o2 (nn+1) A4 c4 ⟨rfl,rfl,rfl,rfl,rfl,rfl,trivial⟩ [0,0] rfl [0] rfl (⟨by omega,by omega,by omega,hU⟩) (by omega)
 ·obtain rfl:i=n:=by omega
  rw[List.drop_of_length_le (by omega),qv]at hU
  rw[←hU]
  refine bS<|ar<|ar<|aE<|ag<|ah<|aj<|hy (fun _=>aa rfl)<|hy (fun _=>aa rfl)<|hy (fun _=>cD mQ rfl rfl (by kernel_rfl) (.cons (o:=0) (sz:=1) (by kernel_rfl) rfl rfl (Nat.le_of_ble_eq_true rfl) (.cons (o:=1) (sz:=1) (by kernel_rfl) rfl rfl (Nat.le_of_ble_eq_true rfl) .nil)))<| ?_
  refine cN (aG 1 rfl rfl rfl jj rfl jE rfl ?_)
  refine ai<|al (ρ' :=[(14,_),(5,_),(6,_),(7,_),(4,_),(0,_),(1,_)]) ⟨rfl,rfl,rfl,rfl,rfl,rfl,rfl,trivial⟩<|ak (X' :=[_,_]) (S' :=[_]) (fun _ m=>m)<|ag<|aQ<| ?_
  exact gw trivial rfl rfl pR jj rfl (fun m=>(m.aT 0 rfl).au) [1] rfl [] rfl ⟨_,_,rfl,rfl,rfl⟩
end Go.Proofs.YtmibdabdlgmafaaGreatDoor
end
section
set_option maxRecDepth 20000
set_option maxHeartbeats 4000000
namespace Go.Proofs.YtmibdabdlgmafaaGreatDoor
open Go.Eng Go.Hx
def xi(f:List UInt8):Int:=match ib f with|none=>-1|some k=>(k:Nat)
theorem kl{f:List UInt8}(h:ib f=none):xi f=-1:=by unfold xi;rw[h]
theorem pF{f:List UInt8}{k:Nat}(h:ib f=some k):xi f=(k:Nat):=by unfold xi;rw[h]
theorem C4{A:Option Addr}{n c:Nat}{f:List UInt8}(hl:f.length=n)(hn:n≤10000000):cj Tryz.prog 216 [.slice A n c] [] [dw 1 A n (aK f)] (fun v_ X_ S_=>v_=(.int .i64 (xi f))∧X_=[]∧S_=[]):=by
 have hv:kB (f.drop 2)=(f.getD 2 0).toNat+256*(f.getD 3 0).toNat+65536*(f.getD 4 0).toNat+16777216*(f.getD 5 0).toNat:=by simp[kB,List.getD]
 have b0:=(f.getD 2 0).toNat_lt
 have b1:=(f.getD 3 0).toNat_lt
 have b2:=(f.getD 4 0).toNat_lt
 have b3:=(f.getD 5 0).toNat_lt
 have h76:(((f.getD 0 0).toNat:Int)≠76)↔f.getD 0 0≠76:=by
  constructor
  ·intro h e;rw[e]at h;exact h rfl
  ·intro h e;exact h (UInt8.toNat_inj.1 (by rw[show(76:UInt8).toNat=76 from rfl];omega))
 refine aU (N:=40) Tryz.func216 rfl rfl (by simp) fun b=> ?_
 refine ba (fun m=>fG (m.rd 0 rfl)) ?_
 rintro⟨hl_r,hA_r⟩
 by_cases h1:f.length<10
 ·rw[kl (if_pos (.inl h1))]
  refine ah<|aj<|hy (fun _=>ab rfl)<|ai<|ag<|ah<|ah<|aj<|hy (fun _=>aa rfl)<|hy (fun _=>aX rfl Tryz.underlying27)<|hy (fun _=>yT (bk rfl rfl) ((decide_eq_true (by omega))))<|hy (fun _=>aa rfl)<|a6 rfl rfl rfl (by decide)<|a6 rfl rfl rfl (by decide)<|a6 rfl rfl rfl (by decide)<|a6 rfl rfl rfl (by decide)<|hy (fun _=>bo rfl rfl)<|hy (fun _=>aa rfl)<|a6 rfl rfl rfl (by decide)<|a6 rfl rfl rfl (by decide)<|a6 rfl rfl rfl (by decide)<|a6 rfl rfl rfl (by decide)<|hy (fun _=>bo rfl rfl)<|ai<|al (ρ' :=[(17,_),(2,_),(0,_)]) ⟨rfl,rfl,rfl,trivial⟩<|ag<| ?_
  refine fe rfl (rfl) ?_
  refine ah<|aj<|hy (fun _=>ab rfl)<|ai<|ag<|aQ<|ay<| ?_
  exact bd trivial rfl rfl [] rfl [] rfl ⟨rfl,rfl,rfl⟩
 ·by_cases h2:f.getD 0 0≠76
  ·rw[kl (if_pos (.inr (.inl h2)))]
   refine ah<|aj<|hy (fun _=>ab rfl)<|ai<|ag<|ah<|ah<|aj<|hy (fun _=>aa rfl)<|hy (fun _=>aX rfl Tryz.underlying27)<|hy (fun _=>yF (bk rfl rfl) ((decide_eq_false (by omega))))<|hy (fun _=>aa rfl)<|ca (o:=_) rfl rfl rfl (fun _=>aa rfl)<|ca (o:=_) rfl rfl rfl (fun _=>aL rfl rfl Tryz.underlying27 dE hA_r (show((0:Nat):Int)=0 from rfl) (by omega))<|ca (o:=_) rfl rfl rfl (fun m=>av rfl iy ((m.rd 0 rfl).cell (bC (by omega))))<|ca (o:=_) rfl rfl rfl (fun _=>yT (cM rfl rfl) ((decide_eq_true (h76.2 h2))))<|hy (fun _=>a7 rfl rfl)<|hy (fun _=>aa rfl)<|a6 rfl rfl rfl (by decide)<|a6 rfl rfl rfl (by decide)<|a6 rfl rfl rfl (by decide)<|a6 rfl rfl rfl (by decide)<|hy (fun _=>bo rfl rfl)<|ai<|al (ρ' :=[(17,_),(2,_),(0,_)]) ⟨rfl,rfl,rfl,trivial⟩<|ag<| ?_
   refine fe rfl (rfl) ?_
   refine ah<|aj<|hy (fun _=>ab rfl)<|ai<|ag<|aQ<|ay<| ?_
   exact bd trivial rfl rfl [] rfl [] rfl ⟨rfl,rfl,rfl⟩
  ·by_cases h3:1<(f.getD 1 0).toNat
   ·rw[kl (if_pos (.inr (.inr h3)))]
    refine ah<|aj<|hy (fun _=>ab rfl)<|ai<|ag<|ah<|ah<|aj<|hy (fun _=>aa rfl)<|hy (fun _=>aX rfl Tryz.underlying27)<|hy (fun _=>yF (bk rfl rfl) ((decide_eq_false (by omega))))<|hy (fun _=>aa rfl)<|ca (o:=_) rfl rfl rfl (fun _=>aa rfl)<|ca (o:=_) rfl rfl rfl (fun _=>aL rfl rfl Tryz.underlying27 dE hA_r (show((0:Nat):Int)=0 from rfl) (by omega))<|ca (o:=_) rfl rfl rfl (fun m=>av rfl iy ((m.rd 0 rfl).cell (bC (by omega))))<|ca (o:=_) rfl rfl rfl (fun _=>yF (cM rfl rfl) ((decide_eq_false (fun q=>h2 (h76.1 q)))))<|hy (fun _=>a7 rfl rfl)<|hy (fun _=>aa rfl)<|ca (o:=_) rfl rfl rfl (fun _=>aa rfl)<|ca (o:=_) rfl rfl rfl (fun _=>aL rfl rfl Tryz.underlying27 dE hA_r (show((1:Nat):Int)=1 from rfl) (by omega))<|ca (o:=_) rfl rfl rfl (fun m=>av rfl iy ((m.rd 0 rfl).cell (bC (by omega))))<|ca (o:=_) rfl rfl rfl (fun _=>yT (cF rfl rfl) ((decide_eq_true (by omega))))<|hy (fun _=>a7 rfl rfl)<|ai<|al (ρ' :=[(17,_),(2,_),(0,_)]) ⟨rfl,rfl,rfl,trivial⟩<|ag<| ?_
    refine fe rfl (rfl) ?_
    refine ah<|aj<|hy (fun _=>ab rfl)<|ai<|ag<|aQ<|ay<| ?_
    exact bd trivial rfl rfl [] rfl [] rfl ⟨rfl,rfl,rfl⟩
   ·refine ah<|aj<|hy (fun _=>ab rfl)<|ai<|ag<|ah<|ah<|aj<|hy (fun _=>aa rfl)<|hy (fun _=>aX rfl Tryz.underlying27)<|hy (fun _=>yF (bk rfl rfl) ((decide_eq_false (by omega))))<|hy (fun _=>aa rfl)<|ca (o:=_) rfl rfl rfl (fun _=>aa rfl)<|ca (o:=_) rfl rfl rfl (fun _=>aL rfl rfl Tryz.underlying27 dE hA_r (show((0:Nat):Int)=0 from rfl) (by omega))<|ca (o:=_) rfl rfl rfl (fun m=>av rfl iy ((m.rd 0 rfl).cell (bC (by omega))))<|ca (o:=_) rfl rfl rfl (fun _=>yF (cM rfl rfl) ((decide_eq_false (fun q=>h2 (h76.1 q)))))<|hy (fun _=>a7 rfl rfl)<|hy (fun _=>aa rfl)<|ca (o:=_) rfl rfl rfl (fun _=>aa rfl)<|ca (o:=_) rfl rfl rfl (fun _=>aL rfl rfl Tryz.underlying27 dE hA_r (show((1:Nat):Int)=1 from rfl) (by omega))<|ca (o:=_) rfl rfl rfl (fun m=>av rfl iy ((m.rd 0 rfl).cell (bC (by omega))))<|ca (o:=_) rfl rfl rfl (fun _=>yF (cF rfl rfl) ((decide_eq_false (by omega))))<|hy (fun _=>a7 rfl rfl)<|ai<|al (ρ' :=[(17,_),(2,_),(0,_)]) ⟨rfl,rfl,rfl,trivial⟩<|ag<| ?_
    refine dx rfl (rfl) ?_
    have hL:ib f=some (kB (f.drop 2)):=if_neg (fun q=>q.elim h1 (fun q=>q.elim h2 h3))
    rw[pF hL]
    refine aC<|ag<|ah<|cV [] [(0,some 0),(1,some 0),(2,some 0),(3,some 0),(4,some 0),(5,some 0),(6,some 0),(7,some 0),(8,some 0),(9,some 0),(10,some 0),(11,some 0),(12,some 0),(13,some 0),(14,some 0),(15,some 0),(16,some 0),(17,some 0),(18,some 0),(19,some 0),(20,some 0),(21,some 0),(22,some 0)] (by kernel_rfl) (by kernel_rfl) rfl 99<|an (aa rfl)<|an (aL rfl rfl Tryz.underlying27 dE hA_r (show((2:Nat):Int)=2 from rfl) (by omega))<|cn (fun m=>av rfl iy ((m.rd 0 rfl).cell (bC (by omega))))<|an (bJ rfl Tryz.underlying5 Tryz.underlying3 (wm _))<|an (aa rfl)<|an (aL rfl rfl Tryz.underlying27 dE hA_r (show((3:Nat):Int)=3 from rfl) (by omega))<|cn (fun m=>av rfl iy ((m.rd 0 rfl).cell (bC (by omega))))<|an (bJ rfl Tryz.underlying5 Tryz.underlying3 (wm _))<|an (fv rfl rfl (bB (by omega) (by omega)))<|an (aM rfl rfl (bB (by omega) (by omega)))<|an (aa rfl)<|an (aL rfl rfl Tryz.underlying27 dE hA_r (show((4:Nat):Int)=4 from rfl) (by omega))<|cn (fun m=>av rfl iy ((m.rd 0 rfl).cell (bC (by omega))))<|an (bJ rfl Tryz.underlying5 Tryz.underlying3 (wm _))<|an (fv rfl rfl (bB (by omega) (by omega)))<|an (aM rfl rfl (bB (by omega) (by omega)))<|an (aa rfl)<|an (aL rfl rfl Tryz.underlying27 dE hA_r (show((5:Nat):Int)=5 from rfl) (by omega))<|cn (fun m=>av rfl iy ((m.rd 0 rfl).cell (bC (by omega))))<|an (bJ rfl Tryz.underlying5 Tryz.underlying3 (wm _))<|an (fv rfl rfl (bB (by omega) (by omega)))<|an (yV (aM rfl rfl (bB (by omega) (by omega))) ((show Value.int .i64 (((f.getD 2 0).toNat:Int)+256*((f.getD 3 0).toNat:Int)+65536*((f.getD 4 0).toNat:Int)+16777216*((f.getD 5 0).toNat:Int))= .int .i64 (kB (f.drop 2):Nat) by rw[hv];congr 1)))<|an (ab rfl)<|bE<|al (ρ' :=[(2,_),(17,_),(0,_)]) ⟨rfl,rfl,rfl,trivial⟩<|ag<|aQ<| ?_
    exact bd trivial rfl rfl [] rfl [] rfl ⟨rfl,rfl,rfl⟩
theorem l6{f u:List UInt8}{k:Nat}(h:vY f k=(u,0)):gn f k=if u.length≠k then([],2)else if gx (db u)≠f.drop (f.length-4)then([],7)else(u,0):=by
 unfold gn
 rw[h]
 exact if_neg (by simp)
theorem yy{f:List UInt8}{k:Nat}(h:(vY f k).2≠0):gn f k=([],2):=by
 unfold gn
 exact if_pos h
theorem CN{A:Option Addr}{n c:Nat}{f:List UInt8}{most:Int}(hc:n≤c)(hl:f.length=n)(hn:n≤10000000)(hm:most≤1000000):cj Tryz.prog 156 [.slice A n c,.int .i64 most] [] [dw 1 A n (aK f)] (fun v_ X_ S_=>∃A1 c1,v_=(.tuple #[.slice A1 (dg f most).1.length c1,.int .i64 (dg f most).2])∧X_=[]∧S_=[dw 1 A1 (dg f most).1.length (aK (dg f most).1)]∧((dg f most).1.length≤c1)):=by
 refine aU (N:=48) Tryz.func156 rfl rfl (by simp) fun b=> ?_
 refine ba (fun m=>fG (m.rd 0 rfl)) ?_
 rintro⟨hl_r,hA_r⟩
 refine ah<|aj<|hy (fun _=>ab rfl)<|hy (fun _=>ab rfl)<|ai<|ag<|ah<|aj<|hy (fun _=>aa rfl)<| ?_
 refine hx (aq rfl Tryz.call216 (C4 hl hn) [] rfl [0] rfl ?_)
 rintro _ _ _ ⟨rfl,rfl,rfl⟩
 refine hy (fun _=>ab rfl)<|ai<|al (ρ' :=[(6,_),(5,_),(4,_),(0,_),(1,_)]) ⟨rfl,rfl,rfl,rfl,rfl,trivial⟩<|ak (X' :=[]) (S' :=[_]) (fun _ m=>m)<|ag<|ah<|ah<|aj<|hy (fun _=>aa rfl)<|hy (fun _=>bk rfl rfl)<|ai<|al (ρ' :=[(12,_),(6,_),(5,_),(4,_),(0,_),(1,_)]) ⟨rfl,rfl,rfl,rfl,rfl,rfl,trivial⟩<|ag<| ?_
 rcases hL:ib f with _|k
 ·refine fe rfl ((decide_eq_true (by rw[kl hL];decide))) ?_
  rw[(od hL)]
  refine ah<|aj<|hy (fun _=>ab rfl)<|hy (fun _=>ab rfl)<|ai<|ag<|aQ<|ay<| ?_
  refine ak (fun w m=>m.oZ (r' :=dw 1 none 0 []) (.refl _ _) (Rd.nil _ _ _) (fun k hk=>absurd rfl hk.1)) ?_
  have hA_z:0<0→(none:Option Addr)≠none:=fun h=>absurd h (by decide)
  exact cW trivial rfl rfl rfl [] rfl [0] rfl ⟨none,0,rfl,rfl,rfl,(Nat.le_refl _)⟩
 ·rw[pF hL]
  refine dx rfl ((decide_eq_false (by omega))) ?_
  refine aC<|ag<|ah<|ah<|aj<|hy (fun _=>aa rfl)<|hy (fun _=>aa rfl)<|hy (fun _=>cF rfl rfl)<|ai<|al (ρ' :=[(15,_),(12,_),(6,_),(5,_),(4,_),(0,_),(1,_)]) ⟨rfl,rfl,rfl,rfl,rfl,rfl,rfl,trivial⟩<|ag<| ?_
  refine cI rfl (fun hfar=> ?_) (fun hfar=> ?_)
  ·rw[(pZ hL (by omega))]
   refine ah<|aj<|hy (fun _=>ab rfl)<|hy (fun _=>ab rfl)<|ai<|ag<|aQ<|ay<| ?_
   refine ak (fun w m=>m.oZ (r' :=dw 1 none 0 []) (.refl _ _) (Rd.nil _ _ _) (fun k hk=>absurd rfl hk.1)) ?_
   have hA_z:0<0→(none:Option Addr)≠none:=fun h=>absurd h (by decide)
   exact cW trivial rfl rfl rfl [] rfl [0] rfl ⟨none,0,rfl,rfl,rfl,(Nat.le_refl _)⟩
  ·obtain⟨h10,hk32⟩:=r6 hL
   have hopen:=rT hL (by omega)
   refine bD (fun w m=>m.lq 0 rfl (View.sub (n:=n) (c:=c) (k:=6) (m:=n-4-6) (by omega) (by omega))) ?_
   refine ba (fun m=>fG (m.rd 0 rfl)) ?_
   rintro⟨hl_p,hA_p⟩
   have hbl:n-4-6=(dH f).length:=by unfold dH;rw[List.length_take,List.length_drop];omega
   have hb2:(f.drop 6).take (n-4-6)=dH f:=by unfold dH;rw[show n-4-6=f.length-10 by omega]
   rw[hb2]
   refine aC<|ag<|ah<|aj<|hy (fun _=>aa rfl)<|hy (fun _=>aa rfl)<|hy (fun _=>aX rfl Tryz.underlying27)<|hy (fun _=>b6 rfl rfl (bB (by omega) (by omega)))<|hy (fun _=>en rfl rfl rfl Tryz.underlying27 dE (show((6:Nat):Int)=6 from rfl) (show((n-4:Nat):Int)=_ by omega) (by omega) (by omega))<|hy (fun _=>ab rfl)<|ai<|al (ρ' :=[(7,_),(15,_),(12,_),(6,_),(5,_),(4,_),(0,_),(1,_)]) ⟨rfl,rfl,rfl,rfl,rfl,rfl,rfl,rfl,trivial⟩<|ag<|ah<|ah<|aj<|hy (fun _=>aa rfl)<|hy (fun _=>aL rfl rfl Tryz.underlying27 dE hA_r (show((1:Nat):Int)=1 from rfl) (by omega))<|hy (fun m=>av rfl iy ((m.rd 1 rfl).cell (bC (by omega))))<|hy (fun _=>cy rfl rfl)<|ai<|al (ρ' :=[(24,_),(7,_),(15,_),(12,_),(6,_),(5,_),(4,_),(0,_),(1,_)]) ⟨rfl,rfl,rfl,rfl,rfl,rfl,rfl,rfl,rfl,trivial⟩<|ag<| ?_
   refine cI rfl (fun h1=> ?_) (fun h1=> ?_)
   ·have hf1:f.getD 1 0=1:=UInt8.toNat_inj.1 (by rw[show(1:UInt8).toNat=1 from rfl];omega)
    have hun:vY f k=kq k (dH f) []:=if_pos hf1
    refine ah<|aj<|hy (fun _=>aa rfl)<|hy (fun _=>aa rfl)<| ?_
    refine hx (aq rfl Tryz.call217 (xy (show n-4-6≤c-6 by omega) (by omega) hbl.symm (show(k:Int)≤10000000 by omega) (l:=(dH f))) [] rfl [0] rfl ?_)
    rintro _ _ _ ⟨v,nn,rfl,rfl,rfl⟩
    refine aw (fun m=>(m.own 0 rfl).slice) ?_
    rintro⟨A_x,c_x,rfl,hc_x⟩
    refine aw (fun m=>(m.ord 0 rfl).2.1) fun hA_x=> ?_
    refine hx (aJ mQ (fun g8=> ?_))
    refine cN (aG 0 rfl rfl rfl jj rfl jE rfl ?_)
    refine ai<|al (ρ' :=[(8,_),(24,_),(7,_),(15,_),(12,_),(6,_),(5,_),(4,_),(0,_),(1,_)]) ⟨rfl,rfl,rfl,rfl,rfl,rfl,rfl,rfl,rfl,rfl,trivial⟩<|ak (X' :=[_,_]) (S' :=[_,_]) (fun _ m=>m)<|ag<|ah<|ah<|aj<|hy (fun _=>aI rfl AN (by decide))<|hy (fun m=>av rfl kE (aB (m.aT 0 rfl) (i:=2) rfl))<|hy (fun _=>cM rfl rfl)<|ai<|al (ρ' :=[(30,_),(8,_),(24,_),(7,_),(15,_),(12,_),(6,_),(5,_),(4,_),(0,_),(1,_)]) ⟨rfl,rfl,rfl,rfl,rfl,rfl,rfl,rfl,rfl,rfl,rfl,trivial⟩<|ag<| ?_
    refine cI rfl (fun he=> ?_) (fun he=> ?_)
    ·have hz:dg f most=([],2):=by rw[hopen,yy (by rw[hun];exact he)]
     rw[hz]
     refine ah<|aj<|hy (fun _=>ab rfl)<|hy (fun _=>ab rfl)<|ai<|ag<|aQ<|ay<|ay<| ?_
     refine ak (fun w m=>m.oZ (r' :=dw 1 none 0 []) (.refl _ _) (Rd.nil _ _ _) (fun k hk=>absurd rfl hk.1)) ?_
     have hA_z:0<0→(none:Option Addr)≠none:=fun h=>absurd h (by decide)
     exact cW trivial rfl rfl rfl [] rfl [0] rfl ⟨none,0,rfl,rfl,rfl,(Nat.le_refl _)⟩
    ·have he:=Decidable.not_not.1 he
     have hun2:vY f k=((kq k (dH f) []).1,0):=by rw[hun];exact Prod.ext rfl he
     refine bD (fun w m=>(m.perm (az [1] _ [_] _ rfl)).freeze) ?_
     refine bD (fun w m=>m.lq 0 rfl .own) ?_
     generalize(kq k (dH f) []).1=u at hc_x hA_x hun2 ⊢
     refine aC<|ag<|aj<|hy (fun _=>aI rfl AF (by decide))<|hy (fun m=>av rfl dO (aB (m.aT 0 rfl) (i:=0) rfl))<|hy (fun _=>ab rfl)<|ai<|al (ρ' :=[(7,_),(30,_),(8,_),(24,_),(15,_),(12,_),(6,_),(5,_),(4,_),(0,_),(1,_)]) ⟨rfl,rfl,rfl,rfl,rfl,rfl,rfl,rfl,rfl,rfl,rfl,trivial⟩<|ag<|ah<|ah<|aj<|hy (fun _=>aa rfl)<|hy (fun _=>aX rfl Tryz.underlying27)<|hy (fun _=>aa rfl)<|hy (fun _=>cM rfl rfl)<|ai<|al (ρ' :=[(36,_),(7,_),(30,_),(8,_),(24,_),(15,_),(12,_),(6,_),(5,_),(4,_),(0,_),(1,_)]) ⟨rfl,rfl,rfl,rfl,rfl,rfl,rfl,rfl,rfl,rfl,rfl,rfl,trivial⟩<|ag<| ?_
     refine cI rfl (fun h36=> ?_) (fun h36=> ?_)
     ·have hz:dg f most=([],2):=by rw[hopen,l6 hun2];exact if_pos (by omega)
      rw[hz]
      refine ah<|aj<|hy (fun _=>ab rfl)<|hy (fun _=>ab rfl)<|ai<|ag<|aQ<|ay<| ?_
      refine ak (fun w m=>m.oZ (r' :=dw 1 none 0 []) (.refl _ _) (Rd.nil _ _ _) (fun k hk=>absurd rfl hk.1)) ?_
      have hA_z:0<0→(none:Option Addr)≠none:=fun h=>absurd h (by decide)
      exact cW trivial rfl rfl rfl [] rfl [0] rfl ⟨none,0,rfl,rfl,rfl,(Nat.le_refl _)⟩
     ·have hlu:(u).length=k:=by omega
      have hgo:dg f most=if gx (db u)≠f.drop (f.length-4)then([],7)else(u,0):=by rw[hopen,l6 hun2];exact if_neg (fun q=>q hlu)
      refine bD (fun w m=>m.lq 3 rfl (View.drop (n:=n) (c:=c) (k:=n-4) (by omega) (by omega))) ?_
      refine ba (fun m=>fG (m.rd 0 rfl)) ?_
      rintro⟨hl_e4,hA_e4⟩
      refine aC<|ag<|ah<|ah<|cV [1,2] [(0,some 0),(3,some 2),(4,some 2),(5,some 2),(6,some 2),(7,some 2),(8,some 2),(1,none),(2,none),(9,some 2)] (by kernel_rfl) (by kernel_rfl) rfl 99<|an (aa rfl)<|an (aa rfl)<|an (aa rfl)<|an (aX rfl Tryz.underlying27)<|an (b6 rfl rfl (bB (by omega) (by omega)))<|an (dm rfl rfl Tryz.underlying27 dE (show((n-4:Nat):Int)=_ by omega) (by omega))<|cn (fun m=>eZ rfl Tryz.underlying27 Tryz.underlying5 Tryz.underlying9 (m.rd 0 rfl))<| ?_
      refine eK (aq rfl Tryz.call161 (u6 hc_x (by omega) rfl (l:=u)) [] rfl [1] rfl ?_)
      rintro _ _ _ ⟨v2,rfl,rfl,rfl⟩
      refine⟨(fun _=>wk [1] [0,1,2,3,4] rfl rfl), ?_⟩
      refine cP (fun m=>(m.own 0 rfl).slice) ?_
      rintro⟨A_x2,c_x2,rfl,hc_x2⟩
      refine cP (fun m=>(m.ord 0 rfl).2.1) fun hA_x2=> ?_
      refine Cw (fun _=>wk [1] [0,1,2,3,4] rfl rfl) (fun m=>eZ rfl Tryz.underlying27 Tryz.underlying5 Tryz.underlying9 (m.ord 0 rfl))<|an (nV rfl rfl)<|bE<|al (ρ' :=[(46,_),(36,_),(7,_),(30,_),(8,_),(24,_),(15,_),(12,_),(6,_),(5,_),(4,_),(0,_),(1,_)]) ⟨rfl,rfl,rfl,rfl,rfl,rfl,rfl,rfl,rfl,rfl,rfl,rfl,rfl,trivial⟩<|ak (X' :=[_,_]) (S' :=[_,_,_,_,_]) (fun _ m=>m)<|ag<| ?_
      refine cI rfl (fun h46=> ?_) (fun h46=> ?_)
      ·have hz:dg f most=([],7):=by rw[hgo];exact if_pos (fun e=>h46 (by rw[e,hl]))
       rw[hz]
       refine ah<|aj<|hy (fun _=>ab rfl)<|hy (fun _=>ab rfl)<|ai<|ag<|aQ<|ay<| ?_
       refine ak (fun w m=>m.oZ (r' :=dw 1 none 0 []) (.refl _ _) (Rd.nil _ _ _) (fun k hk=>absurd rfl hk.1)) ?_
       have hA_z:0<0→(none:Option Addr)≠none:=fun h=>absurd h (by decide)
       exact cW trivial rfl rfl rfl [] rfl [0] rfl ⟨none,0,rfl,rfl,rfl,(Nat.le_refl _)⟩
      ·have h46:=cE.1 (Decidable.not_not.1 h46)
       have hz:dg f most=(u,0):=by rw[hgo];exact if_neg (fun q=>q (by rw[h46,hl]))
       rw[hz]
       refine aC<|ag<|ah<|aj<|hy (fun _=>aa rfl)<|hy (fun _=>ab rfl)<|hy (fun _=>ab rfl)<|ai<|al (ρ' :=[(5,_),(4,_),(46,_),(36,_),(7,_),(30,_),(8,_),(24,_),(15,_),(12,_),(6,_),(0,_),(1,_)]) ⟨rfl,rfl,rfl,rfl,rfl,rfl,rfl,rfl,rfl,rfl,rfl,rfl,rfl,trivial⟩<|ag<|aQ<| ?_
       exact cW trivial rfl rfl rfl [] rfl [1] rfl ⟨_,_,rfl,rfl,rfl,hc_x⟩
   ·have hf1:¬f.getD 1 0=1:=fun q=>h1 (by rw[q];rfl)
    have hun:vY f k=(dH f,0):=if_neg hf1
    rw[hbl]
    refine aC<|ag<|ah<|ah<|aj<|hy (fun _=>aa rfl)<|hy (fun _=>aX rfl Tryz.underlying27)<|hy (fun _=>aa rfl)<|hy (fun _=>cM rfl rfl)<|ai<|al (ρ' :=[(36,_),(24,_),(7,_),(15,_),(12,_),(6,_),(5,_),(4,_),(0,_),(1,_)]) ⟨rfl,rfl,rfl,rfl,rfl,rfl,rfl,rfl,rfl,rfl,trivial⟩<|ag<| ?_
    refine cI rfl (fun h36=> ?_) (fun h36=> ?_)
    ·have hz:dg f most=([],2):=by rw[hopen,l6 hun];exact if_pos (by omega)
     rw[hz]
     refine ah<|aj<|hy (fun _=>ab rfl)<|hy (fun _=>ab rfl)<|ai<|ag<|aQ<|ay<| ?_
     refine ak (fun w m=>m.oZ (r' :=dw 1 none 0 []) (.refl _ _) (Rd.nil _ _ _) (fun k hk=>absurd rfl hk.1)) ?_
     have hA_z:0<0→(none:Option Addr)≠none:=fun h=>absurd h (by decide)
     exact cW trivial rfl rfl rfl [] rfl [0] rfl ⟨none,0,rfl,rfl,rfl,(Nat.le_refl _)⟩
    ·have hlu:((dH f)).length=k:=by omega
     have hgo:dg f most=if gx (db (dH f))≠f.drop (f.length-4)then([],7)else((dH f),0):=by rw[hopen,l6 hun];exact if_neg (fun q=>q hlu)
     refine bD (fun w m=>m.lq 1 rfl (View.drop (n:=n) (c:=c) (k:=n-4) (by omega) (by omega))) ?_
     refine ba (fun m=>fG (m.rd 0 rfl)) ?_
     rintro⟨hl_e4,hA_e4⟩
     refine aC<|ag<|ah<|ah<|cV [1,2] [(0,some 0),(3,some 2),(4,some 2),(5,some 2),(6,some 2),(7,some 2),(8,some 2),(1,none),(2,none),(9,some 2)] (by kernel_rfl) (by kernel_rfl) rfl 99<|an (aa rfl)<|an (aa rfl)<|an (aa rfl)<|an (aX rfl Tryz.underlying27)<|an (b6 rfl rfl (bB (by omega) (by omega)))<|an (dm rfl rfl Tryz.underlying27 dE (show((n-4:Nat):Int)=_ by omega) (by omega))<|cn (fun m=>eZ rfl Tryz.underlying27 Tryz.underlying5 Tryz.underlying9 (m.rd 0 rfl))<| ?_
     refine eK (aq rfl Tryz.call161 (u6 (show(dH f).length≤c-6 by omega) (by omega) rfl (l:=(dH f))) [] rfl [1] rfl ?_)
     rintro _ _ _ ⟨v,rfl,rfl,rfl⟩
     refine⟨(fun _=>wk [] [0,1,2] rfl rfl), ?_⟩
     refine cP (fun m=>(m.own 0 rfl).slice) ?_
     rintro⟨A_x,c_x,rfl,hc_x⟩
     refine cP (fun m=>(m.ord 0 rfl).2.1) fun hA_x=> ?_
     refine Cw (fun _=>wk [] [0,1,2] rfl rfl) (fun m=>eZ rfl Tryz.underlying27 Tryz.underlying5 Tryz.underlying9 (m.ord 0 rfl))<|an (nV rfl rfl)<|bE<|al (ρ' :=[(46,_),(36,_),(24,_),(7,_),(15,_),(12,_),(6,_),(5,_),(4,_),(0,_),(1,_)]) ⟨rfl,rfl,rfl,rfl,rfl,rfl,rfl,rfl,rfl,rfl,rfl,trivial⟩<|ak (X' :=[_]) (S' :=[_,_,_]) (fun _ m=>m)<|ag<| ?_
     refine cI rfl (fun h46=> ?_) (fun h46=> ?_)
     ·have hz:dg f most=([],7):=by rw[hgo];exact if_pos (fun e=>h46 (by rw[e,hl]))
      rw[hz]
      refine ah<|aj<|hy (fun _=>ab rfl)<|hy (fun _=>ab rfl)<|ai<|ag<|aQ<|ay<| ?_
      refine ak (fun w m=>m.oZ (r' :=dw 1 none 0 []) (.refl _ _) (Rd.nil _ _ _) (fun k hk=>absurd rfl hk.1)) ?_
      have hA_z:0<0→(none:Option Addr)≠none:=fun h=>absurd h (by decide)
      exact cW trivial rfl rfl rfl [] rfl [0] rfl ⟨none,0,rfl,rfl,rfl,(Nat.le_refl _)⟩
     ·have h46:=cE.1 (Decidable.not_not.1 h46)
      have hz:dg f most=((dH f),0):=by rw[hgo];exact if_neg (fun q=>q (by rw[h46,hl]))
      rw[hz]
      refine aC<|ag<|ah<|aj<|hy (fun _=>aa rfl)<|hy (fun _=>ab rfl)<|hy (fun _=>ab rfl)<|ai<|al (ρ' :=[(5,_),(4,_),(46,_),(36,_),(24,_),(7,_),(15,_),(12,_),(6,_),(0,_),(1,_)]) ⟨rfl,rfl,rfl,rfl,rfl,rfl,rfl,rfl,rfl,rfl,rfl,trivial⟩<|ag<|aQ<| ?_
      exact cW trivial rfl rfl rfl [] rfl [1] rfl ⟨_,_,rfl,rfl,rfl,(show(dH f).length≤c-6 by omega)⟩
end Go.Proofs.YtmibdabdlgmafaaGreatDoor
end
section
set_option maxRecDepth 20000
namespace Go.Proofs.YtmibdabdlgmafaaGreatDoor
open Go.Eng Go.Hx
theorem iX{x:UInt32}{n:Nat}(hn:n≤32):cj Tryz.prog 204 [Wd x,.int .i64 (n:Int)] [] [] (fun v_ X_ S_=>v_=(Wd (j2 n x))∧X_=[]∧S_=[]):=by
 refine aU (N:=18) Tryz.func204 rfl rfl (by simp) fun b=> ?_
 refine ah<|aj<|hy (fun _=>ab rfl)<|ai<|ag<|ah<|ah<|aj<|hy (fun _=>ab rfl)<|ai<|ag<|aN<| ?_
 refine tm (fun i y=>n-i) (fun i y=>[(0,Wd y),(5,.int .i64 (i:Nat))]) (fun i y=>[]) (fun i y=>[]) (fun i y=>i≤n∧y=j2 i x) 0 x [(4,_),(1,_)] ⟨rfl,rfl,trivial⟩ [] rfl [] rfl (⟨Nat.zero_le _,(vC x).symm⟩) ⟨rfl,rfl,trivial⟩ (fun i y ⟨hin,hyv⟩=> ?_)
 refine ah<|ah<|aj<|hy (fun _=>aa rfl)<|hy (fun _=>aa rfl)<|hy (fun _=>bk rfl rfl)<|ai<|al (ρ' :=[(8,_),(0,_),(5,_),(4,_),(1,_)]) ⟨rfl,rfl,rfl,rfl,rfl,trivial⟩<|ag<| ?_
 refine cI rfl (fun h=> ?_) (fun h=> ?_)
 ·refine aC<|ag<|ah<|aN<|aj<|hy (fun _=>aa rfl)<|hy (fun _=>qu (b:=2) (by decide) rfl rfl)<|hy (fun _=>aa rfl)<|hy (fun _=>wM (b:=2) (by decide) rfl rfl)<|hy (fun _=>ra (b:=2147483648) rfl rfl)<|hy (fun _=>yV (dr rfl rfl) ((rfl:_=Wd (r7 y))))<|hy (fun _=>ab rfl)<|ai<|al (ρ' :=[(0,_),(8,_),(5,_),(4,_),(1,_)]) ⟨rfl,rfl,rfl,rfl,rfl,trivial⟩<|aW<|ag<|aj<|hy (fun _=>aa rfl)<|hy (fun _=>aM rfl rfl (bB (by omega) (by omega)))<|hy (fun _=>ab rfl)<|ai<|al (ρ' :=[(5,_),(0,_),(8,_),(4,_),(1,_)]) ⟨rfl,rfl,rfl,rfl,rfl,trivial⟩<| ?_
  refine oR (i+1) (r7 y) ⟨rfl,rfl,rfl,rfl,trivial⟩ [] rfl [] rfl (⟨by omega,by rw[hyv,wg (by omega)]⟩) (by omega)
 ·obtain rfl:i=n:=by omega
  subst hyv
  refine bS<|ar<|ar<|aE<|ag<|ah<|aj<|hy (fun _=>aa rfl)<|hy (fun _=>ab rfl)<|ai<|al (ρ' :=[(4,_),(8,_),(0,_),(5,_),(1,_)]) ⟨rfl,rfl,rfl,rfl,rfl,trivial⟩<|ag<|aQ<| ?_
  exact bd trivial rfl rfl [] rfl [] rfl ⟨rfl,rfl,rfl⟩
theorem BF{A:Option Addr}{n c:Nat}{l:List UInt8}{i:Nat}(hi:i+4≤n)(hn:n≤1000000000000):cj Tryz.prog 203 [.slice A n c,.int .i64 (i:Int)] [] [dw 1 A n (aK l)] (fun v_ X_ S_=>v_=(Wd (lY l i))∧X_=[]∧S_=[]):=by
 refine aU (N:=34) Tryz.func203 rfl rfl (by simp) fun b=> ?_
 refine ba (fun m=>fG (m.rd 0 rfl)) ?_
 rintro⟨hl_r,hA_r⟩
 have hl:l.length=n:=hl_r
 refine ah<|aj<|hy (fun _=>ab rfl)<|ai<|ag<|ah<|cV [] [(0,some 0),(1,some 0),(2,some 0),(3,some 0),(4,some 0),(5,some 0),(6,some 0),(7,some 0),(8,some 0),(9,some 0),(10,some 0),(11,some 0),(12,some 0),(13,some 0),(14,some 0),(15,some 0),(16,some 0),(17,some 0),(18,some 0),(19,some 0),(20,some 0),(21,some 0),(22,some 0),(23,some 0),(24,some 0),(25,some 0),(26,some 0),(27,some 0),(28,some 0),(29,some 0)] (by kernel_rfl) (by kernel_rfl) rfl 99<|an (aa rfl)<|an (aa rfl)<|an (aL rfl rfl Tryz.underlying27 dE hA_r rfl (by omega))<|cn (fun m=>av rfl iy ((m.rd 0 rfl).cell (bC (by omega))))<|an (xa rfl Tryz.underlying5 Tryz.underlying166)<|an (ra (b:=16777216) rfl rfl)<|an (aa rfl)<|an (aa rfl)<|an (aM rfl rfl (bB (by omega) (by omega)))<|an (aL rfl rfl Tryz.underlying27 dE hA_r (show((i+1:Nat):Int)=_ by omega) (by omega))<|cn (fun m=>av rfl iy ((m.rd 0 rfl).cell (bC (by omega))))<|an (xa rfl Tryz.underlying5 Tryz.underlying166)<|an (ra (b:=65536) rfl rfl)<|an (dr rfl rfl)<|an (aa rfl)<|an (aa rfl)<|an (aM rfl rfl (bB (by omega) (by omega)))<|an (aL rfl rfl Tryz.underlying27 dE hA_r (show((i+2:Nat):Int)=_ by omega) (by omega))<|cn (fun m=>av rfl iy ((m.rd 0 rfl).cell (bC (by omega))))<|an (xa rfl Tryz.underlying5 Tryz.underlying166)<|an (ra (b:=256) rfl rfl)<|an (dr rfl rfl)<|an (aa rfl)<|an (aa rfl)<|an (aM rfl rfl (bB (by omega) (by omega)))<|an (aL rfl rfl Tryz.underlying27 dE hA_r (show((i+3:Nat):Int)=_ by omega) (by omega))<|cn (fun m=>av rfl iy ((m.rd 0 rfl).cell (bC (by omega))))<|an (xa rfl Tryz.underlying5 Tryz.underlying166)<|an (yV (dr rfl rfl) ((show Wd ((l.getD i 0).toUInt32*16777216+(l.getD (i+1) 0).toUInt32*65536+(l.getD (i+2) 0).toUInt32*256+(l.getD (i+3) 0).toUInt32)=Wd (lY l i) by rw[vq])))<|an (ab rfl)<|bE<|al (ρ' :=[(4,_),(0,_),(1,_)]) ⟨rfl,rfl,rfl,trivial⟩<|ag<|aQ<| ?_
 exact bd trivial rfl rfl [] rfl [] rfl ⟨rfl,rfl,rfl⟩
theorem zQ:cj Tryz.prog 202 [] [] [] (fun v_ X_ S_=>∃v,v_=v∧X_=[aF 166 1 v 64 (ea gC)]∧S_=[]):=by
 refine aU (N:=2) Tryz.func202 rfl rfl (by simp) fun b=> ?_
 refine ah<|aj<|hy (fun _=>ab rfl)<|ai<|ag<|ah<|aj<| ?_
 refine hx (cg Tryz.underlying215 mR rfl rfl rfl (by decide) (by decide) (by decide) (fun g1=> ?_))
 have hA_b1:0<64→(some (⟨g1,0,none⟩:Addr))≠none:=fun _ h=>by cases h
 refine hy (fun _=>ab rfl)<|ai<|al (ρ' :=[(0,_)]) ⟨rfl,trivial⟩<|ak (X' :=[_]) (S' :=[]) (fun _ m=>m)<|ag<|aQ<| ?_
 refine ak (fun w m=>m.bQ 0 rfl (show _=aF 166 1 (.slice (some ⟨g1,0,none⟩) 64 64) 64 (ea gC)from rfl)) ?_
 exact bd trivial rfl rfl [0] rfl [] rfl ⟨_,rfl,rfl,rfl⟩
theorem zk{H:Option Addr}{hc:Nat}{A:Option Addr}{c:Nat}{l:List UInt8}{h:List UInt32}(hcc:64≤c)(hh:h.length=8):cj Tryz.prog 142 [.slice H 8 hc,.slice A 64 c] [] [dw 1 H 8 (ea h),dw 1 A 64 (aK l)] (fun v_ X_ S_=>∃u,v_=u∧X_=[aF 166 1 u 8 (ea (eS h l))]∧S_=[]):=by
 refine aU (N:=230) Tryz.func142 rfl rfl (by simp) fun b=> ?_
 refine ba (fun m=>mX (m.rd 0 rfl)) ?_
 rintro⟨hl_q,hA_q⟩
 refine ba (fun m=>fG (m.rd 1 rfl)) ?_
 rintro⟨hl_r,hA_r⟩
 have hl:l.length=64:=hl_r
 refine ah<|aj<|hy (fun _=>ab rfl)<|ai<|ag<|ah<|aj<| ?_
 refine hx (aq rfl Tryz.call202 (zQ) [] rfl [] rfl ?_)
 rintro _ _ _ ⟨v,rfl,rfl,rfl⟩
 refine aw (fun m=>(m.own 0 rfl).slice) ?_
 rintro⟨A_x,c_x,rfl,hc_x⟩
 refine aw (fun m=>(m.ord 0 rfl).2.1) fun hA_x=> ?_
 refine hy (fun _=>ab rfl)<|ai<|al (ρ' :=[(5,_),(4,_),(0,_),(1,_)]) ⟨rfl,rfl,rfl,rfl,trivial⟩<|ak (X' :=[_]) (S' :=[_,_]) (fun _ m=>m)<|ag<|ah<|aj<|hy (fun _=>ab rfl)<|ai<|ag<|ah<|ah<|aj<|hy (fun _=>ab rfl)<|ai<|ag<|aN<| ?_
 refine bD (fun w m=>m.cL (r' :=aF 166 1 (.slice none 0 0) 0 []) (.refl _ _) (Own.nil _ _ _ _) (fun k hk=>hk.elim)) ?_
 refine bD (fun w m=>m.bQ 0 rfl (show _=aF 166 1 (.slice none 0 0) 0 (ea (wl l 0))from rfl)) ?_
 refine gY (fun i A1 c1=>16-i) (fun i A1 c1=>[(6,.slice A1 i c1),(7,.int .i64 (i:Nat))]) (fun i A1 c1=>[aF 166 1 (.slice A1 i c1) i (ea (wl l i))]) (fun i A1 c1=>[]) (fun i A1 c1=>i≤16) 0 none 0 [(5,_),(4,_),(0,_),(1,_)] ⟨rfl,rfl,rfl,rfl,trivial⟩ [0] rfl [] rfl (Nat.zero_le _) ⟨rfl,rfl,trivial⟩ (fun i A1 c1 hI=> ?_)
 refine ah<|ah<|aj<|hy (fun _=>aa rfl)<|hy (fun _=>bk rfl rfl)<|ai<|al (ρ' :=[(21,_),(6,_),(7,_),(5,_),(4,_),(0,_),(1,_)]) ⟨rfl,rfl,rfl,rfl,rfl,rfl,rfl,trivial⟩<|ag<| ?_
 refine cI rfl (fun hlt=> ?_) (fun hlt=> ?_)
 ·have hws:wl l (i+1)=wl l i++[lY l (4*i)]:=by rw[wl,if_pos (by omega)]
  refine aC<|ag<|ah<|aN<|aj<|hy (fun _=>aa rfl)<|hy (fun _=>aa rfl)<|hy (fun _=>aa rfl)<|hy (fun _=>fv rfl rfl (bB (by omega) (by omega)))<| ?_
  rw[show(4:Int)*(i:Int)=((4*i:Nat):Int) by omega]
  refine hx (aq rfl Tryz.call203 (BF (by omega) (by omega) (i:=4*i)) [] rfl [1] rfl ?_)
  rintro _ _ _ ⟨rfl,rfl,rfl⟩
  refine hx (cg Tryz.underlying215 mR rfl rfl rfl (by simp[Value.cells,B8]) (by decide) (by decide) (fun g29=> ?_))
  have hA_b29:0<1→(some (⟨g29,0,none⟩:Addr))≠none:=fun _ h=>by cases h
  refine aV (fun w m=>m.bQ 0 rfl (show _=aF 166 1 (.slice (some ⟨g29,0,none⟩) 1 1) 1 (ea [lY l (4*i)])from rfl)) ?_
  refine hx (bu 1 rfl rfl rfl Tryz.underlying215 Tryz.underlying215 (by exact .inl rfl) mR rfl (fun m=>Src.bN (m.ord 0 rfl)) gO (by unfold maxLen;omega) (by omega) (fun u=> ?_))
  refine aw (fun m=>(m.own 0 rfl).slice) ?_
  rintro⟨A_o,c_o,rfl,hc_o⟩
  refine aw (fun m=>(m.ord 0 rfl).2.1) fun hA_o=> ?_
  refine aV (fun w m=>m.bQ 0 rfl (show _=aF 166 1 (.slice A_o (i+1) c_o) (i+1) (ea (wl l (i+1)))from by rw[hws,ov])) ?_
  refine hy (fun _=>ab rfl)<|ai<|al (ρ' :=[(6,_),(21,_),(7,_),(5,_),(4,_),(0,_),(1,_)]) ⟨rfl,rfl,rfl,rfl,rfl,rfl,rfl,trivial⟩<|ak (X' :=[_,_,_]) (S' :=[_,_]) (fun _ m=>m)<|aW<|ag<|aj<|hy (fun _=>aa rfl)<|hy (fun _=>aM rfl rfl (bB (by omega) (by omega)))<|hy (fun _=>ab rfl)<|ai<|al (ρ' :=[(7,_),(6,_),(21,_),(5,_),(4,_),(0,_),(1,_)]) ⟨rfl,rfl,rfl,rfl,rfl,rfl,rfl,trivial⟩<| ?_
  refine gV (i+1) A_o c_o ⟨rfl,rfl,rfl,rfl,rfl,rfl,trivial⟩ [0,1] rfl [0,1] rfl (by omega) (by omega)
 ·obtain rfl:i=16:=by omega
  refine bS<|ar<|ar<|aE<|ag<|ah<|ah<|aj<|hy (fun _=>ab rfl)<|ai<|ag<|aN<| ?_
  refine gY (fun i A1 c1=>64-i) (fun i A1 c1=>[(6,.slice A1 i c1),(8,.int .i64 (i:Nat))]) (fun i A1 c1=>[aF 166 1 (.slice A1 i c1) i (ea (wl l i))]) (fun i A1 c1=>[]) (fun i A1 c1=>16≤i∧i≤64) 16 A1 c1 [(21,_),(7,_),(5,_),(4,_),(0,_),(1,_)] ⟨rfl,rfl,rfl,rfl,rfl,rfl,trivial⟩ [0] rfl [] rfl (⟨Nat.le_refl _,by decide⟩) ⟨rfl,rfl,trivial⟩ (fun i A1 c1 ⟨hi16,hi64⟩=> ?_)
  have hwl:=fp l i
  refine ba (fun m=>(m.ord 0 rfl).2.1) fun hA_o=> ?_
  refine ah<|ah<|aj<|hy (fun _=>aa rfl)<|hy (fun _=>bk rfl rfl)<|ai<|al (ρ' :=[(32,_),(6,_),(8,_),(21,_),(7,_),(5,_),(4,_),(0,_),(1,_)]) ⟨rfl,rfl,rfl,rfl,rfl,rfl,rfl,rfl,rfl,trivial⟩<|ag<| ?_
  refine cI rfl (fun hlt=> ?_) (fun hlt=> ?_)
  ·have hws:wl l (i+1)=wl l i++[p4 (wl l i) i]:=by rw[wl,if_neg (by omega)]
   refine aC<|ag<|ah<|aN<|ah<|cV [5,11] [(0,some 0),(1,some 2),(2,some 0),(3,some 0),(4,some 0),(6,some 1),(7,some 1),(8,some 1),(9,some 1),(10,some 1),(13,some 2),(14,some 2),(15,some 2),(16,some 2),(17,some 2),(18,some 2),(5,none),(11,none),(12,some 2),(19,some 2),(20,some 2)] (by kernel_rfl) (by kernel_rfl) rfl 99<|an (aa rfl)<|an (aa rfl)<|an (b6 rfl rfl (bB (by omega) (by omega)))<|an (aL rfl rfl Tryz.underlying215 bL hA_o (show((i-15:Nat):Int)=_ by omega) (by omega))<|cn (fun m=>av rfl bU ((m.ord 0 rfl).cell (j:=i-15) (bg (by omega))))<|an (aa rfl)<|an (aa rfl)<|an (b6 rfl rfl (bB (by omega) (by omega)))<|an (aL rfl rfl Tryz.underlying215 bL hA_o (show((i-15:Nat):Int)=_ by omega) (by omega))<|cn (fun m=>av rfl bU ((m.ord 0 rfl).cell (j:=i-15) (bg (by omega))))<|an (aa rfl)<|an (aa rfl)<|an (b6 rfl rfl (bB (by omega) (by omega)))<|an (aL rfl rfl Tryz.underlying215 bL hA_o (show((i-15:Nat):Int)=_ by omega) (by omega))<|cn (fun m=>av rfl bU ((m.ord 0 rfl).cell (j:=i-15) (bg (by omega))))<|an (qu (b:=8) (by decide) rfl rfl)<| ?_
   refine eK (aq rfl Tryz.call204 (iX (by omega) (n:=7)) [] rfl [] rfl ?_)
   rintro _ _ _ ⟨rfl,rfl,rfl⟩
   refine⟨(fun _=>wk [0,0] [0,1] rfl rfl), ?_⟩
   refine eK (aq rfl Tryz.call204 (iX (by omega) (n:=18)) [] rfl [] rfl ?_)
   rintro _ _ _ ⟨rfl,rfl,rfl⟩
   refine⟨(fun _=>wk [0,0] [0,1] rfl rfl), ?_⟩
   refine an (ee rfl rfl)<|an (ee rfl rfl)<|an (ab rfl)<|bE<|al (ρ' :=[(9,_),(32,_),(6,_),(8,_),(21,_),(7,_),(5,_),(4,_),(0,_),(1,_)]) ⟨rfl,rfl,rfl,rfl,rfl,rfl,rfl,rfl,rfl,rfl,trivial⟩<|ak (X' :=[_,_]) (S' :=[_,_]) (fun _ m=>m)<|ag<|ah<|cV [5,11] [(0,some 0),(1,some 2),(2,some 0),(3,some 0),(4,some 0),(6,some 1),(7,some 1),(8,some 1),(9,some 1),(10,some 1),(13,some 2),(14,some 2),(15,some 2),(16,some 2),(17,some 2),(18,some 2),(5,none),(11,none),(12,some 2),(19,some 2),(20,some 2)] (by kernel_rfl) (by kernel_rfl) rfl 99<|an (aa rfl)<|an (aa rfl)<|an (b6 rfl rfl (bB (by omega) (by omega)))<|an (aL rfl rfl Tryz.underlying215 bL hA_o (show((i-2:Nat):Int)=_ by omega) (by omega))<|cn (fun m=>av rfl bU ((m.ord 0 rfl).cell (j:=i-2) (bg (by omega))))<|an (aa rfl)<|an (aa rfl)<|an (b6 rfl rfl (bB (by omega) (by omega)))<|an (aL rfl rfl Tryz.underlying215 bL hA_o (show((i-2:Nat):Int)=_ by omega) (by omega))<|cn (fun m=>av rfl bU ((m.ord 0 rfl).cell (j:=i-2) (bg (by omega))))<|an (aa rfl)<|an (aa rfl)<|an (b6 rfl rfl (bB (by omega) (by omega)))<|an (aL rfl rfl Tryz.underlying215 bL hA_o (show((i-2:Nat):Int)=_ by omega) (by omega))<|cn (fun m=>av rfl bU ((m.ord 0 rfl).cell (j:=i-2) (bg (by omega))))<|an (qu (b:=1024) (by decide) rfl rfl)<| ?_
   refine eK (aq rfl Tryz.call204 (iX (by omega) (n:=17)) [] rfl [] rfl ?_)
   rintro _ _ _ ⟨rfl,rfl,rfl⟩
   refine⟨(fun _=>wk [0,0] [0,1] rfl rfl), ?_⟩
   refine eK (aq rfl Tryz.call204 (iX (by omega) (n:=19)) [] rfl [] rfl ?_)
   rintro _ _ _ ⟨rfl,rfl,rfl⟩
   refine⟨(fun _=>wk [0,0] [0,1] rfl rfl), ?_⟩
   refine an (ee rfl rfl)<|an (ee rfl rfl)<|an (ab rfl)<|bE<|al (ρ' :=[(10,_),(9,_),(32,_),(6,_),(8,_),(21,_),(7,_),(5,_),(4,_),(0,_),(1,_)]) ⟨rfl,rfl,rfl,rfl,rfl,rfl,rfl,rfl,rfl,rfl,rfl,trivial⟩<|ak (X' :=[_,_]) (S' :=[_,_]) (fun _ m=>m)<|ag<|cV [5,16,17] [(0,some 2),(1,some 3),(2,some 3),(3,some 3),(4,some 3),(6,some 3),(8,some 3),(9,some 3),(10,some 3),(11,some 3),(12,some 1),(14,some 1),(5,none),(7,some 1),(13,some 1),(15,some 1),(16,none),(17,none),(18,some 3)] (by kernel_rfl) (by kernel_rfl) rfl 2<|an (aa rfl)<|an (aa rfl)<|an (aa rfl)<|an (b6 rfl rfl (bB (by omega) (by omega)))<|an (aL rfl rfl Tryz.underlying215 bL hA_o (show((i-16:Nat):Int)=_ by omega) (by omega))<|an (aa rfl)<|an (aa rfl)<|an (aa rfl)<|an (b6 rfl rfl (bB (by omega) (by omega)))<|an (aL rfl rfl Tryz.underlying215 bL hA_o (show((i-7:Nat):Int)=_ by omega) (by omega))<|cn (fun m=>av rfl bU ((m.ord 0 rfl).cell (j:=i-7) (bg (by omega))))<|an (aa rfl)<|Cw (fun _=>wk [0,0] [0,1] rfl rfl) (fun m=>av rfl bU ((m.ord 0 rfl).cell (j:=i-16) (bg (by omega))))<|an (dr rfl rfl)<|an (dr rfl rfl)<|an (yV (dr rfl rfl) ((rfl:_=Wd (p4 (wl l i) i))))<| ?_
   refine eK (cg Tryz.underlying215 mR rfl rfl rfl (by exact rD (l:=[_])) (by decide) (by decide) (fun g91=>⟨(fun _=>wk [1,1] [0,1] rfl rfl), ?_⟩))
   have hA_b91:0<1→(some (⟨g91,0,none⟩:Addr))≠none:=fun _ h=>by cases h
   refine jW (fun w m=>m.bQ 0 rfl (show _=aF 166 1 (.slice (some ⟨g91,0,none⟩) 1 1) 1 (ea [p4 (wl l i) i])from rfl)) ?_
   refine eK (bu 1 rfl rfl rfl Tryz.underlying215 Tryz.underlying215 (by exact .inl rfl) mR rfl (fun m=>Src.bN (m.ord 0 rfl)) gO (by unfold maxLen;omega) (by omega) (fun u=>⟨(fun h=>absurd h (by decide)), ?_⟩))
   refine cP (fun m=>(m.own 0 rfl).slice) ?_
   rintro⟨A_o,c_o,rfl,hc_o⟩
   refine cP (fun m=>(m.ord 0 rfl).2.1) fun hA_o=> ?_
   refine jW (fun w m=>m.bQ 0 rfl (show _=aF 166 1 (.slice A_o (i+1) c_o) (i+1) (ea (wl l (i+1)))from by rw[hws,ov])) ?_
   refine an (ab rfl)<|bE<|al (ρ' :=[(6,_),(10,_),(9,_),(32,_),(8,_),(21,_),(7,_),(5,_),(4,_),(0,_),(1,_)]) ⟨rfl,rfl,rfl,rfl,rfl,rfl,rfl,rfl,rfl,rfl,rfl,trivial⟩<|ak (X' :=[_,_,_]) (S' :=[_,_]) (fun _ m=>m)<|aW<|ag<|aj<|hy (fun _=>aa rfl)<|hy (fun _=>aM rfl rfl (bB (by omega) (by omega)))<|hy (fun _=>ab rfl)<|ai<|al (ρ' :=[(8,_),(6,_),(10,_),(9,_),(32,_),(21,_),(7,_),(5,_),(4,_),(0,_),(1,_)]) ⟨rfl,rfl,rfl,rfl,rfl,rfl,rfl,rfl,rfl,rfl,rfl,trivial⟩<| ?_
   refine gV (i+1) A_o c_o ⟨rfl,rfl,rfl,rfl,rfl,rfl,rfl,rfl,trivial⟩ [0,1] rfl [0,1] rfl (⟨by omega,by omega⟩) (by omega)
  ·obtain rfl:i=64:=by omega
   obtain⟨W,hW⟩:∃W,wl l 64=W:=⟨_,rfl⟩
   have hw64:W.length=64:=by rw[←hW];exact fp l 64
   rw[hW]
   refine bS<|ar<|ar<|aE<|ag<|ah<|aj<|hy (fun _=>ab rfl)<|ai<|ag<|ah<|aj<|hy (fun _=>aa rfl)<|hy (fun _=>aa rfl)<| ?_
   refine aV (fun w m=>m.cL (r' :=aF 166 1 (.slice none 0 0) 0 []) (.refl _ _) (Own.nil _ _ _ _) (fun k hk=>hk.elim)) ?_
   refine hx (bu 0 rfl rfl rfl Tryz.underlying215 Tryz.underlying215 (by exact .inl rfl) mR rfl (fun m=>Src.bN (m.rd 0 rfl)) gO (by unfold maxLen;omega) (by omega) (fun u=> ?_))
   refine aw (fun m=>(m.own 0 rfl).slice) ?_
   rintro⟨A_v,c_v,rfl,hc_v⟩
   refine aw (fun m=>(m.ord 0 rfl).2.1) fun hA_v=> ?_
   refine aV (fun w m=>m.bQ 0 rfl (show _=aF 166 1 (.slice A_v 8 c_v) 8 (ea (mE W h 0))from rfl)) ?_
   refine hy (fun _=>ab rfl)<|ai<|al (ρ' :=[(11,_),(32,_),(6,_),(8,_),(21,_),(7,_),(5,_),(4,_),(0,_),(1,_)]) ⟨rfl,rfl,rfl,rfl,rfl,rfl,rfl,rfl,rfl,rfl,trivial⟩<|ak (X' :=[_,_,_]) (S' :=[_,_]) (fun _ m=>m)<|ag<|ah<|ah<|aj<|hy (fun _=>ab rfl)<|ai<|ag<|aN<| ?_
   refine gY (fun i A2 c2=>64-i) (fun i A2 c2=>[(11,.slice A2 8 c2),(12,.int .i64 (i:Nat))]) (fun i A2 c2=>[aF 166 1 (.slice A2 8 c2) 8 (ea (mE W h i))]) (fun i A2 c2=>[]) (fun i A2 c2=>i≤64) 0 A_v c_v [(32,_),(6,_),(8,_),(21,_),(7,_),(5,_),(4,_),(0,_),(1,_)] ⟨rfl,rfl,rfl,rfl,rfl,rfl,rfl,rfl,rfl,trivial⟩ [0] rfl [] rfl (Nat.zero_le _) ⟨rfl,rfl,trivial⟩ (fun i A2 c2 hi64=> ?_)
   have hv:=jP (w:=W) hh i
   have hro:gC.length=64:=rfl
   refine ba (fun m=>(m.ord 0 rfl).2.1) fun hA_v=> ?_
   refine ba (fun m=>(m.ord 2 rfl).2.1) fun hA_x=> ?_
   refine ba (fun m=>(m.ord 1 rfl).2.1) fun hA_o=> ?_
   refine ah<|ah<|aj<|hy (fun _=>aa rfl)<|hy (fun _=>bk rfl rfl)<|ai<|al (ρ' :=[(97,_),(11,_),(12,_),(32,_),(6,_),(8,_),(21,_),(7,_),(5,_),(4,_),(0,_),(1,_)]) ⟨rfl,rfl,rfl,rfl,rfl,rfl,rfl,rfl,rfl,rfl,rfl,rfl,trivial⟩<|ag<| ?_
   refine cI rfl (fun hlt=> ?_) (fun hlt=> ?_)
   ·generalize hvd:mE W h i=v at hv ⊢
    refine aC<|ag<|ah<|aN<|ah<|cV [3,7,12] [(0,some 3),(1,some 0),(2,some 0),(4,some 1),(5,some 1),(6,some 1),(9,some 2),(10,some 2),(11,some 2),(3,none),(7,none),(8,some 3),(12,none),(13,some 3),(14,some 3)] (by kernel_rfl) (by kernel_rfl) rfl 99<|an (aa rfl)<|an (aL rfl rfl Tryz.underlying215 bL hA_v (show((4:Nat):Int)=4 from rfl) (by omega))<|cn (fun m=>av rfl bU ((m.ord 0 rfl).cell (j:=4) (bg (by omega))))<|an (aa rfl)<|an (aL rfl rfl Tryz.underlying215 bL hA_v (show((4:Nat):Int)=4 from rfl) (by omega))<|cn (fun m=>av rfl bU ((m.ord 0 rfl).cell (j:=4) (bg (by omega))))<|an (aa rfl)<|an (aL rfl rfl Tryz.underlying215 bL hA_v (show((4:Nat):Int)=4 from rfl) (by omega))<|cn (fun m=>av rfl bU ((m.ord 0 rfl).cell (j:=4) (bg (by omega))))<| ?_
    refine eK (aq rfl Tryz.call204 (iX (by omega) (n:=6)) [] rfl [] rfl ?_)
    rintro _ _ _ ⟨rfl,rfl,rfl⟩
    refine⟨(fun _=>wk [0,0,0] [0,1] rfl rfl), ?_⟩
    refine eK (aq rfl Tryz.call204 (iX (by omega) (n:=11)) [] rfl [] rfl ?_)
    rintro _ _ _ ⟨rfl,rfl,rfl⟩
    refine⟨(fun _=>wk [0,0,0] [0,1] rfl rfl), ?_⟩
    refine an (ee rfl rfl)<| ?_
    refine eK (aq rfl Tryz.call204 (iX (by omega) (n:=25)) [] rfl [] rfl ?_)
    rintro _ _ _ ⟨rfl,rfl,rfl⟩
    refine⟨(fun _=>wk [0,0,0] [0,1] rfl rfl), ?_⟩
    refine an (yV (ee rfl rfl) ((rfl:_=Wd (turns 6 11 25 (v_ v 4)))))<|an (ab rfl)<|bE<|al (ρ' :=[(13,_),(97,_),(11,_),(12,_),(32,_),(6,_),(8,_),(21,_),(7,_),(5,_),(4,_),(0,_),(1,_)]) ⟨rfl,rfl,rfl,rfl,rfl,rfl,rfl,rfl,rfl,rfl,rfl,rfl,rfl,trivial⟩<|ak (X' :=[_,_,_]) (S' :=[_,_]) (fun _ m=>m)<|ag<|ah<|cV [] [(0,some 0),(1,some 0),(2,some 0),(3,some 0),(4,some 0),(5,some 0),(6,some 0),(7,some 0),(8,some 0),(9,some 0),(10,some 0),(11,some 0),(12,some 0),(13,some 0),(14,some 0),(15,some 0),(16,some 0)] (by kernel_rfl) (by kernel_rfl) rfl 99<|an (aa rfl)<|an (aL rfl rfl Tryz.underlying215 bL hA_v (show((4:Nat):Int)=4 from rfl) (by omega))<|cn (fun m=>av rfl bU ((m.ord 0 rfl).cell (j:=4) (bg (by omega))))<|an (aa rfl)<|an (aL rfl rfl Tryz.underlying215 bL hA_v (show((5:Nat):Int)=5 from rfl) (by omega))<|cn (fun m=>av rfl bU ((m.ord 0 rfl).cell (j:=5) (bg (by omega))))<|an (iY rfl rfl)<|an (aa rfl)<|an (aL rfl rfl Tryz.underlying215 bL hA_v (show((4:Nat):Int)=4 from rfl) (by omega))<|cn (fun m=>av rfl bU ((m.ord 0 rfl).cell (j:=4) (bg (by omega))))<|an (AU rfl rfl)<|an (aa rfl)<|an (aL rfl rfl Tryz.underlying215 bL hA_v (show((6:Nat):Int)=6 from rfl) (by omega))<|cn (fun m=>av rfl bU ((m.ord 0 rfl).cell (j:=6) (bg (by omega))))<|an (iY rfl rfl)<|an (ee rfl rfl)<|an (ab rfl)<|bE<|al (ρ' :=[(14,_),(13,_),(97,_),(11,_),(12,_),(32,_),(6,_),(8,_),(21,_),(7,_),(5,_),(4,_),(0,_),(1,_)]) ⟨rfl,rfl,rfl,rfl,rfl,rfl,rfl,rfl,rfl,rfl,rfl,rfl,rfl,rfl,trivial⟩<|ag<|ah<|cV [] [(0,some 0),(1,some 0),(2,some 0),(3,some 0),(4,some 0),(5,some 0),(6,some 0),(7,some 0),(8,some 0),(9,some 0),(10,some 0),(11,some 0),(12,some 0),(13,some 0),(14,some 0),(15,some 0),(16,some 0),(17,some 0)] (by kernel_rfl) (by kernel_rfl) rfl 99<|an (aa rfl)<|an (aL rfl rfl Tryz.underlying215 bL hA_v (show((7:Nat):Int)=7 from rfl) (by omega))<|cn (fun m=>av rfl bU ((m.ord 0 rfl).cell (j:=7) (bg (by omega))))<|an (aa rfl)<|an (dr rfl rfl)<|an (aa rfl)<|an (dr rfl rfl)<|an (aa rfl)<|an (aa rfl)<|an (aL rfl rfl Tryz.underlying215 bL hA_x rfl (by omega))<|cn (fun m=>av rfl bU ((m.ord 2 rfl).cell (j:=i) (bg (by omega))))<| ?_
    generalize hk:gC.getD i 0=k
    refine an (dr rfl rfl)<|an (aa rfl)<|an (aa rfl)<|an (aL rfl rfl Tryz.underlying215 bL hA_o rfl (by omega))<|cn (fun m=>av rfl bU ((m.ord 1 rfl).cell (j:=i) (bg (by omega))))<|an (yV (dr rfl rfl) ((rfl:_=Wd (rt v k (W.getD i 0)))))<|an (ab rfl)<|bE<|al (ρ' :=[(15,_),(14,_),(13,_),(97,_),(11,_),(12,_),(32,_),(6,_),(8,_),(21,_),(7,_),(5,_),(4,_),(0,_),(1,_)]) ⟨rfl,rfl,rfl,rfl,rfl,rfl,rfl,rfl,rfl,rfl,rfl,rfl,rfl,rfl,rfl,trivial⟩<|ag<|ah<|cV [3,7,12] [(0,some 3),(1,some 0),(2,some 0),(4,some 1),(5,some 1),(6,some 1),(9,some 2),(10,some 2),(11,some 2),(3,none),(7,none),(8,some 3),(12,none),(13,some 3),(14,some 3)] (by kernel_rfl) (by kernel_rfl) rfl 99<|an (aa rfl)<|an (aL rfl rfl Tryz.underlying215 bL hA_v (show((0:Nat):Int)=0 from rfl) (by omega))<|cn (fun m=>av rfl bU ((m.ord 0 rfl).cell (j:=0) (bg (by omega))))<|an (aa rfl)<|an (aL rfl rfl Tryz.underlying215 bL hA_v (show((0:Nat):Int)=0 from rfl) (by omega))<|cn (fun m=>av rfl bU ((m.ord 0 rfl).cell (j:=0) (bg (by omega))))<|an (aa rfl)<|an (aL rfl rfl Tryz.underlying215 bL hA_v (show((0:Nat):Int)=0 from rfl) (by omega))<|cn (fun m=>av rfl bU ((m.ord 0 rfl).cell (j:=0) (bg (by omega))))<| ?_
    refine eK (aq rfl Tryz.call204 (iX (by omega) (n:=2)) [] rfl [] rfl ?_)
    rintro _ _ _ ⟨rfl,rfl,rfl⟩
    refine⟨(fun _=>wk [0,0,0] [0,1] rfl rfl), ?_⟩
    refine eK (aq rfl Tryz.call204 (iX (by omega) (n:=13)) [] rfl [] rfl ?_)
    rintro _ _ _ ⟨rfl,rfl,rfl⟩
    refine⟨(fun _=>wk [0,0,0] [0,1] rfl rfl), ?_⟩
    refine an (ee rfl rfl)<| ?_
    refine eK (aq rfl Tryz.call204 (iX (by omega) (n:=22)) [] rfl [] rfl ?_)
    rintro _ _ _ ⟨rfl,rfl,rfl⟩
    refine⟨(fun _=>wk [0,0,0] [0,1] rfl rfl), ?_⟩
    refine an (yV (ee rfl rfl) ((rfl:_=Wd (turns 2 13 22 (v_ v 0)))))<|an (ab rfl)<|bE<|al (ρ' :=[(16,_),(15,_),(14,_),(13,_),(97,_),(11,_),(12,_),(32,_),(6,_),(8,_),(21,_),(7,_),(5,_),(4,_),(0,_),(1,_)]) ⟨rfl,rfl,rfl,rfl,rfl,rfl,rfl,rfl,rfl,rfl,rfl,rfl,rfl,rfl,rfl,rfl,trivial⟩<|ak (X' :=[_,_,_]) (S' :=[_,_]) (fun _ m=>m)<|ag<|ah<|cV [] [(0,some 0),(1,some 0),(2,some 0),(3,some 0),(4,some 0),(5,some 0),(6,some 0),(7,some 0),(8,some 0),(9,some 0),(10,some 0),(11,some 0),(12,some 0),(13,some 0),(14,some 0),(15,some 0),(16,some 0),(17,some 0),(18,some 0),(19,some 0),(20,some 0),(21,some 0),(22,some 0),(23,some 0)] (by kernel_rfl) (by kernel_rfl) rfl 99<|an (aa rfl)<|an (aL rfl rfl Tryz.underlying215 bL hA_v (show((0:Nat):Int)=0 from rfl) (by omega))<|cn (fun m=>av rfl bU ((m.ord 0 rfl).cell (j:=0) (bg (by omega))))<|an (aa rfl)<|an (aL rfl rfl Tryz.underlying215 bL hA_v (show((1:Nat):Int)=1 from rfl) (by omega))<|cn (fun m=>av rfl bU ((m.ord 0 rfl).cell (j:=1) (bg (by omega))))<|an (iY rfl rfl)<|an (aa rfl)<|an (aL rfl rfl Tryz.underlying215 bL hA_v (show((0:Nat):Int)=0 from rfl) (by omega))<|cn (fun m=>av rfl bU ((m.ord 0 rfl).cell (j:=0) (bg (by omega))))<|an (aa rfl)<|an (aL rfl rfl Tryz.underlying215 bL hA_v (show((2:Nat):Int)=2 from rfl) (by omega))<|cn (fun m=>av rfl bU ((m.ord 0 rfl).cell (j:=2) (bg (by omega))))<|an (iY rfl rfl)<|an (ee rfl rfl)<|an (aa rfl)<|an (aL rfl rfl Tryz.underlying215 bL hA_v (show((1:Nat):Int)=1 from rfl) (by omega))<|cn (fun m=>av rfl bU ((m.ord 0 rfl).cell (j:=1) (bg (by omega))))<|an (aa rfl)<|an (aL rfl rfl Tryz.underlying215 bL hA_v (show((2:Nat):Int)=2 from rfl) (by omega))<|cn (fun m=>av rfl bU ((m.ord 0 rfl).cell (j:=2) (bg (by omega))))<|an (iY rfl rfl)<|an (ee rfl rfl)<|an (ab rfl)<|bE<|al (ρ' :=[(17,_),(16,_),(15,_),(14,_),(13,_),(97,_),(11,_),(12,_),(32,_),(6,_),(8,_),(21,_),(7,_),(5,_),(4,_),(0,_),(1,_)]) ⟨rfl,rfl,rfl,rfl,rfl,rfl,rfl,rfl,rfl,rfl,rfl,rfl,rfl,rfl,rfl,rfl,rfl,trivial⟩<|ag<|cV [28] [(0,some 0),(1,some 0),(2,some 0),(3,some 0),(4,some 0),(5,some 0),(6,some 0),(7,some 0),(8,some 0),(9,some 0),(10,some 0),(11,some 0),(12,some 0),(13,some 0),(14,some 0),(15,some 0),(16,some 0),(17,some 0),(18,some 0),(19,some 0),(20,some 0),(21,some 0),(22,some 0),(23,some 0),(24,some 0),(25,some 0),(26,some 0),(27,some 0),(28,none),(29,some 1)] (by kernel_rfl) (by kernel_rfl) rfl 99<|an (aa rfl)<|an (aa rfl)<|an (dr rfl rfl)<|an (aa rfl)<|an (yV (dr rfl rfl) ((show Wd (rt v k (W.getD i 0)+turns 2 13 22 (v_ v 0)+((v_ v 0 &&& v_ v 1) ^^^ (v_ v 0 &&& v_ v 2) ^^^ (v_ v 1 &&& v_ v 2)))=Wd (rt v k (W.getD i 0)+ru v) by rw[UInt32.add_assoc];rfl)))<|an (aa rfl)<|an (aL rfl rfl Tryz.underlying215 bL hA_v (show((0:Nat):Int)=0 from rfl) (by omega))<|cn (fun m=>av rfl bU ((m.ord 0 rfl).cell (j:=0) (bg (by omega))))<|an (aa rfl)<|an (aL rfl rfl Tryz.underlying215 bL hA_v (show((1:Nat):Int)=1 from rfl) (by omega))<|cn (fun m=>av rfl bU ((m.ord 0 rfl).cell (j:=1) (bg (by omega))))<|an (aa rfl)<|an (aL rfl rfl Tryz.underlying215 bL hA_v (show((2:Nat):Int)=2 from rfl) (by omega))<|cn (fun m=>av rfl bU ((m.ord 0 rfl).cell (j:=2) (bg (by omega))))<|an (aa rfl)<|an (aL rfl rfl Tryz.underlying215 bL hA_v (show((3:Nat):Int)=3 from rfl) (by omega))<|cn (fun m=>av rfl bU ((m.ord 0 rfl).cell (j:=3) (bg (by omega))))<|an (aa rfl)<|an (dr rfl rfl)<|an (aa rfl)<|an (aL rfl rfl Tryz.underlying215 bL hA_v (show((4:Nat):Int)=4 from rfl) (by omega))<|cn (fun m=>av rfl bU ((m.ord 0 rfl).cell (j:=4) (bg (by omega))))<|an (aa rfl)<|an (aL rfl rfl Tryz.underlying215 bL hA_v (show((5:Nat):Int)=5 from rfl) (by omega))<|cn (fun m=>av rfl bU ((m.ord 0 rfl).cell (j:=5) (bg (by omega))))<|an (aa rfl)<|an (aL rfl rfl Tryz.underlying215 bL hA_v (show((6:Nat):Int)=6 from rfl) (by omega))<|cn (fun m=>av rfl bU ((m.ord 0 rfl).cell (j:=6) (bg (by omega))))<| ?_
    refine eK (cg Tryz.underlying215 mR rfl rfl rfl (by exact rD (l:=[_,_,_,_,_,_,_,_])) (by decide) (by decide) (fun g212=>⟨(fun _=>wk [1,1,1] [0,1] rfl rfl), ?_⟩))
    have hA_b212:0<8→(some (⟨g212,0,none⟩:Addr))≠none:=fun _ h=>by cases h
    refine an (ab rfl)<|bE<|al (ρ' :=[(11,_),(17,_),(16,_),(15,_),(14,_),(13,_),(97,_),(12,_),(32,_),(6,_),(8,_),(21,_),(7,_),(5,_),(4,_),(0,_),(1,_)]) ⟨rfl,rfl,rfl,rfl,rfl,rfl,rfl,rfl,rfl,rfl,rfl,rfl,rfl,rfl,rfl,rfl,rfl,trivial⟩<|ak (X' :=[_,_,_,_]) (S' :=[_,_]) (fun _ m=>m)<|aW<|ag<|aj<|hy (fun _=>aa rfl)<|hy (fun _=>aM rfl rfl (bB (by omega) (by omega)))<|hy (fun _=>ab rfl)<|ai<|al (ρ' :=[(12,_),(11,_),(17,_),(16,_),(15,_),(14,_),(13,_),(97,_),(32,_),(6,_),(8,_),(21,_),(7,_),(5,_),(4,_),(0,_),(1,_)]) ⟨rfl,rfl,rfl,rfl,rfl,rfl,rfl,rfl,rfl,rfl,rfl,rfl,rfl,rfl,rfl,rfl,rfl,trivial⟩<| ?_
    refine ak (fun w m=>m.bQ 0 rfl (show _=aF 166 1 (.slice (some ⟨g212,0,none⟩) 8 8) 8 (ea (mE W h (i+1)))from by rw[mE,hvd,hk];rfl)) ?_
    refine gV (i+1) (some ⟨g212,0,none⟩) 8 ⟨rfl,rfl,rfl,rfl,rfl,rfl,rfl,rfl,rfl,rfl,rfl,trivial⟩ [0,1,1] rfl [0,1] rfl (by omega) (by omega)
   ·obtain rfl:i=64:=by omega
    generalize hvv:mE W h 64=v at hv ⊢
    refine bD (fun w m=>m.bQ 0 rfl (show _=aF 166 1 (.slice A2 8 c2) 8 (ea (fU v h 0))from by rw[qa])) ?_
    refine bS<|ar<|ar<|aE<|ag<|ah<|ah<|aj<|hy (fun _=>ab rfl)<|ai<|ag<|aN<| ?_
    refine dA (fun j=>8-j) (fun j=>[(18,.int .i64 (j:Nat))]) (fun j=>[aF 166 1 (.slice A2 8 c2) 8 (ea (fU v h j))]) (fun j=>[]) (fun j=>j≤8) 0 [(97,_),(11,_),(12,_),(32,_),(6,_),(8,_),(21,_),(7,_),(5,_),(4,_),(0,_),(1,_)] ⟨rfl,rfl,rfl,rfl,rfl,rfl,rfl,rfl,rfl,rfl,rfl,rfl,trivial⟩ [0] rfl [] rfl (Nat.zero_le _) ⟨rfl,trivial⟩ (fun j hj8=> ?_)
    have hsl:(fU v h j).length=v.length:=by simp[fU]
    refine ah<|ah<|aj<|hy (fun _=>aa rfl)<|hy (fun _=>bk rfl rfl)<|ai<|al (ρ' :=[(214,_),(18,_),(97,_),(11,_),(12,_),(32,_),(6,_),(8,_),(21,_),(7,_),(5,_),(4,_),(0,_),(1,_)]) ⟨rfl,rfl,rfl,rfl,rfl,rfl,rfl,rfl,rfl,rfl,rfl,rfl,rfl,rfl,trivial⟩<|ag<| ?_
    refine cI rfl (fun hj=> ?_) (fun hj=> ?_)
    ·refine aC<|ag<|ah<|aN<|cV [12] [(0,some 0),(1,some 0),(2,some 0),(3,some 0),(4,some 0),(5,some 0),(6,some 0),(7,some 0),(8,some 0),(9,some 0),(10,some 0),(11,some 0),(12,none)] (by kernel_rfl) (by kernel_rfl) rfl 0<|an (aa rfl)<|an (aa rfl)<|an (aa rfl)<|an (aa rfl)<|an (aL rfl rfl Tryz.underlying215 bL hA_v rfl (by omega))<|cn (fun m=>av rfl bU ((m.ord 0 rfl).cell (j:=j) (bg (by omega))))<|an (aa rfl)<|an (aa rfl)<|an (aL rfl rfl Tryz.underlying215 bL hA_q rfl (by omega))<|cn (fun m=>av rfl bU ((m.rd 0 rfl).cell (j:=j) (bg (by omega))))<|an (yV (dr rfl rfl) ((rfl:_=Wd (v_ (fU v h j) j+v_ h j))))<|an (aL rfl rfl Tryz.underlying215 bL hA_v rfl (by omega))<| ?_
     refine ja (yR 0 rfl rfl rfl bL rfl (by omega) ⟨(fun h=>absurd h (by decide)), ?_⟩)
     refine bE<|al (ρ' :=[(214,_),(18,_),(97,_),(11,_),(12,_),(32,_),(6,_),(8,_),(21,_),(7,_),(5,_),(4,_),(0,_),(1,_)]) ⟨rfl,rfl,rfl,rfl,rfl,rfl,rfl,rfl,rfl,rfl,rfl,rfl,rfl,rfl,trivial⟩<|ak (X' :=[_,_,_]) (S' :=[_,_]) (fun _ m=>m)<|aW<|ag<|aj<|hy (fun _=>aa rfl)<|hy (fun _=>aM rfl rfl (bB (by omega) (by omega)))<|hy (fun _=>ab rfl)<|ai<|al (ρ' :=[(18,_),(214,_),(97,_),(11,_),(12,_),(32,_),(6,_),(8,_),(21,_),(7,_),(5,_),(4,_),(0,_),(1,_)]) ⟨rfl,rfl,rfl,rfl,rfl,rfl,rfl,rfl,rfl,rfl,rfl,rfl,rfl,rfl,trivial⟩<| ?_
     refine ak (fun w m=>m.bQ 0 rfl (show _=aF 166 1 (.slice A2 8 c2) 8 (ea (fU v h (j+1)))from by rw[u9,pL (by omega)])) ?_
     refine cS (j+1) ⟨rfl,rfl,rfl,rfl,rfl,rfl,rfl,rfl,rfl,rfl,rfl,rfl,rfl,trivial⟩ [0,0,0] rfl [0,1] rfl (by omega) (by omega)
    ·obtain rfl:j=8:=by omega
     have hB:fU v h 8=eS h l:=by rw[eS,hW,hvv]
     rw[hB]
     refine bS<|ar<|ar<|aE<|ag<|ah<|aj<|hy (fun _=>aa rfl)<|hy (fun _=>ab rfl)<|ai<|al (ρ' :=[(4,_),(214,_),(18,_),(97,_),(11,_),(12,_),(32,_),(6,_),(8,_),(21,_),(7,_),(5,_),(0,_),(1,_)]) ⟨rfl,rfl,rfl,rfl,rfl,rfl,rfl,rfl,rfl,rfl,rfl,rfl,rfl,rfl,trivial⟩<|ag<|aQ<| ?_
     exact bd trivial rfl rfl [0] rfl [] rfl ⟨_,rfl,rfl,rfl⟩
end Go.Proofs.YtmibdabdlgmafaaGreatDoor
end
section
set_option maxRecDepth 20000
namespace Go.Proofs.YtmibdabdlgmafaaGreatDoor
open Go.Eng Go.Hx
def kU(n:Nat):Nat→Nat
 |0=>n
 |i+1=>kU n i/256
theorem nY(n:Nat):∀i,kU n i=n/256 ^ i
 |0=>by simp[kU]
 |i+1=>by rw[kU,nY n i,Nat.div_div_eq_div_mul,Nat.pow_succ]
def ow(n i:Nat):List UInt8:=List.replicate (8-i) 0++(rn n).drop (8-i)
theorem kA(n:Nat):(rn n).length=8:=by simp[rn]
theorem yo(n i:Nat)(h:i≤8):(ow n i).length=8:=by
 rw[ow,List.length_append,List.length_replicate,List.length_drop,kA];omega
theorem wa{n i:Nat}(hi:i<8):(ow n i).set (7-i) (UInt8.ofNat (kU n i % 256))=ow n (i+1):=by
 have e:UInt8.ofNat (kU n i % 256)=UInt8.ofNat (n/256 ^ i):=by
  rw[nY];apply UInt8.toNat_inj.1;simp
 rw[e]
 obtain⟨k,hk⟩:∃k,8-i=k+1:=⟨7-i,by omega⟩
 have h7:7-i=k:=by omega
 have hd:(rn n).drop k=UInt8.ofNat (n/256 ^ i)::(rn n).drop (k+1):=by
  rw[List.drop_eq_getElem_cons (by rw[kA];omega)]
  congr 1
  simp only[rn,List.getElem_map,List.getElem_range]
  congr 3;omega
 rw[ow,ow,hk,h7,show 8-(i+1)=k by omega,hd,List.replicate_succ',List.append_assoc,List.set_append_right _ _ (by simp)]
 simp
theorem zA{A:Option Addr}{n c:Nat}{l:List UInt8}(hn:n≤140737488351232):cj Tryz.prog 141 [.slice A n c] [] [dw 1 A n (aK l)] (fun v_ X_ S_=>∃v,v_=v∧X_=[aF 5 1 v (jb l).length (aK (jb l))]∧S_=[]):=by
 have hz64:iw n<64:=Nat.mod_lt _ (by decide)
 have hzp:(n+(1+iw n)) % 64=56:=by unfold iw;omega
 have hzm:∀j,j<iw n→(n+(1+j)) % 64≠56:=fun j hj=>by unfold iw at hj;omega
 refine aU (N:=39) Tryz.func141 rfl rfl (by simp) fun b=> ?_
 refine ba (fun m=>fG (m.rd 0 rfl)) ?_
 rintro⟨hl_r,hA_r⟩
 have hl:l.length=n:=hl_r
 refine ah<|aj<|hy (fun _=>ab rfl)<|ai<|ag<|ah<|aj<|hy (fun _=>ab rfl)<|ai<|ag<|ah<|aj<|hy (fun _=>aa rfl)<|hy (fun _=>aa rfl)<| ?_
 refine aV (fun w m=>m.cL (r' :=aF 5 1 (.slice none 0 0) 0 []) (.refl _ _) (Own.nil _ _ _ _) (fun k hk=>hk.elim)) ?_
 refine hx (bu 0 rfl rfl rfl Tryz.underlying27 Tryz.underlying27 (by exact .inl rfl) ey rfl (fun m=>Src.bN (m.rd 0 rfl)) aS (by unfold maxLen;omega) (by omega) (fun u=> ?_))
 refine aw (fun m=>(m.own 0 rfl).slice) ?_
 rintro⟨A_o,c_o,rfl,hc_o⟩
 refine aw (fun m=>(m.ord 0 rfl).2.1) fun hA_o=> ?_
 rw[Nat.zero_add]
 refine hy (fun _=>ab rfl)<|ai<|al (ρ' :=[(3,_),(2,_),(0,_)]) ⟨rfl,rfl,rfl,trivial⟩<|ak (X' :=[_]) (S' :=[_]) (fun _ m=>m)<|ag<|ah<|aj<|hy (fun _=>aa rfl)<| ?_
 refine hx (cg Tryz.underlying27 ey rfl rfl rfl (by simp[Value.cells,B8]) (by decide) (by decide) (fun g11=> ?_))
 have hA_b11:0<1→(some (⟨g11,0,none⟩:Addr))≠none:=fun _ h=>by cases h
 refine aV (fun w m=>m.bQ 0 rfl (show _=aF 5 1 (.slice (some ⟨g11,0,none⟩) 1 1) 1 (aK [128])from rfl)) ?_
 refine hx (bu 1 rfl rfl rfl Tryz.underlying27 Tryz.underlying27 (by exact .inl rfl) ey rfl (fun m=>Src.bN (m.ord 0 rfl)) aS (by unfold maxLen;omega) (by omega) (fun u2=> ?_))
 refine aw (fun m=>(m.own 0 rfl).slice) ?_
 rintro⟨A_o2,c_o2,rfl,hc_o⟩
 refine aw (fun m=>(m.ord 0 rfl).2.1) fun hA_o=> ?_
 refine aV (fun w m=>m.bQ 0 rfl (show _=aF 5 1 (.slice A_o2 (n+1+0) c_o2) (n+1+0) (aK (l++128::List.replicate 0 0))from by simp[aK])) ?_
 refine hy (fun _=>ab rfl)<|ai<|al (ρ' :=[(3,_),(2,_),(0,_)]) ⟨rfl,rfl,rfl,trivial⟩<|ak (X' :=[_,_]) (S' :=[_]) (fun _ m=>m)<|ag<|ah<|aN<| ?_
 refine gY (fun j A1 cc=>iw n-j) (fun j A1 cc=>[(3,.slice A1 (n+1+j) cc)]) (fun j A1 cc=>[aF 5 1 (.slice A1 (n+1+j) cc) (n+1+j) (aK (l++128::List.replicate j 0))]) (fun j A1 cc=>[]) (fun j A1 cc=>j≤iw n) 0 A_o2 c_o2 [(2,_),(0,_)] ⟨rfl,rfl,trivial⟩ [0] rfl [] rfl (Nat.zero_le _) ⟨rfl,trivial⟩ (fun j A1 cc hjz=> ?_)
 refine ah<|ah<|aj<|hy (fun _=>aa rfl)<|hy (fun _=>aX rfl Tryz.underlying27)<|hy (fun _=>gr rfl rfl (by omega) (by omega))<|hy (fun _=>cM rfl rfl)<|ai<|al (ρ' :=[(16,_),(3,_),(2,_),(0,_)]) ⟨rfl,rfl,rfl,rfl,trivial⟩<|ag<| ?_
 refine cI rfl (fun hne=> ?_) (fun hne=> ?_)
 ·have hj:j<iw n:=by
   rcases Nat.lt_or_eq_of_le hjz with h|h
   ·exact h
   ·rw[←h]at hzp;omega
  refine aC<|ag<|aN<|aj<|hy (fun _=>aa rfl)<| ?_
  refine hx (cg Tryz.underlying27 ey rfl rfl rfl (by simp[Value.cells,B8]) (by decide) (by decide) (fun g18=> ?_))
  have hA_b18:0<1→(some (⟨g18,0,none⟩:Addr))≠none:=fun _ h=>by cases h
  refine aV (fun w m=>m.bQ 0 rfl (show _=aF 5 1 (.slice (some ⟨g18,0,none⟩) 1 1) 1 (aK [0])from rfl)) ?_
  refine hx (bu 1 rfl rfl rfl Tryz.underlying27 Tryz.underlying27 (by exact .inl rfl) ey rfl (fun m=>Src.bN (m.ord 0 rfl)) aS (by unfold maxLen;omega) (by omega) (fun u3=> ?_))
  refine aw (fun m=>(m.own 0 rfl).slice) ?_
  rintro⟨A_o3,c_o3,rfl,hc_o⟩
  refine aw (fun m=>(m.ord 0 rfl).2.1) fun hA_o=> ?_
  refine hy (fun _=>ab rfl)<|ai<|al (ρ' :=[(3,_),(16,_),(2,_),(0,_)]) ⟨rfl,rfl,rfl,rfl,trivial⟩<|ak (X' :=[_,_,_]) (S' :=[_]) (fun _ m=>m)<|aW<| ?_
  refine ak (fun w m=>m.bQ 0 rfl (show _=aF 5 1 (.slice A_o3 (n+1+(j+1)) c_o3) (n+1+(j+1)) (aK (l++128::List.replicate (j+1) 0))from by rw[List.replicate_succ'];simp[aK,Nat.add_assoc])) ?_
  refine gV (j+1) A_o3 c_o3 ⟨rfl,rfl,rfl,trivial⟩ [0,1] rfl [0] rfl (by omega) (by omega)
 ·have hj:j=iw n:=by
   refine Decidable.byContradiction fun hn=> ?_
   have:=hzm j (by omega)
   omega
  subst hj
  refine bS<|ar<|ar<|aE<|ag<|ah<|aj<|hy (fun _=>aa rfl)<|hy (fun _=>aX rfl Tryz.underlying27)<|hy (fun _=>yV (fv rfl rfl (bB (by omega) (by omega))) ((show Value.int .i64 (8*(n:Int))= .int .i64 ((kU (8*n) 0:Nat):Int) by rw[kU];congr 1)))<|hy (fun _=>ab rfl)<|ai<|al (ρ' :=[(4,_),(16,_),(3,_),(2,_),(0,_)]) ⟨rfl,rfl,rfl,rfl,rfl,trivial⟩<|ag<|ah<|aj<| ?_
  refine hx (uY (n:=8) Tryz.underlying27 ey rfl rfl rfl (by decide) (by decide) (fun g23=> ?_))
  have hA_b23:∀{n:Nat},0<n→(some (⟨g23,0,none⟩:Addr))≠none:=fun _ h=>by cases h
  refine hy (fun _=>ab rfl)<|ai<|al (ρ' :=[(5,_),(4,_),(16,_),(3,_),(2,_),(0,_)]) ⟨rfl,rfl,rfl,rfl,rfl,rfl,trivial⟩<|ak (X' :=[_,_,_]) (S' :=[_]) (fun _ m=>m)<|ag<|ah<|ah<|aj<| ?_
  refine aV (fun w m=>m.bQ 0 rfl (show _=aH g23 5 (aK (ow (8*n) 0))from by rw[ow,List.drop_of_length_le (by rw[kA];decide),List.append_nil];rfl)) ?_
  refine hy (fun _=>ab rfl)<|ai<|ag<|aN<| ?_
  refine dA (fun i=>8-i) (fun i=>[(4,.int .i64 ((kU (8*n) i:Nat):Int)),(6,.int .i64 (7-(i:Int)))]) (fun i=>[aH g23 5 (aK (ow (8*n) i))]) (fun i=>[]) (fun i=>i≤8) 0 [(5,_),(16,_),(3,_),(2,_),(0,_)] ⟨rfl,rfl,rfl,rfl,rfl,trivial⟩ [0] rfl [] rfl (Nat.zero_le _) ⟨rfl,rfl,trivial⟩ (fun i hi8=> ?_)
  have hq:kU (8*n) i≤8*n:=by rw[nY];exact Nat.div_le_self ..
  have hbl:=yo (8*n) i hi8
  refine ah<|ah<|aj<|hy (fun _=>aa rfl)<|hy (fun _=>gG rfl rfl)<|ai<|al (ρ' :=[(25,_),(4,_),(6,_),(5,_),(16,_),(3,_),(2,_),(0,_)]) ⟨rfl,rfl,rfl,rfl,rfl,rfl,rfl,rfl,trivial⟩<|ag<| ?_
  refine cI rfl (fun hi=> ?_) (fun hi=> ?_)
  ·refine aC<|ag<|ah<|aN<|ah<|aj<|hy (fun _=>aa rfl)<|hy (fun _=>aa rfl)<|hy (fun _=>aa rfl)<|hy (fun _=>gr rfl rfl (by omega) (by omega))<|hy (fun _=>bJ rfl Tryz.underlying3 Tryz.underlying5 (show IntKind.u8.wrap (((kU (8*n) i:Nat):Int) % 256)=((UInt8.ofNat (kU (8*n) i % 256)).toNat:Int)from fl (kU (8*n) i % 256)))<|hy (fun _=>aL rfl rfl Tryz.underlying27 dE hA_b23 (show((7-i:Nat):Int)=_ by omega) (by omega))<| ?_
   refine cN (ct 0 rfl rfl rfl dE rfl (by rw[ax,hbl];omega) ?_)
   refine ai<|al (ρ' :=[(25,_),(4,_),(6,_),(5,_),(16,_),(3,_),(2,_),(0,_)]) ⟨rfl,rfl,rfl,rfl,rfl,rfl,rfl,rfl,trivial⟩<|ak (X' :=[_,_,_]) (S' :=[_]) (fun _ m=>m)<|ag<|aj<|hy (fun _=>aa rfl)<|hy (fun _=>yV (jF rfl rfl (by omega) (by omega) (bB (by omega) (by omega))) ((show Value.int .i64 (((kU (8*n) i:Nat):Int)/256)= .int .i64 ((kU (8*n) (i+1):Nat):Int)from rfl)))<|hy (fun _=>ab rfl)<|ai<|al (ρ' :=[(4,_),(25,_),(6,_),(5,_),(16,_),(3,_),(2,_),(0,_)]) ⟨rfl,rfl,rfl,rfl,rfl,rfl,rfl,rfl,trivial⟩<|aW<|ag<|aj<|hy (fun _=>aa rfl)<|hy (fun _=>yV (b6 rfl rfl (bB (by omega) (by omega))) ((show Value.int .i64 (7-(i:Int)-1)= .int .i64 (7-((i+1:Nat):Int))from congrArg (Value.int .i64) (by omega))))<|hy (fun _=>ab rfl)<|ai<|al (ρ' :=[(6,_),(4,_),(25,_),(5,_),(16,_),(3,_),(2,_),(0,_)]) ⟨rfl,rfl,rfl,rfl,rfl,rfl,rfl,rfl,trivial⟩<| ?_
   refine ak (fun w m=>m.bQ 0 rfl (show _=aH g23 5 (aK (ow (8*n) (i+1)))from by rw[Nat.zero_add,←wa (by omega),nD];rfl)) ?_
   refine cS (i+1) ⟨rfl,rfl,rfl,rfl,rfl,rfl,rfl,trivial⟩ [0,0,0] rfl [0] rfl (by omega) (by omega)
  ·obtain rfl:i=8:=by omega
   have hpl:(jb l).length=n+1+iw n+8:=by
    simp only[jb,List.length_append,List.length_cons,List.length_replicate,kA,hl];omega
   refine bD (fun w m=>m.bQ 0 rfl (show _=aH g23 5 (aK (rn (8*n)))from by simp[ow])) ?_
   refine bS<|ar<|ar<|aE<|ag<|ah<|aj<|hy (fun _=>aa rfl)<|hy (fun _=>aa rfl)<| ?_
   refine hx (bu 1 rfl rfl rfl Tryz.underlying27 Tryz.underlying27 (by exact .inl rfl) ey rfl (fun m=>Src.bN (Rd.gE (m.aT 0 rfl) (by rw[ax,kA]))) aS (by unfold maxLen;omega) (by omega) (fun u3=> ?_))
   refine aw (fun m=>(m.own 0 rfl).slice) ?_
   rintro⟨A_o3,c_o3,rfl,hc_o⟩
   refine aw (fun m=>(m.ord 0 rfl).2.1) fun hA_o=> ?_
   refine aV (fun w m=>m.bQ 0 rfl (show _=aF 5 1 (.slice A_o3 (jb l).length c_o3) (jb l).length (aK (jb l))from by rw[hpl,jb,hl];simp[aK])) ?_
   refine hy (fun _=>ab rfl)<|ai<|al (ρ' :=[(2,_),(25,_),(4,_),(6,_),(5,_),(16,_),(3,_),(0,_)]) ⟨rfl,rfl,rfl,rfl,rfl,rfl,rfl,rfl,trivial⟩<|ak (X' :=[_,_,_]) (S' :=[_]) (fun _ m=>m)<|ag<|aQ<| ?_
   exact bd trivial rfl rfl [0] rfl [] rfl ⟨_,(by rw[hpl]),rfl,rfl⟩
theorem x5{p r:List UInt8}{k:Nat}{a x:UInt8}(hp:p.length=k):(aK (p++x::r)).set k (B8 a)=aK (p++[a]++r):=by
 subst hp
 simp[aK,List.set_append]
def qw(x:UInt32):Nat→UInt32
 |0=>x
 |j+1=>qw x j/256
theorem su(x:UInt32):∀j,(qw x j).toNat=x.toNat/256 ^ j
 |0=>by simp[qw]
 |j+1=>by
  rw[qw,UInt32.toNat_div,su x j,Nat.pow_succ,←Nat.div_div_eq_div_mul];rfl
theorem CC(x:UInt32){r:Nat}(hr:r<4):(y5 x)[r]? =some (UInt8.ofNat (qw x (3-r) % 256).toNat):=by
 have h256:(256:UInt32).toNat=256:=rfl
 have e:∀k,UInt8.ofNat ((qw x k % 256).toNat)=UInt8.ofNat (x.toNat/256 ^ k):=fun k=>by
  rw[UInt32.toNat_mod,su,h256]
  apply UInt8.toNat_inj.1;simp
 rw[e]
 match r,hr with
 |0,_=>simp[y5,UInt32.toNat_div]
 |1,_=>simp[y5,UInt32.toNat_div]
 |2,_=>simp[y5,UInt32.toNat_div]
 |3,_=>simp[y5]
theorem pO:∀(h:List UInt32) (q r:Nat),q<h.length→r<4→(eO h)[4*q+r]? =(y5 (h.getD q 0))[r]?
 |a::t,0,r,hq,hr=>by
  rw[eO,List.flatMap_cons,List.getElem?_append_left (by show 4*0+r<4;omega)]
  simp
 |a::t,q+1,r,hq,hr=>by
  rw[eO,List.flatMap_cons,List.getElem?_append_right (by show 4≤_;omega),show 4*(q+1)+r-(y5 a).length=4*q+r by show 4*(q+1)+r-4=_;omega]
  have:=pO t q r (by simpa using hq) hr
  simpa[eO]using this
theorem lK{A:Option Addr}{n c:Nat}{l:List UInt8}(hn:n≤140737488351232):cj Tryz.prog 56 [.slice A n c] [] [dw 1 A n (aK l)] (fun v_ X_ S_=>v_=(.agg (aK (bF l)).toArray)∧X_=[]∧S_=[]):=by
 refine aU (N:=49) Tryz.func56 rfl rfl (by simp) fun b=> ?_
 refine ba (fun m=>fG (m.rd 0 rfl)) ?_
 rintro⟨hl_r,hA_r⟩
 refine ah<|aj<| ?_
 refine hx (aJ cX (fun g2=> ?_))
 refine ai<|ak (X' :=[_]) (S' :=[_]) (fun _ m=>m)<|ag<|ah<|aj<| ?_
 refine hx (cg Tryz.underlying215 mR rfl rfl rfl (by decide) (by decide) (by decide) (fun g10=> ?_))
 have hA_b10:0<8→(some (⟨g10,0,none⟩:Addr))≠none:=fun _ h=>by cases h
 refine aV (fun w m=>m.bQ 0 rfl (show _=aF 166 1 (.slice (some ⟨g10,0,none⟩) 8 8) 8 (ea (fL oY ((jb l).take (64*0))))from by rw[Nat.mul_zero,List.take_zero];rfl)) ?_
 refine hy (fun _=>ab rfl)<|ai<|al (ρ' :=[(3,_),(2,_),(0,_)]) ⟨rfl,rfl,rfl,trivial⟩<|ak (X' :=[_,_]) (S' :=[_]) (fun _ m=>m)<|ag<|ah<|aj<|hy (fun _=>aa rfl)<| ?_
 refine hx (aq rfl Tryz.call141 (zA (by omega)) [] rfl [0] rfl ?_)
 rintro _ _ _ ⟨v,rfl,rfl,rfl⟩
 refine aw (fun m=>(m.own 0 rfl).slice) ?_
 rintro⟨A_x,c_x,rfl,hc_x⟩
 refine aw (fun m=>(m.ord 0 rfl).2.1) fun hA_x=> ?_
 refine hy (fun _=>ab rfl)<|ai<|al (ρ' :=[(4,_),(3,_),(2,_),(0,_)]) ⟨rfl,rfl,rfl,rfl,trivial⟩<|ak (X' :=[_,_,_]) (S' :=[_]) (fun _ m=>m)<|ag<|ah<|ah<|aj<|hy (fun _=>ab rfl)<|ai<|ag<|aN<| ?_
 have hpl:=mU l
 have hpb:(jb l).length≤140737488352000:=by
  have:l.length=n:=hl_r
  have hz:iw l.length<64:=Nat.mod_lt _ (by decide)
  simp only[jb,List.length_append,List.length_cons,List.length_replicate,kA];omega
 obtain⟨K,hK⟩:∃K,(jb l).length=64*K:=⟨(jb l).length/64,by omega⟩
 generalize hP:jb l=P at hpl hpb hK hc_x hA_x ⊢
 refine bD (fun w m=>(m.perm (az [0] _ [_] _ rfl)).freeze) ?_
 refine bD (fun w m=>m.lq 0 rfl .own) ?_
 refine ba (fun m=>fG (m.rd 0 rfl)) ?_
 rintro⟨hl_xr,hA_xr⟩
 refine gY (fun k H hc=>K-k) (fun k H hc=>[(3,.slice H 8 hc),(5,.int .i64 ((64*k:Nat):Int))]) (fun k H hc=>[aF 166 1 (.slice H 8 hc) 8 (ea (fL oY (P.take (64*k))))]) (fun k H hc=>[]) (fun k H hc=>k≤K) 0 (some ⟨g10,0,none⟩) 8 [(4,_),(2,_),(0,_)] ⟨rfl,rfl,rfl,trivial⟩ [0] rfl [] rfl (Nat.zero_le _) ⟨rfl,rfl,trivial⟩ (fun k H hc hkK=> ?_)
 have hh:=ly (h:=oY) (P.take (64*k)) rfl
 refine ah<|ah<|aj<|hy (fun _=>aa rfl)<|hy (fun _=>aa rfl)<|hy (fun _=>aX rfl Tryz.underlying27)<|hy (fun _=>bk rfl rfl)<|ai<|al (ρ' :=[(16,_),(3,_),(5,_),(4,_),(2,_),(0,_)]) ⟨rfl,rfl,rfl,rfl,rfl,rfl,trivial⟩<|ag<| ?_
 refine cI rfl (fun hlt=> ?_) (fun hlt=> ?_)
 ·have hk:k<K:=by omega
  refine bD (fun w m=>m.lq 0 rfl (View.sub (k:=64*k) (m:=64) hc_x (by omega))) ?_
  refine ba (fun m=>fG (m.rd 0 rfl)) ?_
  rintro⟨hl_r64,hA_r64⟩
  refine aC<|ag<|ah<|aN<|aj<|hy (fun _=>aa rfl)<|hy (fun _=>aa rfl)<|hy (fun _=>aa rfl)<|hy (fun _=>aa rfl)<|hy (fun _=>aM rfl rfl (bB (by omega) (by omega)))<|hy (fun _=>yV (en rfl rfl rfl Tryz.underlying27 dE (show((64*k:Nat):Int)=_ by omega) (show((64*k+64:Nat):Int)=_ by omega) (by omega) (by omega)) ((show Value.slice (if c_x=64*k then A_x else A_x.map (·.add (64*k*1))) (64*k+64-64*k) (c_x-64*k)= .slice (if c_x=64*k then A_x else A_x.map (·.add (64*k*1))) 64 (c_x-64*k) by rw[Nat.add_sub_cancel_left])))<| ?_
  refine hx (bT rfl Tryz.call142 (zk (by omega) hh (h:=(fL oY (P.take (64*k))))) [] rfl (.x 0 rfl .own (.s 0 rfl .nil)) ?_)
  rintro _ _ _ ⟨u,rfl,rfl,rfl⟩
  refine⟨rfl, ?_⟩
  refine aw (fun m=>(m.own 0 rfl).slice) ?_
  rintro⟨A_y,c_y,rfl,hc_y⟩
  refine aw (fun m=>(m.ord 0 rfl).2.1) fun hA_y=> ?_
  refine hy (fun _=>ab rfl)<|ai<|al (ρ' :=[(3,_),(16,_),(5,_),(4,_),(2,_),(0,_)]) ⟨rfl,rfl,rfl,rfl,rfl,rfl,trivial⟩<|ak (X' :=[_,_,_]) (S' :=[_,_,_,_]) (fun _ m=>m)<|aW<|ag<|aj<|hy (fun _=>aa rfl)<|hy (fun _=>yV (aM rfl rfl (bB (by omega) (by omega))) ((show Value.int .i64 (((64*k:Nat):Int)+64)= .int .i64 ((64*(k+1):Nat):Int)from congrArg (Value.int .i64) (by omega))))<|hy (fun _=>ab rfl)<|ai<|al (ρ' :=[(5,_),(3,_),(16,_),(4,_),(2,_),(0,_)]) ⟨rfl,rfl,rfl,rfl,rfl,rfl,trivial⟩<| ?_
  have hfs:eS (fL oY (P.take (64*k))) ((P.drop (64*k)).take 64)=fL oY (P.take (64*(k+1))):=by
   rw[←ot (by rw[List.length_take];omega) (by rw[List.length_take,List.length_drop];omega),←List.take_add]
   rfl
  rw[hfs]
  refine gV (k+1) A_y c_y ⟨rfl,rfl,rfl,rfl,rfl,trivial⟩ [0,1] rfl [1,2,3] rfl (by omega) (by omega)
 ·obtain rfl:k=K:=by omega
  have hfl:fL oY (P.take (64*k))=fL oY P:=by rw[List.take_of_length_le (by omega)]
  rw[hfl]at hh ⊢
  have hsha:bF l=eO (fL oY P):=by rw[bF,hP]
  have hdl:=lB hh
  generalize fL oY P=F at hh hsha hdl ⊢
  refine ba (fun m=>(m.ord 0 rfl).2.1) fun hA_b10=> ?_
  refine bS<|ar<|ar<|aE<|ag<|ah<|aj<| ?_
  refine hx (aJ cX (fun g6=> ?_))
  refine ai<|ak (X' :=[_,_,_]) (S' :=[_,_,_]) (fun _ m=>m)<|ag<|ah<|ah<|aj<|hy (fun _=>ab rfl)<|ai<|ag<|aN<| ?_
  refine bD (fun w m=>m.bQ 0 rfl (show _=aH g6 53 (aK ((eO F).take 0++List.replicate (32-0) 0))from rfl)) ?_
  refine dA (fun i=>32-i) (fun i=>[(7,.int .i64 (i:Nat))]) (fun i=>[aH g6 53 (aK ((eO F).take i++List.replicate (32-i) 0))]) (fun i=>[]) (fun i=>i≤32) 0 [(6,_),(16,_),(3,_),(5,_),(4,_),(2,_),(0,_)] ⟨rfl,rfl,rfl,rfl,rfl,rfl,rfl,trivial⟩ [0] rfl [] rfl (Nat.zero_le _) ⟨rfl,trivial⟩ (fun i hi32=> ?_)
  refine ah<|ah<|aj<|hy (fun _=>aa rfl)<|hy (fun _=>bk rfl rfl)<|ai<|al (ρ' :=[(27,_),(7,_),(6,_),(16,_),(3,_),(5,_),(4,_),(2,_),(0,_)]) ⟨rfl,rfl,rfl,rfl,rfl,rfl,rfl,rfl,rfl,trivial⟩<|ag<| ?_
  refine cI rfl (fun hi=> ?_) (fun hi=> ?_)
  ·refine aC<|ag<|ah<|aN<|ah<|aj<|hy (fun _=>aa rfl)<|hy (fun _=>aa rfl)<|hy (fun _=>jF rfl rfl (by omega) (by omega) (bB (by omega) (by omega)))<|hy (fun _=>aL rfl rfl Tryz.underlying215 bL hA_b10 (show((i/4:Nat):Int)=_ by omega) (by omega))<|hy (fun m=>yV (av rfl bU ((m.ord 1 rfl).cell (j:=i/4) (bg (by omega)))) ((rfl:_=Wd (qw (F.getD (i/4) 0) 0))))<|hy (fun _=>ab rfl)<|ai<|al (ρ' :=[(8,_),(27,_),(7,_),(6,_),(16,_),(3,_),(5,_),(4,_),(2,_),(0,_)]) ⟨rfl,rfl,rfl,rfl,rfl,rfl,rfl,rfl,rfl,rfl,trivial⟩<|ag<|ah<|ah<|aj<|hy (fun _=>aa rfl)<|hy (fun _=>yV (gr rfl rfl (by omega) (by omega)) ((show Value.int .i64 ((i:Int) % 4)= .int .i64 (((i % 4+0:Nat)):Int)from congrArg (Value.int .i64) (by omega))))<|hy (fun _=>ab rfl)<|ai<|al (ρ' :=[(9,_),(8,_),(27,_),(7,_),(6,_),(16,_),(3,_),(5,_),(4,_),(2,_),(0,_)]) ⟨rfl,rfl,rfl,rfl,rfl,rfl,rfl,rfl,rfl,rfl,rfl,trivial⟩<|ag<|aN<| ?_
   refine dA (fun j=>3-j) (fun j=>[(8,Wd (qw (F.getD (i/4) 0) j)),(9,.int .i64 ((i % 4+j:Nat):Int))]) (fun j=>[]) (fun j=>[]) (fun j=>i % 4+j≤3) 0 [(27,_),(7,_),(6,_),(16,_),(3,_),(5,_),(4,_),(2,_),(0,_)] ⟨rfl,rfl,rfl,rfl,rfl,rfl,rfl,rfl,rfl,trivial⟩ [] rfl [] rfl ((by omega)) ⟨rfl,rfl,trivial⟩ (fun j hj3=> ?_)
   refine ah<|ah<|aj<|hy (fun _=>aa rfl)<|hy (fun _=>bk rfl rfl)<|ai<|al (ρ' :=[(38,_),(8,_),(9,_),(27,_),(7,_),(6,_),(16,_),(3,_),(5,_),(4,_),(2,_),(0,_)]) ⟨rfl,rfl,rfl,rfl,rfl,rfl,rfl,rfl,rfl,rfl,rfl,rfl,trivial⟩<|ag<| ?_
   refine cI rfl (fun hj=> ?_) (fun hj=> ?_)
   ·refine aC<|ag<|ah<|aN<|aj<|hy (fun _=>aa rfl)<|hy (fun _=>yV (qu (b:=256) (by decide) rfl rfl) ((rfl:_=Wd (qw (F.getD (i/4) 0) (j+1)))))<|hy (fun _=>ab rfl)<|ai<|al (ρ' :=[(8,_),(38,_),(9,_),(27,_),(7,_),(6,_),(16,_),(3,_),(5,_),(4,_),(2,_),(0,_)]) ⟨rfl,rfl,rfl,rfl,rfl,rfl,rfl,rfl,rfl,rfl,rfl,rfl,trivial⟩<|aW<|ag<|aj<|hy (fun _=>aa rfl)<|hy (fun _=>yV (aM rfl rfl (bB (by omega) (by omega))) ((show Value.int .i64 (((i % 4+j:Nat):Int)+1)= .int .i64 ((i % 4+(j+1):Nat):Int)from congrArg (Value.int .i64) (by omega))))<|hy (fun _=>ab rfl)<|ai<|al (ρ' :=[(9,_),(8,_),(38,_),(27,_),(7,_),(6,_),(16,_),(3,_),(5,_),(4,_),(2,_),(0,_)]) ⟨rfl,rfl,rfl,rfl,rfl,rfl,rfl,rfl,rfl,rfl,rfl,rfl,trivial⟩<| ?_
    refine cS (j+1) ⟨rfl,rfl,rfl,rfl,rfl,rfl,rfl,rfl,rfl,rfl,rfl,trivial⟩ [0,0,0] rfl [0,1,2] rfl (by omega) (by omega)
   ·have hj:j=3-i % 4:=by omega
    subst hj
    have hbyte:(eO F)[i]? =some (UInt8.ofNat (qw (F.getD (i/4) 0) (3-i % 4) % 256).toNat):=by
     rw[←CC _ (by omega),←pO F (i/4) (i % 4) (by omega) (by omega)]
     congr 1;omega
    have hri:List.replicate (32-i) (0:UInt8)=0::List.replicate (32-(i+1)) 0:=by rw[show 32-i=(32-(i+1))+1 by omega];rfl
    have hti:(eO F).take (i+1)=(eO F).take i++[UInt8.ofNat (qw (F.getD (i/4) 0) (3-i % 4) % 256).toNat]:=by
     rw[List.take_add_one,hbyte];rfl
    refine bS<|ar<|ar<|aE<|ag<|aj<|hy (fun _=>aa rfl)<|hy (fun _=>aa rfl)<|hy (fun _=>wM (b:=256) (by decide) rfl rfl)<|hy (fun _=>yU rfl Tryz.underlying166 Tryz.underlying5)<|hy (fun _=>bV rfl rfl Tryz.underlying53 dE rfl (by omega))<| ?_
    refine cN (ct 0 rfl rfl rfl dE rfl (by rw[ax,List.length_append,List.length_take,List.length_replicate];omega) ?_)
    refine ai<|al (ρ' :=[(38,_),(8,_),(9,_),(27,_),(7,_),(6,_),(16,_),(3,_),(5,_),(4,_),(2,_),(0,_)]) ⟨rfl,rfl,rfl,rfl,rfl,rfl,rfl,rfl,rfl,rfl,rfl,rfl,trivial⟩<|ak (X' :=[_,_,_]) (S' :=[_,_,_]) (fun _ m=>m)<|aW<|ag<|aj<|hy (fun _=>aa rfl)<|hy (fun _=>aM rfl rfl (bB (by omega) (by omega)))<|hy (fun _=>ab rfl)<|ai<|al (ρ' :=[(7,_),(38,_),(8,_),(9,_),(27,_),(6,_),(16,_),(3,_),(5,_),(4,_),(2,_),(0,_)]) ⟨rfl,rfl,rfl,rfl,rfl,rfl,rfl,rfl,rfl,rfl,rfl,rfl,trivial⟩<| ?_
    refine ak (fun w m=>m.bQ 0 rfl (show _=aH g6 53 (aK ((eO F).take (i+1)++List.replicate (32-(i+1)) 0))from by rw[hri,Nat.zero_add,hti];exact congrArg (aH _ _) (x5 (by rw[List.length_take];omega)))) ?_
    refine cS (i+1) ⟨rfl,rfl,rfl,rfl,rfl,rfl,rfl,rfl,trivial⟩ [0,0,0] rfl [0,1,2] rfl (by omega) (by omega)
  ·obtain rfl:i=32:=by omega
   refine bD (fun w m=>m.bQ 0 rfl (show _=aH g6 53 (aK (bF l))from by rw[List.take_of_length_le (by omega),←hsha];simp)) ?_
   refine bS<|ar<|ar<|aE<|ag<|ah<|aj<|hy (fun m=>yV (aR rfl b5 bj (by rw[ax,bh]) ((m.aT 0 rfl).au)) ((rfl:_=Value.agg (aK (bF l)).toArray)))<| ?_
   refine cN (aG 2 rfl rfl rfl bj (by rw[ax,bh]) aS rfl ?_)
   refine ai<|al (ρ' :=[(27,_),(7,_),(6,_),(16,_),(3,_),(5,_),(4,_),(2,_),(0,_)]) ⟨rfl,rfl,rfl,rfl,rfl,rfl,rfl,rfl,rfl,trivial⟩<|ak (X' :=[_,_,_]) (S' :=[_,_,_]) (fun _ m=>m)<|ag<|aQ<| ?_
   exact gw trivial rfl rfl b5 bj (by rw[ax,bh]) (fun m=>(m.aT 0 rfl).au) [] rfl [] rfl ⟨rfl,rfl,rfl⟩
end Go.Proofs.YtmibdabdlgmafaaGreatDoor
end
section
set_option maxRecDepth 20000
set_option maxHeartbeats 4000000
namespace Go.Proofs.YtmibdabdlgmafaaGreatDoor
open Go.Eng Go.Hx
theorem uh{nm:List UInt8}(hm:nm.length=32):cj Tryz.prog 98 [.agg (aK nm).toArray] [] [] (fun v_ X_ S_=>v_=(.string (strOf (cd nm)))∧X_=[]∧S_=[]):=by
 have hhl:(b8 nm).length=64:=by rw[dI,hm]
 refine aU (N:=6) Tryz.func98 rfl rfl (by simp) fun b=> ?_
 refine ah<|aj<| ?_
 refine hx (cp rfl (fun g1=> ?_))
 refine aV (fun w m=>m.bQ 0 rfl (show _=aH g1 53 (aK nm)from congrArg (aH _ _) (bq _))) ?_
 refine hy (fun _=>ab rfl)<|ai<|ak (X' :=[_]) (S' :=[]) (fun _ m=>m)<|ag<|ah<|aj<|hy (fun m=>aR rfl b5 bj (by rw[ax];exact hm) ((m.aT 0 rfl).au))<| ?_
 refine hx (aq rfl Tryz.call111 (uH hm) [] rfl [] rfl ?_)
 rintro _ _ _ ⟨rfl,rfl,rfl⟩
 refine hy (fun _=>yV (iR rfl rfl (iJ (a:=[116,47]) (b:=b8 nm) (by simp[hhl]))) ((show Value.string (strOf [116,47]++strOf (b8 nm))= .string (strOf (cd nm))from congrArg Value.string (dk _ _))))<|hy (fun _=>ab rfl)<|ai<|al (ρ' :=[(2,_),(1,_),(0,_)]) ⟨rfl,rfl,rfl,trivial⟩<|ak (X' :=[_]) (S' :=[]) (fun _ m=>m)<|ag<|aQ<| ?_
 exact bd trivial rfl rfl [] rfl [] rfl ⟨rfl,rfl,rfl⟩
theorem AY{x:RX}{kk:Nat}{nm:List UInt8}(ok:xO x.d kk)(hkk:kk≤100000)(hm:nm.length=32)(hrd:(x.d.cR (bz nm)).length≤10000000):cj Tryz.prog 74 [.agg x.cs.toArray,.agg (aK nm).toArray] [] [cY x,eU] (fun v_ X_ S_=>v_=(.tuple #[.string (strOf (x.d.jd nm)),.int .i64 (x.d.fS nm)])∧X_=[]∧S_=[]):=by
 have h32:(aK nm).length=32:=by rw[ax,hm]
 refine aU (N:=34) Tryz.func74 rfl rfl (by simp) fun b=> ?_
 refine ah<|aj<| ?_
 refine hx (cp rfl (fun g2=> ?_))
 refine aV (fun w m=>m.bQ 0 rfl (show _=aH g2 39 x.cs from congrArg (aH _ _) (bq _))) ?_
 refine hx (cp rfl (fun g3=> ?_))
 refine aV (fun w m=>m.bQ 0 rfl (show _=aH g3 53 (aK nm)from congrArg (aH _ _) (bq _))) ?_
 refine hy (fun _=>ab rfl)<|hy (fun _=>ab rfl)<|ai<|ak (X' :=[_,_]) (S' :=[_,_]) (fun _ m=>m)<|ag<|ah<|cV [2,3] [(0,some 1),(1,some 0),(2,none),(3,none),(4,some 2),(5,some 2),(6,some 2),(7,some 2),(8,some 2)] (by kernel_rfl) (by kernel_rfl) rfl 99<|cn (fun m=>yV (aR rfl cz bp rfl ((m.aT 1 rfl).au)) ((rfl:_=Value.agg x.cs.toArray)))<|cn (fun m=>aR rfl b5 bj h32 ((m.aT 0 rfl).au))<| ?_
 refine eK (aq rfl Tryz.call29 (nI hm) [] rfl [] rfl ?_)
 rintro _ _ _ ⟨rfl,rfl,rfl⟩
 refine⟨(fun _=>wk [0,0] [0,1] rfl rfl), ?_⟩
 refine eK (aq rfl Tryz.call91 (ym ok hkk (p:=(bz nm))) [] rfl [0] rfl ?_)
 rintro _ _ _ ⟨rfl,rfl,rfl⟩
 refine⟨(fun _=>wk [0,0] [0,1] rfl rfl), ?_⟩
 refine an (aa rfl)<|an (ao rfl rfl)<|an (ao rfl rfl)<|an (ab rfl)<|an (ab rfl)<|bE<|al (ρ' :=[(7,_),(6,_),(5,_),(4,_),(3,_),(2,_),(0,_),(1,_)]) ⟨rfl,rfl,rfl,rfl,rfl,rfl,rfl,rfl,trivial⟩<|ak (X' :=[_,_]) (S' :=[_,_]) (fun _ m=>m)<|ag<|ah<|ah<|aj<|hy (fun _=>aa rfl)<|hy (fun _=>cM rfl rfl)<|ai<|al (ρ' :=[(18,_),(7,_),(6,_),(5,_),(4,_),(3,_),(2,_),(0,_),(1,_)]) ⟨rfl,rfl,rfl,rfl,rfl,rfl,rfl,rfl,rfl,trivial⟩<|ag<| ?_
 refine cI rfl (fun h=> ?_) (fun h=> ?_)
 ·rw[ko h,jq (by rw[ko h];exact h)]
  refine ah<|aj<|hy (fun _=>aa rfl)<|hy (fun _=>ab rfl)<|hy (fun _=>ab rfl)<|ai<|al (ρ' :=[(5,_),(4,_),(18,_),(7,_),(6,_),(3,_),(2,_),(0,_),(1,_)]) ⟨rfl,rfl,rfl,rfl,rfl,rfl,rfl,rfl,rfl,trivial⟩<|ag<|aQ<|ay<| ?_
  exact cW trivial rfl rfl rfl [] rfl [] rfl ⟨rfl,rfl,rfl⟩
 ·have h1:=Decidable.not_not.1 h
  have hbs:(bytesOf (strOf (x.d.cR (bz nm)))).length=(x.d.cR (bz nm)).length:=rfl
  have hol:=mx (f:=x.d.cR (bz nm)) (most:=4096) (by decide)
  refine aC<|ag<|ah<|aj<|hy (fun _=>aa rfl)<| ?_
  refine hx (tk rfl Tryz.underlying9 Tryz.underlying27 Tryz.underlying5 (show(x.d.cR (bz nm)).length≤maxLen by unfold maxLen;omega) (fun v22=> ?_))
  refine aw (fun m=>(m.own 0 rfl).slice) ?_
  rintro⟨A_b22,c_b22,rfl,hc_b22⟩
  refine aw (fun m=>(m.ord 0 rfl).2.1) fun hA_b22=> ?_
  refine aV (fun w m=>m.bQ 0 rfl (show _=aF 5 1 (.slice A_b22 (x.d.cR (bz nm)).length c_b22) (x.d.cR (bz nm)).length (aK (x.d.cR (bz nm)))from rfl)) ?_
  refine aV (fun w m=>(m.perm (az [0] _ [_] _ rfl)).freeze) ?_
  refine aV (fun w m=>m.lq 0 rfl .own) ?_
  refine hx (aq rfl Tryz.call156 (CN hc_b22 rfl hrd (show(4096:Int)≤1000000 by decide) (f:=(x.d.cR (bz nm)))) [] rfl [0] rfl ?_)
  rintro _ _ _ ⟨A1,c1,rfl,rfl,rfl,hp⟩
  refine aw (fun m=>fG (m.rd 0 rfl)) ?_
  rintro⟨hl_q,hA_q⟩
  refine hy (fun _=>aa rfl)<|hy (fun _=>ao rfl rfl)<|hy (fun _=>ao rfl rfl)<|hy (fun _=>ab rfl)<|hy (fun _=>ab rfl)<|ai<|al (ρ' :=[(9,_),(8,_),(18,_),(7,_),(6,_),(5,_),(4,_),(3,_),(2,_),(0,_),(1,_)]) ⟨rfl,rfl,rfl,rfl,rfl,rfl,rfl,rfl,rfl,rfl,rfl,trivial⟩<|ak (X' :=[_,_]) (S' :=[_,_,_,_,_]) (fun _ m=>m)<|ag<|ah<|ah<|aj<|hy (fun _=>aa rfl)<|hy (fun _=>cM rfl rfl)<|ai<|al (ρ' :=[(27,_),(9,_),(8,_),(18,_),(7,_),(6,_),(5,_),(4,_),(3,_),(2,_),(0,_),(1,_)]) ⟨rfl,rfl,rfl,rfl,rfl,rfl,rfl,rfl,rfl,rfl,rfl,rfl,trivial⟩<|ag<| ?_
  refine cI rfl (fun h2=> ?_) (fun h2=> ?_)
  ·have hE:=lI (d:=x.d) (nm:=nm) h1 (.inl h2)
   rw[hE,jq (by rw[hE];decide)]
   refine ah<|aj<|hy (fun _=>ab rfl)<|hy (fun _=>ab rfl)<|ai<|ag<|aQ<|ay<| ?_
   exact cW trivial rfl rfl rfl [] rfl [] rfl ⟨rfl,rfl,rfl⟩
  ·have h2:=Decidable.not_not.1 h2
   refine aC<|ag<|ah<|ah<|cV [1] [(0,some 0),(2,some 1),(1,none),(3,some 1)] (by kernel_rfl) (by kernel_rfl) rfl 99<|an (aa rfl)<|cn (fun m=>aR rfl b5 bj h32 ((m.aT 0 rfl).au))<| ?_
   refine eK (aq rfl Tryz.call56 (lK (by omega)) [] rfl [0] rfl ?_)
   rintro _ _ _ ⟨rfl,rfl,rfl⟩
   refine⟨(fun _=>wk [0,0] [0,1,2,3,4] rfl rfl), ?_⟩
   refine an (u4 rfl rfl (bh _) hm)<|bE<|al (ρ' :=[(31,_),(27,_),(9,_),(8,_),(18,_),(7,_),(6,_),(5,_),(4,_),(3,_),(2,_),(0,_),(1,_)]) ⟨rfl,rfl,rfl,rfl,rfl,rfl,rfl,rfl,rfl,rfl,rfl,rfl,rfl,trivial⟩<|ak (X' :=[_,_]) (S' :=[_,_,_,_,_]) (fun _ m=>m)<|ag<| ?_
   refine cI rfl (fun h3=> ?_) (fun h3=> ?_)
   ·have hE:=lI (d:=x.d) (nm:=nm) h1 (.inr h3)
    rw[hE,jq (by rw[hE];decide)]
    refine ah<|aj<|hy (fun _=>ab rfl)<|hy (fun _=>ab rfl)<|ai<|ag<|aQ<|ay<| ?_
    exact cW trivial rfl rfl rfl [] rfl [] rfl ⟨rfl,rfl,rfl⟩
   ·have hE:=tZ (d:=x.d) (nm:=nm) h1 (fun q=>q.elim (fun q=>q h2) h3)
    rw[hE,nG hE]
    refine aC<|ag<|ah<|aj<|hy (fun _=>aa rfl)<|hy (fun m=>eZ rfl Tryz.underlying27 Tryz.underlying5 Tryz.underlying9 (m.rd 0 rfl))<|hy (fun _=>ab rfl)<|hy (fun _=>ab rfl)<|ai<|al (ρ' :=[(5,_),(4,_),(31,_),(27,_),(9,_),(8,_),(18,_),(7,_),(6,_),(3,_),(2,_),(0,_),(1,_)]) ⟨rfl,rfl,rfl,rfl,rfl,rfl,rfl,rfl,rfl,rfl,rfl,rfl,rfl,trivial⟩<|ag<|aQ<| ?_
    exact cW trivial rfl rfl rfl [] rfl [] rfl ⟨rfl,rfl,rfl⟩
theorem BW{d:RD}{bb:List UInt8}(h:d.bZ (cd (bF bb)) (b4 bb)≠0):d.jK bb=(d.write (cd (bF bb)) (b4 bb),d.bZ (cd (bF bb)) (b4 bb)):=by
 unfold RD.jK
 rw[iz]
 exact if_pos h
theorem BM{d:RD}{bb:List UInt8}(h:d.bZ (cd (bF bb)) (b4 bb)=0)(h2:(d.write (cd (bF bb)) (b4 bb)).ei≠0):d.jK bb=((d.write (cd (bF bb)) (b4 bb)).sync,(d.write (cd (bF bb)) (b4 bb)).ei):=by
 unfold RD.jK
 rw[iz,if_neg (by show¬d.bZ _ _≠0;rw[h];decide),iz]
 exact if_pos h2
theorem CX{d:RD}{bb:List UInt8}(h:d.bZ (cd (bF bb)) (b4 bb)=0)(h2:(d.write (cd (bF bb)) (b4 bb)).ei=0)(h3:(d.write (cd (bF bb)) (b4 bb)).sync.cw (cd (bF bb)) (bz (bF bb))≠0):d.jK bb=((d.write (cd (bF bb)) (b4 bb)).sync.rename (cd (bF bb)) (bz (bF bb)),(d.write (cd (bF bb)) (b4 bb)).sync.cw (cd (bF bb)) (bz (bF bb))):=by
 unfold RD.jK
 rw[iz,if_neg (by show¬d.bZ _ _≠0;rw[h];decide),iz,if_neg (by show¬(d.write _ _).ei≠0;rw[h2];decide),iz]
 exact if_pos h3
theorem BP{d:RD}{bb:List UInt8}(h:d.bZ (cd (bF bb)) (b4 bb)=0)(h2:(d.write (cd (bF bb)) (b4 bb)).ei=0)(h3:(d.write (cd (bF bb)) (b4 bb)).sync.cw (cd (bF bb)) (bz (bF bb))=0):d.jK bb=(((d.write (cd (bF bb)) (b4 bb)).sync.rename (cd (bF bb)) (bz (bF bb))).sync,((d.write (cd (bF bb)) (b4 bb)).sync.rename (cd (bF bb)) (bz (bF bb))).ei):=by
 unfold RD.jK
 rw[iz,if_neg (by show¬d.bZ _ _≠0;rw[h];decide),iz,if_neg (by show¬(d.write _ _).ei≠0;rw[h2];decide),iz,if_neg (by show¬((d.write _ _).sync).cw _ _≠0;rw[h3];decide),iz]
 by_cases h4:(ld (qq (cd (bF bb)) (bz (bF bb)) (ld (qQ (cd (bF bb)) (b4 bb) d).1).1).1).2=0
 ·rw[if_neg (fun q=>q h4)]
  exact Prod.ext rfl h4.symm
 ·rw[if_pos h4];rfl
theorem lO{d:RD}{bb:List UInt8}(hn:¬4096<bb.length)(h6:d.fS (bF bb)≠6)(h0:d.fS (bF bb)≠0){d' :RD}{e:Int}(h:d.jK bb=(d',e)):d.put bb=(d',if e=0 then bF bb else dX,e):=by
 unfold RD.put;rw[if_neg hn,if_neg h6,if_neg h0,h]
theorem jR{x:RX}{kk:Nat}{A:Option Addr}{n c:Nat}{bb:List UInt8}(hD:x.d.ok kk)(hkk:kk≤90000)(hc:n≤c)(hl:bb.length=n)(hn:n≤100000):cj Tryz.prog 26 [.agg x.cs.toArray,.slice A n c] [] [cY x,dw 1 A n (aK bb),eU] (fun v_ X_ S_=>∃y,v_=(.tuple #[.agg y.cs.toArray,.agg (aK (x.d.put bb).2.1).toArray,.int .i64 (x.d.put bb).2.2])∧X_=[]∧S_=[cY y]∧(y.d=(x.d.put bb).1)):=by
 have hm:=bh bb
 have h32:(aK (bF bb)).length=32:=by rw[ax,hm]
 have z32:(aK dX).length=32:=by rw[ax,fb]
 obtain⟨s0,s1⟩:=rP bb
 have hrd:(x.d.cR (bz (bF bb))).length≤10000000:=by
  obtain⟨st,hst⟩:=hD
  have:=hst.tz (bz (bF bb))
  omega
 have ok1:=hD.write (p:=cd (bF bb)) (l:=b4 bb) (by omega)
 have okr:=hD.ny
 have okr1:=ok1.ny
 have okr2:=ok1.sync.ny
 have okr3:=ok1.sync.rename (a:=cd (bF bb)) (c:=bz (bF bb))|>.ny
 refine aU (N:=74) Tryz.func26 rfl rfl (by simp) fun b=> ?_
 refine ba (fun m=>fG (m.rd 1 rfl)) ?_
 rintro⟨hl_rb,hA_rb⟩
 refine ah<|aj<| ?_
 refine hx (cp rfl (fun g2=> ?_))
 refine aV (fun w m=>m.bQ 0 rfl (show _=aH g2 39 x.cs from congrArg (aH _ _) (bq _))) ?_
 refine hx (aJ fB (fun g4=> ?_))
 refine hx (aJ cX (fun g5=> ?_))
 refine hy (fun _=>ab rfl)<|ai<|ak (X' :=[_,_,_]) (S' :=[_,_,_]) (fun _ m=>m)<|ag<|ah<|ah<|aj<|hy (fun _=>aa rfl)<|hy (fun _=>aX rfl Tryz.underlying27)<|hy (fun _=>cF rfl rfl)<|ai<|al (ρ' :=[(12,_),(6,_),(5,_),(4,_),(2,_),(0,_),(1,_)]) ⟨rfl,rfl,rfl,rfl,rfl,rfl,rfl,trivial⟩<|ag<| ?_
 refine cI rfl (fun hbig=> ?_) (fun hbig=> ?_)
 ·have e0:x.d.put bb=(x.d,dX,3):=uM (by omega)
  rw[e0]
  refine ah<|aj<|hy (fun m=>yV (aR rfl cz bp rfl ((m.aT 2 rfl).au)) ((rfl:_=Value.agg x.cs.toArray)))<|hy (fun _=>yV (cK cX rfl (by kernel_rfl)) ((rfl:_=Value.agg (aK dX).toArray)))<| ?_
  refine cN (aG 1 rfl rfl rfl bp rfl bP rfl ?_)
  refine cN (aG 1 rfl rfl rfl bj z32 aS rfl ?_)
  refine hy (fun _=>ab rfl)<|ai<|al (ρ' :=[(6,_),(12,_),(5,_),(4,_),(2,_),(0,_),(1,_)]) ⟨rfl,rfl,rfl,rfl,rfl,rfl,rfl,trivial⟩<|ak (X' :=[_,_,_]) (S' :=[_,_,_]) (fun _ m=>m)<|ag<|aQ<|ay<| ?_
  exact ff trivial rfl rfl rfl rfl cz bp rfl (fun m=>(m.aT 1 rfl).au) b5 bj z32 (fun m=>(m.aT 0 rfl).au) [] rfl [0] rfl ⟨x,rfl,rfl,rfl,rfl⟩
 ·have hbg:¬4096<bb.length:=by omega
  refine aC<|ag<|ah<|aj<|hy (fun _=>aa rfl)<| ?_
  refine hx (aq rfl Tryz.call56 (lK (by omega)) [] rfl [1] rfl ?_)
  rintro _ _ _ ⟨rfl,rfl,rfl⟩
  refine hx (aJ cX (fun g7=> ?_))
  refine cN (aG 0 rfl rfl rfl bj h32 aS rfl ?_)
  refine ai<|al (ρ' :=[(7,_),(12,_),(6,_),(5,_),(4,_),(2,_),(0,_),(1,_)]) ⟨rfl,rfl,rfl,rfl,rfl,rfl,rfl,rfl,trivial⟩<|ak (X' :=[_,_,_,_]) (S' :=[_,_,_]) (fun _ m=>m)<|ag<|ah<|aj<|hy (fun m=>yV (aR rfl cz bp rfl ((m.aT 3 rfl).au)) ((rfl:_=Value.agg x.cs.toArray)))<|hy (fun m=>aR rfl b5 bj h32 ((m.aT 0 rfl).au))<| ?_
  refine hx (aq rfl Tryz.call74 (AY okr (by omega) hm hrd) [] rfl [0,2] rfl ?_)
  rintro _ _ _ ⟨rfl,rfl,rfl⟩
  refine hy (fun _=>aa rfl)<|hy (fun _=>ao rfl rfl)<|hy (fun _=>ao rfl rfl)<|hy (fun _=>ab rfl)<|hy (fun _=>ab rfl)<|ai<|al (ρ' :=[(9,_),(7,_),(12,_),(6,_),(5,_),(4,_),(2,_),(0,_),(1,_)]) ⟨rfl,rfl,rfl,rfl,rfl,rfl,rfl,rfl,rfl,trivial⟩<|ak (X' :=[_,_,_,_]) (S' :=[_,_,_]) (fun _ m=>m)<|ag<|ah<|ah<|aj<|hy (fun _=>aa rfl)<|hy (fun _=>cy rfl rfl)<|ai<|al (ρ' :=[(24,_),(9,_),(7,_),(12,_),(6,_),(5,_),(4,_),(2,_),(0,_),(1,_)]) ⟨rfl,rfl,rfl,rfl,rfl,rfl,rfl,rfl,rfl,rfl,trivial⟩<|ag<| ?_
  refine cI rfl (fun h0=> ?_) (fun h0=> ?_)
  ·have e0:x.d.put bb=(x.d,bF bb,0):=by unfold RD.put;rw[if_neg hbg,if_neg (by rw[h0];decide),if_pos h0]
   rw[e0]
   refine ah<|ve [0,1,2,3] (.alt 0 (.alt 1 (.alt 2 (.alt 3 (.take 4 4<|.done) (.stop)) (.stop)) (.alt 2 (.alt 1 (.alt 3 (.take 4 4<|.done) (.stop)) (.stop)) (.stop))) (.alt 1 (.alt 0 (.alt 2 (.alt 3 (.take 4 4<|.done) (.stop)) (.stop)) (.stop)) (.stop))) (by kernel_rfl) (by kernel_rfl) rfl 1<| ?_
   refine c5 ?_ ?_
   ·refine dL<|fj (fun m=>yV (aR rfl cz bp rfl ((m.aT 3 rfl).au)) ((rfl:_=Value.agg x.cs.toArray)))<|And.intro (fun _=>wk [0,0,0,0] [0,1,2] rfl rfl)<| ?_
    refine c5 ?_ ?_
    ·refine dL<|fj (fun m=>aR rfl b5 bj h32 ((m.aT 0 rfl).au))<|And.intro (fun h=>absurd h (by decide))<| ?_
     refine dC (aG 2 rfl rfl rfl bp rfl bP rfl ⟨(fun h=>absurd h (by decide)), ?_⟩)
     refine dC (aG 2 rfl rfl rfl bj h32 aS rfl ⟨(fun h=>absurd h (by decide)), ?_⟩)
     refine bw (ab rfl)<|dD<|al (ρ' :=[(6,_),(24,_),(9,_),(7,_),(12,_),(5,_),(4,_),(2,_),(0,_),(1,_)]) ⟨rfl,rfl,rfl,rfl,rfl,rfl,rfl,rfl,rfl,rfl,trivial⟩<|ak (X' :=[_,_,_,_]) (S' :=[_,_,_]) (fun _ m=>m)<|ag<|aQ<|ay<| ?_
     exact ff trivial rfl rfl rfl rfl cz bp rfl (fun m=>(m.aT 1 rfl).au) b5 bj h32 (fun m=>(m.aT 0 rfl).au) [] rfl [0] rfl ⟨x,rfl,rfl,rfl,rfl⟩
    ·refine dC (aG 2 rfl rfl rfl bp rfl bP rfl ⟨(fun h=>absurd h (by decide)), ?_⟩)
     refine dL<|fj (fun m=>aR rfl b5 bj h32 ((m.aT 1 rfl).au))<|And.intro (fun h=>absurd h (by decide))<| ?_
     refine dC (aG 2 rfl rfl rfl bj h32 aS rfl ⟨(fun h=>absurd h (by decide)), ?_⟩)
     refine bw (ab rfl)<|dD<|al (ρ' :=[(6,_),(24,_),(9,_),(7,_),(12,_),(5,_),(4,_),(2,_),(0,_),(1,_)]) ⟨rfl,rfl,rfl,rfl,rfl,rfl,rfl,rfl,rfl,rfl,trivial⟩<|ak (X' :=[_,_,_,_]) (S' :=[_,_,_]) (fun _ m=>m)<|ag<|aQ<|ay<| ?_
     exact ff trivial rfl rfl rfl rfl cz bp rfl (fun m=>(m.aT 1 rfl).au) b5 bj h32 (fun m=>(m.aT 0 rfl).au) [] rfl [0] rfl ⟨x,rfl,rfl,rfl,rfl⟩
   ·refine dL<|fj (fun m=>aR rfl b5 bj h32 ((m.aT 0 rfl).au))<|And.intro (fun _=>wk [0,0,0,0] [0,1,2] rfl rfl)<|dL<|fj (fun m=>yV (aR rfl cz bp rfl ((m.aT 3 rfl).au)) ((rfl:_=Value.agg x.cs.toArray)))<|And.intro (fun h=>absurd h (by decide))<| ?_
    refine dC (aG 2 rfl rfl rfl bp rfl bP rfl ⟨(fun h=>absurd h (by decide)), ?_⟩)
    refine dC (aG 2 rfl rfl rfl bj h32 aS rfl ⟨(fun h=>absurd h (by decide)), ?_⟩)
    refine bw (ab rfl)<|dD<|al (ρ' :=[(6,_),(24,_),(9,_),(7,_),(12,_),(5,_),(4,_),(2,_),(0,_),(1,_)]) ⟨rfl,rfl,rfl,rfl,rfl,rfl,rfl,rfl,rfl,rfl,trivial⟩<|ak (X' :=[_,_,_,_]) (S' :=[_,_,_]) (fun _ m=>m)<|ag<|aQ<|ay<| ?_
    exact ff trivial rfl rfl rfl rfl cz bp rfl (fun m=>(m.aT 1 rfl).au) b5 bj h32 (fun m=>(m.aT 0 rfl).au) [] rfl [0] rfl ⟨x,rfl,rfl,rfl,rfl⟩
  ·refine aC<|ag<|ah<|ah<|aj<|hy (fun _=>aa rfl)<|hy (fun _=>cy rfl rfl)<|ai<|al (ρ' :=[(28,_),(24,_),(9,_),(7,_),(12,_),(6,_),(5,_),(4,_),(2,_),(0,_),(1,_)]) ⟨rfl,rfl,rfl,rfl,rfl,rfl,rfl,rfl,rfl,rfl,rfl,trivial⟩<|ag<| ?_
   refine cI rfl (fun h6=> ?_) (fun h6=> ?_)
   ·have e0:x.d.put bb=(x.d,dX,6):=by unfold RD.put;rw[if_neg hbg,if_pos h6]
    rw[e0,h6]
    refine ah<|aj<|hy (fun m=>yV (aR rfl cz bp rfl ((m.aT 3 rfl).au)) ((rfl:_=Value.agg x.cs.toArray)))<|hy (fun _=>yV (cK cX rfl (by kernel_rfl)) ((rfl:_=Value.agg (aK dX).toArray)))<|hy (fun _=>aa rfl)<| ?_
    refine cN (aG 2 rfl rfl rfl bp rfl bP rfl ?_)
    refine cN (aG 2 rfl rfl rfl bj z32 aS rfl ?_)
    refine hy (fun _=>ab rfl)<|ai<|al (ρ' :=[(6,_),(28,_),(24,_),(9,_),(7,_),(12,_),(5,_),(4,_),(2,_),(0,_),(1,_)]) ⟨rfl,rfl,rfl,rfl,rfl,rfl,rfl,rfl,rfl,rfl,rfl,trivial⟩<|ak (X' :=[_,_,_,_]) (S' :=[_,_,_]) (fun _ m=>m)<|ag<|aQ<|ay<| ?_
    exact ff trivial rfl rfl rfl rfl cz bp rfl (fun m=>(m.aT 1 rfl).au) b5 bj z32 (fun m=>(m.aT 0 rfl).au) [] rfl [0] rfl ⟨x,rfl,rfl,rfl,rfl⟩
   ·refine aC<|ag<|ah<|cV [2,4,5,6,10] [(0,some 3),(1,some 0),(3,some 1),(2,none),(4,none),(5,none),(6,none),(7,some 4),(8,some 4),(9,some 5),(10,none),(11,some 5)] (by kernel_rfl) (by kernel_rfl) rfl 4<|cn (fun m=>yV (aR rfl cz bp rfl ((m.aT 3 rfl).au)) ((rfl:_=Value.agg x.cs.toArray)))<|cn (fun m=>aR rfl b5 bj h32 ((m.aT 0 rfl).au))<|an (aa rfl)<| ?_
    refine eK (aq rfl Tryz.call98 (uh hm) [] rfl [] rfl ?_)
    rintro _ _ _ ⟨rfl,rfl,rfl⟩
    refine⟨(fun _=>wk [0,0,0,0] [0,1,2] rfl rfl), ?_⟩
    refine eK (aq rfl Tryz.call81 (CD hc (by omega) hl) [] rfl [1] rfl ?_)
    rintro _ _ _ ⟨v,rfl,rfl,rfl⟩
    refine⟨(fun _=>wk [1,1,1,1] [0,1,2] rfl rfl), ?_⟩
    refine cP (fun m=>(m.own 0 rfl).slice) ?_
    rintro⟨A_x,c_x,rfl,hc_x⟩
    refine cP (fun m=>(m.ord 0 rfl).2.1) fun hA_x=> ?_
    refine Cw (fun _=>wk [1,1,1,1] [0,1,2] rfl rfl) (fun m=>eZ rfl Tryz.underlying27 Tryz.underlying5 Tryz.underlying9 (m.ord 0 rfl))<| ?_
    refine eK (aq rfl Tryz.call31 (dZ okr (by omega) (by rw[kM hm];decide) (by omega) (p:=(cd (bF bb))) (bb:=(b4 bb))) [] rfl [0] rfl ?_)
    rintro _ _ _ ⟨y,rfl,rfl,rfl,hd1⟩
    refine⟨(fun _=>wk [1,1,1,1] [1,2,3] rfl rfl), ?_⟩
    refine an (aa rfl)<|an (ao rfl rfl)<|an (ao rfl rfl)<| ?_
    refine ja (aG 4 rfl rfl rfl bp rfl bP rfl ⟨(fun h=>absurd h (by decide)), ?_⟩)
    refine an (ab rfl)<|bE<|al (ρ' :=[(9,_),(28,_),(24,_),(7,_),(12,_),(6,_),(5,_),(4,_),(2,_),(0,_),(1,_)]) ⟨rfl,rfl,rfl,rfl,rfl,rfl,rfl,rfl,rfl,rfl,rfl,trivial⟩<|ak (X' :=[_,_,_,_,_]) (S' :=[_,_,_,_]) (fun _ m=>m)<|ag<|ah<|ah<|aj<|hy (fun _=>aa rfl)<|hy (fun _=>cy rfl rfl)<|ai<|al (ρ' :=[(43,_),(9,_),(28,_),(24,_),(7,_),(12,_),(6,_),(5,_),(4,_),(2,_),(0,_),(1,_)]) ⟨rfl,rfl,rfl,rfl,rfl,rfl,rfl,rfl,rfl,rfl,rfl,rfl,trivial⟩<|ag<| ?_
    refine cI rfl (fun h1=> ?_) (fun h1=> ?_)
    ·refine aj<|hy (fun m=>yV (aR rfl cz bp rfl ((m.aT 0 rfl).au)) ((rfl:_=Value.agg y.cs.toArray)))<| ?_
     refine hx (aq rfl Tryz.call99 (yX (by rw[hd1];exact okr1)) [] rfl [0] rfl ?_)
     rintro _ _ _ ⟨y2,rfl,rfl,rfl,hd2⟩
     refine hy (fun _=>aa rfl)<|hy (fun _=>ao rfl rfl)<|hy (fun _=>ao rfl rfl)<| ?_
     refine cN (aG 0 rfl rfl rfl bp rfl bP rfl ?_)
     refine hy (fun _=>ab rfl)<|ai<|al (ρ' :=[(9,_),(43,_),(28,_),(24,_),(7,_),(12,_),(6,_),(5,_),(4,_),(2,_),(0,_),(1,_)]) ⟨rfl,rfl,rfl,rfl,rfl,rfl,rfl,rfl,rfl,rfl,rfl,rfl,trivial⟩<|ak (X' :=[_,_,_,_,_]) (S' :=[_,_,_,_,_]) (fun _ m=>m)<|ag<|ah<|ah<|aj<|hy (fun _=>aa rfl)<|hy (fun _=>cy rfl rfl)<|ai<|al (ρ' :=[(50,_),(9,_),(43,_),(28,_),(24,_),(7,_),(12,_),(6,_),(5,_),(4,_),(2,_),(0,_),(1,_)]) ⟨rfl,rfl,rfl,rfl,rfl,rfl,rfl,rfl,rfl,rfl,rfl,rfl,rfl,trivial⟩<|ag<| ?_
     refine cI rfl (fun h2=> ?_) (fun h2=> ?_)
     ·refine cV [2,4,5,9] [(0,some 2),(1,some 0),(3,some 1),(2,none),(4,none),(5,none),(6,some 3),(7,some 3),(8,some 4),(9,none),(10,some 4)] (by kernel_rfl) (by kernel_rfl) rfl 3<|cn (fun m=>yV (aR rfl cz bp rfl ((m.aT 0 rfl).au)) ((rfl:_=Value.agg y2.cs.toArray)))<|cn (fun m=>aR rfl b5 bj h32 ((m.aT 2 rfl).au))<|cn (fun m=>aR rfl b5 bj h32 ((m.aT 2 rfl).au))<| ?_
      refine eK (aq rfl Tryz.call98 (uh hm) [] rfl [] rfl ?_)
      rintro _ _ _ ⟨rfl,rfl,rfl⟩
      refine⟨(fun _=>wk [0,0,0,0,0] [0,1,2,3,4] rfl rfl), ?_⟩
      refine eK (aq rfl Tryz.call29 (nI hm) [] rfl [] rfl ?_)
      rintro _ _ _ ⟨rfl,rfl,rfl⟩
      refine⟨(fun _=>wk [0,0,0,0,0] [0,1,2,3,4] rfl rfl), ?_⟩
      refine eK (aq rfl Tryz.call100 (wR (by rw[hd2,hd1];exact okr2) (show kk+1≤100000 by omega) (by rw[e8 hm];decide) (a:=(cd (bF bb))) (c:=(bz (bF bb)))) [] rfl [0] rfl ?_)
      rintro _ _ _ ⟨y3,rfl,rfl,rfl,hd3⟩
      refine⟨(fun _=>wk [0,0,0,0,0] [1,2,3,4,5] rfl rfl), ?_⟩
      refine an (aa rfl)<|an (ao rfl rfl)<|an (ao rfl rfl)<| ?_
      refine ja (aG 0 rfl rfl rfl bp rfl bP rfl ⟨(fun h=>absurd h (by decide)), ?_⟩)
      refine an (ab rfl)<|bE<|al (ρ' :=[(9,_),(50,_),(43,_),(28,_),(24,_),(7,_),(12,_),(6,_),(5,_),(4,_),(2,_),(0,_),(1,_)]) ⟨rfl,rfl,rfl,rfl,rfl,rfl,rfl,rfl,rfl,rfl,rfl,rfl,rfl,trivial⟩<|ak (X' :=[_,_,_,_,_]) (S' :=[_,_,_,_,_,_]) (fun _ m=>m)<|ag<|ah<|ah<|aj<|hy (fun _=>aa rfl)<|hy (fun _=>cy rfl rfl)<|ai<|al (ρ' :=[(61,_),(9,_),(50,_),(43,_),(28,_),(24,_),(7,_),(12,_),(6,_),(5,_),(4,_),(2,_),(0,_),(1,_)]) ⟨rfl,rfl,rfl,rfl,rfl,rfl,rfl,rfl,rfl,rfl,rfl,rfl,rfl,rfl,trivial⟩<|ag<| ?_
      refine cI rfl (fun h3=> ?_) (fun h3=> ?_)
      ·have hP:=BP (d:=x.d) (bb:=bb) h1 (by rw[←hd1];exact h2) (by rw[←hd1,←hd2];exact h3)
       rw[←hd1,←hd2,←hd3]at hP
       have e0:=lO hbg h6 h0 hP
       refine aj<|hy (fun m=>yV (aR rfl cz bp rfl ((m.aT 0 rfl).au)) ((rfl:_=Value.agg y3.cs.toArray)))<| ?_
       refine hx (aq rfl Tryz.call99 (yX (by rw[hd3,hd2,hd1];exact okr3)) [] rfl [0] rfl ?_)
       rintro _ _ _ ⟨y4,rfl,rfl,rfl,hd4⟩
       refine hy (fun _=>aa rfl)<|hy (fun _=>ao rfl rfl)<|hy (fun _=>ao rfl rfl)<| ?_
       refine cN (aG 0 rfl rfl rfl bp rfl bP rfl ?_)
       refine hy (fun _=>ab rfl)<|ai<|al (ρ' :=[(9,_),(61,_),(50,_),(43,_),(28,_),(24,_),(7,_),(12,_),(6,_),(5,_),(4,_),(2,_),(0,_),(1,_)]) ⟨rfl,rfl,rfl,rfl,rfl,rfl,rfl,rfl,rfl,rfl,rfl,rfl,rfl,rfl,trivial⟩<|ak (X' :=[_,_,_,_,_]) (S' :=[_,_,_,_,_,_,_]) (fun _ m=>m)<|ag<|ah<|ah<|aj<|hy (fun _=>aa rfl)<|hy (fun _=>cM rfl rfl)<|ai<|al (ρ' :=[(68,_),(9,_),(61,_),(50,_),(43,_),(28,_),(24,_),(7,_),(12,_),(6,_),(5,_),(4,_),(2,_),(0,_),(1,_)]) ⟨rfl,rfl,rfl,rfl,rfl,rfl,rfl,rfl,rfl,rfl,rfl,rfl,rfl,rfl,rfl,trivial⟩<|ag<| ?_
       rw[←hd4]at e0
       refine cI rfl (fun h4=> ?_) (fun h4=> ?_)
       ·rw[if_neg h4]at e0
        rw[e0]
        refine ah<|aj<|hy (fun m=>yV (aR rfl cz bp rfl ((m.aT 0 rfl).au)) ((rfl:_=Value.agg y4.cs.toArray)))<|hy (fun _=>yV (cK cX rfl (by kernel_rfl)) ((rfl:_=Value.agg (aK dX).toArray)))<|hy (fun _=>aa rfl)<| ?_
        refine cN (aG 4 rfl rfl rfl bp rfl bP rfl ?_)
        refine cN (aG 4 rfl rfl rfl bj z32 aS rfl ?_)
        refine hy (fun _=>ab rfl)<|ai<|al (ρ' :=[(6,_),(68,_),(9,_),(61,_),(50,_),(43,_),(28,_),(24,_),(7,_),(12,_),(5,_),(4,_),(2,_),(0,_),(1,_)]) ⟨rfl,rfl,rfl,rfl,rfl,rfl,rfl,rfl,rfl,rfl,rfl,rfl,rfl,rfl,rfl,trivial⟩<|ak (X' :=[_,_,_,_,_]) (S' :=[_,_,_,_,_,_,_]) (fun _ m=>m)<|ag<|aQ<|ay<| ?_
        exact ff trivial rfl rfl rfl rfl cz bp rfl (fun m=>(m.aT 1 rfl).au) b5 bj z32 (fun m=>(m.aT 0 rfl).au) [] rfl [0] rfl ⟨y4,rfl,rfl,rfl,rfl⟩
       ·have h4:=Decidable.not_not.1 h4
        rw[if_pos h4,h4]at e0
        rw[e0]
        refine aC<|ag<|ah<|ve [0,1,2,3] (.alt 0 (.alt 1 (.alt 2 (.alt 3 (.take 4 4<|.done) (.stop)) (.stop)) (.alt 2 (.alt 1 (.alt 3 (.take 4 4<|.done) (.stop)) (.stop)) (.stop))) (.alt 1 (.alt 0 (.alt 2 (.alt 3 (.take 4 4<|.done) (.stop)) (.stop)) (.stop)) (.stop))) (by kernel_rfl) (by kernel_rfl) rfl 1<| ?_
        refine c5 ?_ ?_
        ·refine dL<|fj (fun m=>yV (aR rfl cz bp rfl ((m.aT 0 rfl).au)) ((rfl:_=Value.agg y4.cs.toArray)))<|And.intro (fun _=>wk [0,0,0,0,0] [0,1,2,3,4,5,6] rfl rfl)<| ?_
         refine c5 ?_ ?_
         ·refine dL<|fj (fun m=>aR rfl b5 bj h32 ((m.aT 2 rfl).au))<|And.intro (fun h=>absurd h (by decide))<| ?_
          refine dC (aG 4 rfl rfl rfl bp rfl bP rfl ⟨(fun h=>absurd h (by decide)), ?_⟩)
          refine dC (aG 4 rfl rfl rfl bj h32 aS rfl ⟨(fun h=>absurd h (by decide)), ?_⟩)
          refine bw (ab rfl)<|dD<|al (ρ' :=[(6,_),(68,_),(9,_),(61,_),(50,_),(43,_),(28,_),(24,_),(7,_),(12,_),(5,_),(4,_),(2,_),(0,_),(1,_)]) ⟨rfl,rfl,rfl,rfl,rfl,rfl,rfl,rfl,rfl,rfl,rfl,rfl,rfl,rfl,rfl,trivial⟩<|ak (X' :=[_,_,_,_,_]) (S' :=[_,_,_,_,_,_,_]) (fun _ m=>m)<|ag<|aQ<| ?_
          exact ff trivial rfl rfl rfl rfl cz bp rfl (fun m=>(m.aT 1 rfl).au) b5 bj h32 (fun m=>(m.aT 0 rfl).au) [] rfl [0] rfl ⟨y4,rfl,rfl,rfl,rfl⟩
         ·refine dC (aG 4 rfl rfl rfl bp rfl bP rfl ⟨(fun h=>absurd h (by decide)), ?_⟩)
          refine dL<|fj (fun m=>aR rfl b5 bj h32 ((m.aT 3 rfl).au))<|And.intro (fun h=>absurd h (by decide))<| ?_
          refine dC (aG 4 rfl rfl rfl bj h32 aS rfl ⟨(fun h=>absurd h (by decide)), ?_⟩)
          refine bw (ab rfl)<|dD<|al (ρ' :=[(6,_),(68,_),(9,_),(61,_),(50,_),(43,_),(28,_),(24,_),(7,_),(12,_),(5,_),(4,_),(2,_),(0,_),(1,_)]) ⟨rfl,rfl,rfl,rfl,rfl,rfl,rfl,rfl,rfl,rfl,rfl,rfl,rfl,rfl,rfl,trivial⟩<|ak (X' :=[_,_,_,_,_]) (S' :=[_,_,_,_,_,_,_]) (fun _ m=>m)<|ag<|aQ<| ?_
          exact ff trivial rfl rfl rfl rfl cz bp rfl (fun m=>(m.aT 1 rfl).au) b5 bj h32 (fun m=>(m.aT 0 rfl).au) [] rfl [0] rfl ⟨y4,rfl,rfl,rfl,rfl⟩
        ·refine dL<|fj (fun m=>aR rfl b5 bj h32 ((m.aT 2 rfl).au))<|And.intro (fun _=>wk [0,0,0,0,0] [0,1,2,3,4,5,6] rfl rfl)<|dL<|fj (fun m=>yV (aR rfl cz bp rfl ((m.aT 0 rfl).au)) ((rfl:_=Value.agg y4.cs.toArray)))<|And.intro (fun h=>absurd h (by decide))<| ?_
         refine dC (aG 4 rfl rfl rfl bp rfl bP rfl ⟨(fun h=>absurd h (by decide)), ?_⟩)
         refine dC (aG 4 rfl rfl rfl bj h32 aS rfl ⟨(fun h=>absurd h (by decide)), ?_⟩)
         refine bw (ab rfl)<|dD<|al (ρ' :=[(6,_),(68,_),(9,_),(61,_),(50,_),(43,_),(28,_),(24,_),(7,_),(12,_),(5,_),(4,_),(2,_),(0,_),(1,_)]) ⟨rfl,rfl,rfl,rfl,rfl,rfl,rfl,rfl,rfl,rfl,rfl,rfl,rfl,rfl,rfl,trivial⟩<|ak (X' :=[_,_,_,_,_]) (S' :=[_,_,_,_,_,_,_]) (fun _ m=>m)<|ag<|aQ<| ?_
         exact ff trivial rfl rfl rfl rfl cz bp rfl (fun m=>(m.aT 1 rfl).au) b5 bj h32 (fun m=>(m.aT 0 rfl).au) [] rfl [0] rfl ⟨y4,rfl,rfl,rfl,rfl⟩
      ·have hP:=CX (d:=x.d) (bb:=bb) h1 (by rw[←hd1];exact h2) (by rw[←hd1,←hd2];exact h3)
       rw[←hd1,←hd2,←hd3]at hP
       have e0:=lO hbg h6 h0 hP
       rw[if_neg h3]at e0
       rw[e0]
       refine aC<|ag<|ah<|ah<|aj<|hy (fun _=>aa rfl)<|hy (fun _=>cM rfl rfl)<|ai<|al (ρ' :=[(68,_),(61,_),(9,_),(50,_),(43,_),(28,_),(24,_),(7,_),(12,_),(6,_),(5,_),(4,_),(2,_),(0,_),(1,_)]) ⟨rfl,rfl,rfl,rfl,rfl,rfl,rfl,rfl,rfl,rfl,rfl,rfl,rfl,rfl,rfl,trivial⟩<|ag<| ?_
       refine fe rfl ((decide_eq_true h3)) ?_
       refine ah<|aj<|hy (fun m=>yV (aR rfl cz bp rfl ((m.aT 0 rfl).au)) ((rfl:_=Value.agg y3.cs.toArray)))<|hy (fun _=>yV (cK cX rfl (by kernel_rfl)) ((rfl:_=Value.agg (aK dX).toArray)))<|hy (fun _=>aa rfl)<| ?_
       refine cN (aG 4 rfl rfl rfl bp rfl bP rfl ?_)
       refine cN (aG 4 rfl rfl rfl bj z32 aS rfl ?_)
       refine hy (fun _=>ab rfl)<|ai<|al (ρ' :=[(6,_),(68,_),(61,_),(9,_),(50,_),(43,_),(28,_),(24,_),(7,_),(12,_),(5,_),(4,_),(2,_),(0,_),(1,_)]) ⟨rfl,rfl,rfl,rfl,rfl,rfl,rfl,rfl,rfl,rfl,rfl,rfl,rfl,rfl,rfl,trivial⟩<|ak (X' :=[_,_,_,_,_]) (S' :=[_,_,_,_,_,_]) (fun _ m=>m)<|ag<|aQ<|ay<| ?_
       exact ff trivial rfl rfl rfl rfl cz bp rfl (fun m=>(m.aT 1 rfl).au) b5 bj z32 (fun m=>(m.aT 0 rfl).au) [] rfl [0] rfl ⟨y3,rfl,rfl,rfl,rfl⟩
     ·have hP:=BM (d:=x.d) (bb:=bb) h1 (by rw[←hd1];exact h2)
      rw[←hd1,←hd2]at hP
      have e0:=lO hbg h6 h0 hP
      rw[if_neg h2]at e0
      rw[e0]
      refine aC<|ag<|ah<|ah<|aj<|hy (fun _=>aa rfl)<|hy (fun _=>cy rfl rfl)<|ai<|al (ρ' :=[(61,_),(50,_),(9,_),(43,_),(28,_),(24,_),(7,_),(12,_),(6,_),(5,_),(4,_),(2,_),(0,_),(1,_)]) ⟨rfl,rfl,rfl,rfl,rfl,rfl,rfl,rfl,rfl,rfl,rfl,rfl,rfl,rfl,trivial⟩<|ag<| ?_
      refine dx rfl ((decide_eq_false h2)) ?_
      refine aC<|ag<|ah<|ah<|aj<|hy (fun _=>aa rfl)<|hy (fun _=>cM rfl rfl)<|ai<|al (ρ' :=[(68,_),(61,_),(50,_),(9,_),(43,_),(28,_),(24,_),(7,_),(12,_),(6,_),(5,_),(4,_),(2,_),(0,_),(1,_)]) ⟨rfl,rfl,rfl,rfl,rfl,rfl,rfl,rfl,rfl,rfl,rfl,rfl,rfl,rfl,rfl,trivial⟩<|ag<| ?_
      refine fe rfl ((decide_eq_true h2)) ?_
      refine ah<|aj<|hy (fun m=>yV (aR rfl cz bp rfl ((m.aT 0 rfl).au)) ((rfl:_=Value.agg y2.cs.toArray)))<|hy (fun _=>yV (cK cX rfl (by kernel_rfl)) ((rfl:_=Value.agg (aK dX).toArray)))<|hy (fun _=>aa rfl)<| ?_
      refine cN (aG 4 rfl rfl rfl bp rfl bP rfl ?_)
      refine cN (aG 4 rfl rfl rfl bj z32 aS rfl ?_)
      refine hy (fun _=>ab rfl)<|ai<|al (ρ' :=[(6,_),(68,_),(61,_),(50,_),(9,_),(43,_),(28,_),(24,_),(7,_),(12,_),(5,_),(4,_),(2,_),(0,_),(1,_)]) ⟨rfl,rfl,rfl,rfl,rfl,rfl,rfl,rfl,rfl,rfl,rfl,rfl,rfl,rfl,rfl,trivial⟩<|ak (X' :=[_,_,_,_,_]) (S' :=[_,_,_,_,_]) (fun _ m=>m)<|ag<|aQ<|ay<| ?_
      exact ff trivial rfl rfl rfl rfl cz bp rfl (fun m=>(m.aT 1 rfl).au) b5 bj z32 (fun m=>(m.aT 0 rfl).au) [] rfl [0] rfl ⟨y2,rfl,rfl,rfl,rfl⟩
    ·have hP:=BW (d:=x.d) (bb:=bb) h1
     have e0:=lO hbg h6 h0 hP
     rw[if_neg h1]at e0
     rw[e0,←hd1]
     refine aC<|ag<|ah<|ah<|aj<|hy (fun _=>aa rfl)<|hy (fun _=>cy rfl rfl)<|ai<|al (ρ' :=[(50,_),(43,_),(9,_),(28,_),(24,_),(7,_),(12,_),(6,_),(5,_),(4,_),(2,_),(0,_),(1,_)]) ⟨rfl,rfl,rfl,rfl,rfl,rfl,rfl,rfl,rfl,rfl,rfl,rfl,rfl,trivial⟩<|ag<| ?_
     refine dx rfl ((decide_eq_false h1)) ?_
     refine aC<|ag<|ah<|ah<|aj<|hy (fun _=>aa rfl)<|hy (fun _=>cy rfl rfl)<|ai<|al (ρ' :=[(61,_),(50,_),(43,_),(9,_),(28,_),(24,_),(7,_),(12,_),(6,_),(5,_),(4,_),(2,_),(0,_),(1,_)]) ⟨rfl,rfl,rfl,rfl,rfl,rfl,rfl,rfl,rfl,rfl,rfl,rfl,rfl,rfl,trivial⟩<|ag<| ?_
     refine dx rfl ((decide_eq_false h1)) ?_
     refine aC<|ag<|ah<|ah<|aj<|hy (fun _=>aa rfl)<|hy (fun _=>cM rfl rfl)<|ai<|al (ρ' :=[(68,_),(61,_),(50,_),(43,_),(9,_),(28,_),(24,_),(7,_),(12,_),(6,_),(5,_),(4,_),(2,_),(0,_),(1,_)]) ⟨rfl,rfl,rfl,rfl,rfl,rfl,rfl,rfl,rfl,rfl,rfl,rfl,rfl,rfl,rfl,trivial⟩<|ag<| ?_
     refine fe rfl ((decide_eq_true h1)) ?_
     refine ah<|aj<|hy (fun m=>yV (aR rfl cz bp rfl ((m.aT 0 rfl).au)) ((rfl:_=Value.agg y.cs.toArray)))<|hy (fun _=>yV (cK cX rfl (by kernel_rfl)) ((rfl:_=Value.agg (aK dX).toArray)))<|hy (fun _=>aa rfl)<| ?_
     refine cN (aG 4 rfl rfl rfl bp rfl bP rfl ?_)
     refine cN (aG 4 rfl rfl rfl bj z32 aS rfl ?_)
     refine hy (fun _=>ab rfl)<|ai<|al (ρ' :=[(6,_),(68,_),(61,_),(50,_),(43,_),(9,_),(28,_),(24,_),(7,_),(12,_),(5,_),(4,_),(2,_),(0,_),(1,_)]) ⟨rfl,rfl,rfl,rfl,rfl,rfl,rfl,rfl,rfl,rfl,rfl,rfl,rfl,rfl,rfl,trivial⟩<|ak (X' :=[_,_,_,_,_]) (S' :=[_,_,_,_]) (fun _ m=>m)<|ag<|aQ<|ay<| ?_
     exact ff trivial rfl rfl rfl rfl cz bp rfl (fun m=>(m.aT 1 rfl).au) b5 bj z32 (fun m=>(m.aT 0 rfl).au) [] rfl [0] rfl ⟨y,rfl,rfl,rfl,rfl⟩
end Go.Proofs.YtmibdabdlgmafaaGreatDoor
end
section
set_option maxRecDepth 20000
set_option maxHeartbeats 4000000
namespace Go.Proofs.YtmibdabdlgmafaaGreatDoor
open Go.Eng Go.Hx
def j7(acc:List (List UInt8))(p:List UInt8):List (List UInt8):=match jO p with|some nm=>kD acc nm|none=>acc
def cO(d:RD)(i:Nat):List (List UInt8):=((d.seen.take i).map (·.1)).foldl j7 []
theorem lu{d:RD}{i:Nat}{x:FP}(h:d.seen[i]? =some x):cO d (i+1)=j7 (cO d i) x.1:=by
 unfold cO
 rw[List.take_add_one,h,List.map_append,List.foldl_append]
 rfl
theorem xv{acc:List (List UInt8)}{p:List UInt8}(h:Aq acc):Aq (j7 acc p):=by
 unfold j7
 cases hq:jO p with
 |none=>exact h
 |some nm=>
  have hm:nm.length=32:=by
   rw[←j6]at hq
   exact(eF hq).1
  exact x6 h hm
theorem j8(d:RD):∀i,Aq (cO d i)
 |0=>fun x h=>(List.not_mem_nil h).elim
 |i+1=>by
  rcases Nat.lt_or_ge i d.seen.length with h|h
  ·rw[lu (List.getElem?_eq_getElem h)]
   exact xv (j8 d i)
  ·have:cO d (i+1)=cO d i:=by unfold cO;rw[List.take_of_length_le (by omega),List.take_of_length_le h]
   rw[this];exact j8 d i
theorem CE{A:Option Addr}{n c:Nat}{ds:List (List UInt8)}{d:List UInt8}(hD:Aq ds)(hd:d.length=32)(hn:n≤1000000):cj Tryz.prog 96 [.slice A n c,.agg (aK d).toArray] [aF 53 32 (.slice A n c) n (dc ds)] [] (fun v_ X_ S_=>∃A1 n1 c1,v_=(.slice A1 n1 c1)∧X_=[aF 53 32 (.slice A1 n1 c1) n1 (dc (kD ds d))]∧S_=[]∧(n1=(kD ds d).length)):=by
 have h32:(aK d).length=32:=by rw[ax,hd]
 refine aU (N:=53) Tryz.func96 rfl rfl (by simp) fun b=> ?_
 refine ba (fun m=>Ch (m.ord 0 rfl) hD) fun hln=> ?_
 refine ba (fun m=>(Own.rd (m.own 0 rfl)).2.1) fun hco=> ?_
 refine ba (fun m=>(m.ord 0 rfl).2.1) fun hA_o=> ?_
 refine ah<|aj<| ?_
 refine hx (cp rfl (fun g3=> ?_))
 refine aV (fun w m=>m.bQ 0 rfl (show _=aH g3 53 (aK d)from congrArg (aH _ _) (bq _))) ?_
 refine hy (fun _=>ab rfl)<|ai<|ak (X' :=[_,_]) (S' :=[]) (fun _ m=>m)<|ag<|ah<|aj<|hy (fun _=>ab rfl)<|ai<|ag<|ah<|aN<| ?_
 refine dA (fun k=>n-k) (fun k=>[(5,.int .i64 (k:Nat))]) (fun k=>[]) (fun k=>[]) (fun k=>k≤n∧∀i,i<k→cb (ds.getD i []) d<0) 0 [(4,_),(3,_),(0,_),(1,_)] ⟨rfl,rfl,rfl,rfl,trivial⟩ [] rfl [] rfl (⟨Nat.zero_le _,fun i hi=>absurd hi (Nat.not_lt_zero _)⟩) ⟨rfl,trivial⟩ (fun k ⟨hkn,hlt⟩=> ?_)
 refine ah<|ah<|cV [10] [(0,some 0),(1,some 0),(2,some 0),(3,some 0),(4,some 0),(5,some 0),(6,some 0),(7,some 0),(8,some 0),(9,some 0),(10,none),(11,some 1),(12,some 1)] (by kernel_rfl) (by kernel_rfl) rfl 99<|an (aa rfl)<|an (aa rfl)<|an (aX rfl Tryz.underlying33)<|an (bk rfl rfl)<|an (aa rfl)<| ?_
 refine gJ 11 rfl (fun h1=> ?_) (fun h1=> ?_)
 ·have hkl:k<ds.length:=by omega
  have hdk:=lR hD hkl
  refine bI (o:=_) rfl rfl rfl (aa rfl)<|bI (o:=_) rfl rfl rfl (aa rfl)<|bI (o:=_) rfl rfl rfl (dF rfl rfl Tryz.underlying33 bj hA_o rfl (by omega))<|jQ (o:=_) rfl rfl rfl (fun m=>aR rfl b5 bj (by rw[ax];exact hdk) ((m.ord 1 rfl).jM hD hkl))<|jQ (o:=_) rfl rfl rfl (fun m=>aR rfl b5 bj h32 ((m.aT 0 rfl).au))<| ?_
  refine Dm (o:=_) rfl rfl rfl (aq rfl Tryz.call171 (wb hdk hd) [] rfl [] rfl ?_)
  rintro _ _ _ ⟨rfl,rfl,rfl⟩
  refine⟨(fun _=>wk [0,0] [] rfl rfl), ?_⟩
  refine bI (o:=_) rfl rfl rfl (bk rfl rfl)<|an (bo rfl rfl)<|bE<|al (ρ' :=[(19,_),(5,_),(4,_),(3,_),(0,_),(1,_)]) ⟨rfl,rfl,rfl,rfl,rfl,rfl,trivial⟩<|ak (X' :=[_,_]) (S' :=[]) (fun _ m=>m)<|ag<| ?_
  refine cI rfl (fun h2=> ?_) (fun h2=> ?_)
  ·have hlt2:∀i,i<k+1→cb (ds.getD i []) d<0:=fun i hi=>by
    rcases Nat.lt_or_ge i k with h|h
    ·exact hlt i h
    ·rw[show i=k by omega];exact h2
   refine aC<|ag<|aN<|aj<|hy (fun _=>aa rfl)<|hy (fun _=>aM rfl rfl (bB (by omega) (by omega)))<|hy (fun _=>ab rfl)<|ai<|al (ρ' :=[(5,_),(19,_),(4,_),(3,_),(0,_),(1,_)]) ⟨rfl,rfl,rfl,rfl,rfl,rfl,trivial⟩<|aW<| ?_
   refine cS (k+1) ⟨rfl,rfl,rfl,rfl,rfl,trivial⟩ [0,0] rfl [] rfl (⟨by omega,hlt2⟩) (by omega)
  ·have heq:=nT ds d k (by omega) hlt (fun h=>h2)
   refine bS<|ar<|ar<|aE<|ag<|ah<|ah<|cV [] [(0,some 0),(1,some 0),(2,some 0),(3,some 0),(4,some 0),(5,some 0),(6,some 0),(7,some 0),(8,some 0),(9,some 0),(10,some 0),(11,some 0),(12,some 0),(13,some 0),(14,some 0),(15,some 0)] (by kernel_rfl) (by kernel_rfl) rfl 99<|an (aa rfl)<|an (aa rfl)<|an (aX rfl Tryz.underlying33)<|an (bk rfl rfl)<|an (aa rfl)<| ?_
   refine gJ 26 rfl (fun h3=> ?_) (fun h3=> ?_)
   ·have hkl3:k<ds.length:=by omega
    have hdk3:=lR hD hkl3
    refine bI (o:=_) rfl rfl rfl (aa rfl)<|bI (o:=_) rfl rfl rfl (aa rfl)<|bI (o:=_) rfl rfl rfl (aa rfl)<|bI (o:=_) rfl rfl rfl (aX rfl Tryz.underlying33)<|bI (o:=_) rfl rfl rfl (b6 rfl rfl (bB (by omega) (by omega)))<|bI (o:=_) rfl rfl rfl (sF rfl rfl)<|bI (o:=_) rfl rfl rfl (dF rfl rfl Tryz.underlying33 bj hA_o (show((k:Nat):Int)=min (k:Int) ((n:Int)-1) by omega) (by omega))<|jQ (o:=_) rfl rfl rfl (fun m=>aR rfl b5 bj (by rw[ax];exact hdk3) ((m.ord 1 rfl).jM hD hkl3))<|jQ (o:=_) rfl rfl rfl (fun m=>aR rfl b5 bj h32 ((m.aT 0 rfl).au))<|bI (o:=_) rfl rfl rfl (qJ rfl rfl hdk3 hd)<|an (bo rfl rfl)<|bE<|al (ρ' :=[(37,_),(19,_),(5,_),(4,_),(3,_),(0,_),(1,_)]) ⟨rfl,rfl,rfl,rfl,rfl,rfl,rfl,trivial⟩<|ag<| ?_
    refine cI rfl (fun h4=> ?_) (fun h4=> ?_)
    ·rw[if_pos ⟨hkl3,h4⟩]at heq
     rw[heq]
     refine ah<|aj<|hy (fun _=>aa rfl)<|hy (fun _=>ab rfl)<|ai<|al (ρ' :=[(4,_),(37,_),(19,_),(5,_),(3,_),(0,_),(1,_)]) ⟨rfl,rfl,rfl,rfl,rfl,rfl,rfl,trivial⟩<|ag<|aQ<|ay<| ?_
     exact bd trivial rfl rfl [1] rfl [] rfl ⟨_,_,_,rfl,rfl,rfl,hln.symm⟩
    ·have hne:¬(k<ds.length∧ds.getD k []=d):=fun h=>h4 h.2
     rw[if_neg hne]at heq
     rw[heq]
     refine aC<|ag<|ah<|aj<|hy (fun _=>ab rfl)<|ai<|ag<|ah<|aj<|hy (fun _=>aa rfl)<|hy (fun _=>aa rfl)<|hy (fun _=>aa rfl)<|hy (fun _=>jA rfl rfl Tryz.underlying33 bj (show((k:Nat):Int)=_ by omega) (by omega))<| ?_
     refine aV (fun w m=>m.cL (r' :=aF 53 32 (.slice none 0 0) 0 []) (.refl _ _) (Own.nil _ _ _ _) (fun k hk=>hk.elim)) ?_
     refine hx (bu 0 rfl rfl rfl Tryz.underlying33 Tryz.underlying33 (by exact .inl rfl) cX rfl (fun m=>Src.bN ((m.ord 2 rfl).nQ hD (show k≤n by omega))) di (by unfold maxLen;omega) (by omega) (fun u=> ?_))
     refine aw (fun m=>(m.own 0 rfl).slice) ?_
     rintro⟨A_z,c_z,rfl,hc_z⟩
     refine aw (fun m=>(m.ord 0 rfl).2.1) fun hA_z=> ?_
     refine hy (fun _=>ab rfl)<|ai<|al (ρ' :=[(6,_),(37,_),(19,_),(5,_),(4,_),(3,_),(0,_),(1,_)]) ⟨rfl,rfl,rfl,rfl,rfl,rfl,rfl,rfl,trivial⟩<|ak (X' :=[_,_,_]) (S' :=[]) (fun _ m=>m)<|ag<|ah<|aj<|hy (fun _=>aa rfl)<|hy (fun m=>aR rfl b5 bj h32 ((m.aT 1 rfl).au))<| ?_
     refine hx (cg Tryz.underlying33 cX rfl rfl rfl (by simpa[Value.cells,B8]using h32) (by decide) (by decide) (fun g46=> ?_))
     have hA_b46:0<1→(some (⟨g46,0,none⟩:Addr))≠none:=fun _ h=>by cases h
     refine aV (fun w m=>m.bQ 0 rfl (show _=aF 53 32 (.slice (some ⟨g46,0,none⟩) 1 1) 1 (dc [d])from rfl)) ?_
     refine hx (bu 1 rfl rfl rfl Tryz.underlying33 Tryz.underlying33 (by exact .inl rfl) cX rfl (fun m=>Src.bN (m.ord 0 rfl)) di (by unfold maxLen;omega) (by omega) (fun u2=> ?_))
     refine aw (fun m=>(m.own 0 rfl).slice) ?_
     rintro⟨A_z2,c_z2,rfl,hc_z⟩
     refine aw (fun m=>(m.ord 0 rfl).2.1) fun hA_z=> ?_
     refine hy (fun _=>ab rfl)<|ai<|al (ρ' :=[(6,_),(37,_),(19,_),(5,_),(4,_),(3,_),(0,_),(1,_)]) ⟨rfl,rfl,rfl,rfl,rfl,rfl,rfl,rfl,trivial⟩<|ak (X' :=[_,_,_,_]) (S' :=[]) (fun _ m=>m)<|ag<|ah<|aj<|hy (fun _=>aa rfl)<|hy (fun _=>aa rfl)<|hy (fun _=>aa rfl)<|hy (fun _=>dm rfl rfl Tryz.underlying33 bj (show((k:Nat):Int)=_ by omega) (by omega))<| ?_
     refine hx (bu 0 rfl rfl rfl Tryz.underlying33 Tryz.underlying33 (by exact .inl rfl) cX rfl (fun m=>Src.bN ((m.ord 3 rfl).q7 hD hco (show k≤n by omega))) di (by unfold maxLen;omega) (by omega) (fun u3=> ?_))
     refine aw (fun m=>(m.own 0 rfl).slice) ?_
     rintro⟨A_z3,c_z3,rfl,hc_z⟩
     refine aw (fun m=>(m.ord 0 rfl).2.1) fun hA_z=> ?_
     refine hy (fun _=>ab rfl)<|ai<|al (ρ' :=[(4,_),(6,_),(37,_),(19,_),(5,_),(3,_),(0,_),(1,_)]) ⟨rfl,rfl,rfl,rfl,rfl,rfl,rfl,rfl,trivial⟩<|ak (X' :=[_,_,_,_]) (S' :=[]) (fun _ m=>m)<|ag<|aQ<| ?_
     refine ak (fun w m=>m.bQ 0 rfl (show _=aF 53 32 (.slice A_z3 (0+k+1+(n-k)) c_z3) (0+k+1+(n-k)) (dc (ds.take k++[d]++ds.drop k))from congrArg (aF _ _ _ _) (by rw[eM,eM,List.nil_append]))) ?_
     exact bd trivial rfl rfl [0] rfl [] rfl ⟨_,_,_,rfl,rfl,rfl,(by rw[List.length_append,List.length_append,List.length_take,List.length_drop,List.length_singleton];omega)⟩
   ·have hne:¬(k<ds.length∧ds.getD k []=d):=fun h=>h3 (by omega)
    refine aO rfl rfl rfl (by decide)<|aO rfl rfl rfl (by decide)<|aO rfl rfl rfl (by decide)<|aO rfl rfl rfl (by decide)<|aO rfl rfl rfl (by decide)<|aO rfl rfl rfl (by decide)<|aO rfl rfl rfl (by decide)<|aO rfl rfl rfl (by decide)<|aO rfl rfl rfl (by decide)<|aO rfl rfl rfl (by decide)<|an (a7 rfl rfl)<|bE<|al (ρ' :=[(37,_),(19,_),(5,_),(4,_),(3,_),(0,_),(1,_)]) ⟨rfl,rfl,rfl,rfl,rfl,rfl,rfl,trivial⟩<|ag<| ?_
    refine dx rfl (rfl) ?_
    rw[if_neg hne]at heq
    rw[heq]
    refine aC<|ag<|ah<|aj<|hy (fun _=>ab rfl)<|ai<|ag<|ah<|aj<|hy (fun _=>aa rfl)<|hy (fun _=>aa rfl)<|hy (fun _=>aa rfl)<|hy (fun _=>jA rfl rfl Tryz.underlying33 bj (show((k:Nat):Int)=_ by omega) (by omega))<| ?_
    refine aV (fun w m=>m.cL (r' :=aF 53 32 (.slice none 0 0) 0 []) (.refl _ _) (Own.nil _ _ _ _) (fun k hk=>hk.elim)) ?_
    refine hx (bu 0 rfl rfl rfl Tryz.underlying33 Tryz.underlying33 (by exact .inl rfl) cX rfl (fun m=>Src.bN ((m.ord 2 rfl).nQ hD (show k≤n by omega))) di (by unfold maxLen;omega) (by omega) (fun u=> ?_))
    refine aw (fun m=>(m.own 0 rfl).slice) ?_
    rintro⟨A_z,c_z,rfl,hc_z⟩
    refine aw (fun m=>(m.ord 0 rfl).2.1) fun hA_z=> ?_
    refine hy (fun _=>ab rfl)<|ai<|al (ρ' :=[(6,_),(37,_),(19,_),(5,_),(4,_),(3,_),(0,_),(1,_)]) ⟨rfl,rfl,rfl,rfl,rfl,rfl,rfl,rfl,trivial⟩<|ak (X' :=[_,_,_]) (S' :=[]) (fun _ m=>m)<|ag<|ah<|aj<|hy (fun _=>aa rfl)<|hy (fun m=>aR rfl b5 bj h32 ((m.aT 1 rfl).au))<| ?_
    refine hx (cg Tryz.underlying33 cX rfl rfl rfl (by simpa[Value.cells,B8]using h32) (by decide) (by decide) (fun g46=> ?_))
    have hA_b46:0<1→(some (⟨g46,0,none⟩:Addr))≠none:=fun _ h=>by cases h
    refine aV (fun w m=>m.bQ 0 rfl (show _=aF 53 32 (.slice (some ⟨g46,0,none⟩) 1 1) 1 (dc [d])from rfl)) ?_
    refine hx (bu 1 rfl rfl rfl Tryz.underlying33 Tryz.underlying33 (by exact .inl rfl) cX rfl (fun m=>Src.bN (m.ord 0 rfl)) di (by unfold maxLen;omega) (by omega) (fun u2=> ?_))
    refine aw (fun m=>(m.own 0 rfl).slice) ?_
    rintro⟨A_z2,c_z2,rfl,hc_z⟩
    refine aw (fun m=>(m.ord 0 rfl).2.1) fun hA_z=> ?_
    refine hy (fun _=>ab rfl)<|ai<|al (ρ' :=[(6,_),(37,_),(19,_),(5,_),(4,_),(3,_),(0,_),(1,_)]) ⟨rfl,rfl,rfl,rfl,rfl,rfl,rfl,rfl,trivial⟩<|ak (X' :=[_,_,_,_]) (S' :=[]) (fun _ m=>m)<|ag<|ah<|aj<|hy (fun _=>aa rfl)<|hy (fun _=>aa rfl)<|hy (fun _=>aa rfl)<|hy (fun _=>dm rfl rfl Tryz.underlying33 bj (show((k:Nat):Int)=_ by omega) (by omega))<| ?_
    refine hx (bu 0 rfl rfl rfl Tryz.underlying33 Tryz.underlying33 (by exact .inl rfl) cX rfl (fun m=>Src.bN ((m.ord 3 rfl).q7 hD hco (show k≤n by omega))) di (by unfold maxLen;omega) (by omega) (fun u3=> ?_))
    refine aw (fun m=>(m.own 0 rfl).slice) ?_
    rintro⟨A_z3,c_z3,rfl,hc_z⟩
    refine aw (fun m=>(m.ord 0 rfl).2.1) fun hA_z=> ?_
    refine hy (fun _=>ab rfl)<|ai<|al (ρ' :=[(4,_),(6,_),(37,_),(19,_),(5,_),(3,_),(0,_),(1,_)]) ⟨rfl,rfl,rfl,rfl,rfl,rfl,rfl,rfl,trivial⟩<|ak (X' :=[_,_,_,_]) (S' :=[]) (fun _ m=>m)<|ag<|aQ<| ?_
    refine ak (fun w m=>m.bQ 0 rfl (show _=aF 53 32 (.slice A_z3 (0+k+1+(n-k)) c_z3) (0+k+1+(n-k)) (dc (ds.take k++[d]++ds.drop k))from congrArg (aF _ _ _ _) (by rw[eM,eM,List.nil_append]))) ?_
    exact bd trivial rfl rfl [0] rfl [] rfl ⟨_,_,_,rfl,rfl,rfl,(by rw[List.length_append,List.length_append,List.length_take,List.length_drop,List.length_singleton];omega)⟩
 ·refine aO rfl rfl rfl (by decide)<|aO rfl rfl rfl (by decide)<|aO rfl rfl rfl (by decide)<|aO rfl rfl rfl (by decide)<|aO rfl rfl rfl (by decide)<|uJ rfl rfl rfl (by decide) (fun _=>wk [0,0] [] rfl rfl)<|aO rfl rfl rfl (by decide)<|an (a7 rfl rfl)<|bE<|al (ρ' :=[(19,_),(5,_),(4,_),(3,_),(0,_),(1,_)]) ⟨rfl,rfl,rfl,rfl,rfl,rfl,trivial⟩<|ag<| ?_
  refine dx rfl (rfl) ?_
  have heq:=nT ds d k (by omega) hlt (fun h=>absurd h (by omega))
  refine bS<|ar<|ar<|aE<|ag<|ah<|ah<|cV [] [(0,some 0),(1,some 0),(2,some 0),(3,some 0),(4,some 0),(5,some 0),(6,some 0),(7,some 0),(8,some 0),(9,some 0),(10,some 0),(11,some 0),(12,some 0),(13,some 0),(14,some 0),(15,some 0)] (by kernel_rfl) (by kernel_rfl) rfl 99<|an (aa rfl)<|an (aa rfl)<|an (aX rfl Tryz.underlying33)<|an (bk rfl rfl)<|an (aa rfl)<| ?_
  refine gJ 26 rfl (fun h3=> ?_) (fun h3=> ?_)
  ·have hkl3:k<ds.length:=by omega
   have hdk3:=lR hD hkl3
   refine bI (o:=_) rfl rfl rfl (aa rfl)<|bI (o:=_) rfl rfl rfl (aa rfl)<|bI (o:=_) rfl rfl rfl (aa rfl)<|bI (o:=_) rfl rfl rfl (aX rfl Tryz.underlying33)<|bI (o:=_) rfl rfl rfl (b6 rfl rfl (bB (by omega) (by omega)))<|bI (o:=_) rfl rfl rfl (sF rfl rfl)<|bI (o:=_) rfl rfl rfl (dF rfl rfl Tryz.underlying33 bj hA_o (show((k:Nat):Int)=min (k:Int) ((n:Int)-1) by omega) (by omega))<|jQ (o:=_) rfl rfl rfl (fun m=>aR rfl b5 bj (by rw[ax];exact hdk3) ((m.ord 1 rfl).jM hD hkl3))<|jQ (o:=_) rfl rfl rfl (fun m=>aR rfl b5 bj h32 ((m.aT 0 rfl).au))<|bI (o:=_) rfl rfl rfl (qJ rfl rfl hdk3 hd)<|an (bo rfl rfl)<|bE<|al (ρ' :=[(37,_),(19,_),(5,_),(4,_),(3,_),(0,_),(1,_)]) ⟨rfl,rfl,rfl,rfl,rfl,rfl,rfl,trivial⟩<|ag<| ?_
   refine cI rfl (fun h4=> ?_) (fun h4=> ?_)
   ·rw[if_pos ⟨hkl3,h4⟩]at heq
    rw[heq]
    refine ah<|aj<|hy (fun _=>aa rfl)<|hy (fun _=>ab rfl)<|ai<|al (ρ' :=[(4,_),(37,_),(19,_),(5,_),(3,_),(0,_),(1,_)]) ⟨rfl,rfl,rfl,rfl,rfl,rfl,rfl,trivial⟩<|ag<|aQ<|ay<| ?_
    exact bd trivial rfl rfl [1] rfl [] rfl ⟨_,_,_,rfl,rfl,rfl,hln.symm⟩
   ·have hne:¬(k<ds.length∧ds.getD k []=d):=fun h=>h4 h.2
    rw[if_neg hne]at heq
    rw[heq]
    refine aC<|ag<|ah<|aj<|hy (fun _=>ab rfl)<|ai<|ag<|ah<|aj<|hy (fun _=>aa rfl)<|hy (fun _=>aa rfl)<|hy (fun _=>aa rfl)<|hy (fun _=>jA rfl rfl Tryz.underlying33 bj (show((k:Nat):Int)=_ by omega) (by omega))<| ?_
    refine aV (fun w m=>m.cL (r' :=aF 53 32 (.slice none 0 0) 0 []) (.refl _ _) (Own.nil _ _ _ _) (fun k hk=>hk.elim)) ?_
    refine hx (bu 0 rfl rfl rfl Tryz.underlying33 Tryz.underlying33 (by exact .inl rfl) cX rfl (fun m=>Src.bN ((m.ord 2 rfl).nQ hD (show k≤n by omega))) di (by unfold maxLen;omega) (by omega) (fun u=> ?_))
    refine aw (fun m=>(m.own 0 rfl).slice) ?_
    rintro⟨A_z,c_z,rfl,hc_z⟩
    refine aw (fun m=>(m.ord 0 rfl).2.1) fun hA_z=> ?_
    refine hy (fun _=>ab rfl)<|ai<|al (ρ' :=[(6,_),(37,_),(19,_),(5,_),(4,_),(3,_),(0,_),(1,_)]) ⟨rfl,rfl,rfl,rfl,rfl,rfl,rfl,rfl,trivial⟩<|ak (X' :=[_,_,_]) (S' :=[]) (fun _ m=>m)<|ag<|ah<|aj<|hy (fun _=>aa rfl)<|hy (fun m=>aR rfl b5 bj h32 ((m.aT 1 rfl).au))<| ?_
    refine hx (cg Tryz.underlying33 cX rfl rfl rfl (by simpa[Value.cells,B8]using h32) (by decide) (by decide) (fun g46=> ?_))
    have hA_b46:0<1→(some (⟨g46,0,none⟩:Addr))≠none:=fun _ h=>by cases h
    refine aV (fun w m=>m.bQ 0 rfl (show _=aF 53 32 (.slice (some ⟨g46,0,none⟩) 1 1) 1 (dc [d])from rfl)) ?_
    refine hx (bu 1 rfl rfl rfl Tryz.underlying33 Tryz.underlying33 (by exact .inl rfl) cX rfl (fun m=>Src.bN (m.ord 0 rfl)) di (by unfold maxLen;omega) (by omega) (fun u2=> ?_))
    refine aw (fun m=>(m.own 0 rfl).slice) ?_
    rintro⟨A_z2,c_z2,rfl,hc_z⟩
    refine aw (fun m=>(m.ord 0 rfl).2.1) fun hA_z=> ?_
    refine hy (fun _=>ab rfl)<|ai<|al (ρ' :=[(6,_),(37,_),(19,_),(5,_),(4,_),(3,_),(0,_),(1,_)]) ⟨rfl,rfl,rfl,rfl,rfl,rfl,rfl,rfl,trivial⟩<|ak (X' :=[_,_,_,_]) (S' :=[]) (fun _ m=>m)<|ag<|ah<|aj<|hy (fun _=>aa rfl)<|hy (fun _=>aa rfl)<|hy (fun _=>aa rfl)<|hy (fun _=>dm rfl rfl Tryz.underlying33 bj (show((k:Nat):Int)=_ by omega) (by omega))<| ?_
    refine hx (bu 0 rfl rfl rfl Tryz.underlying33 Tryz.underlying33 (by exact .inl rfl) cX rfl (fun m=>Src.bN ((m.ord 3 rfl).q7 hD hco (show k≤n by omega))) di (by unfold maxLen;omega) (by omega) (fun u3=> ?_))
    refine aw (fun m=>(m.own 0 rfl).slice) ?_
    rintro⟨A_z3,c_z3,rfl,hc_z⟩
    refine aw (fun m=>(m.ord 0 rfl).2.1) fun hA_z=> ?_
    refine hy (fun _=>ab rfl)<|ai<|al (ρ' :=[(4,_),(6,_),(37,_),(19,_),(5,_),(3,_),(0,_),(1,_)]) ⟨rfl,rfl,rfl,rfl,rfl,rfl,rfl,rfl,trivial⟩<|ak (X' :=[_,_,_,_]) (S' :=[]) (fun _ m=>m)<|ag<|aQ<| ?_
    refine ak (fun w m=>m.bQ 0 rfl (show _=aF 53 32 (.slice A_z3 (0+k+1+(n-k)) c_z3) (0+k+1+(n-k)) (dc (ds.take k++[d]++ds.drop k))from congrArg (aF _ _ _ _) (by rw[eM,eM,List.nil_append]))) ?_
    exact bd trivial rfl rfl [0] rfl [] rfl ⟨_,_,_,rfl,rfl,rfl,(by rw[List.length_append,List.length_append,List.length_take,List.length_drop,List.length_singleton];omega)⟩
  ·have hne:¬(k<ds.length∧ds.getD k []=d):=fun h=>h3 (by omega)
   refine aO rfl rfl rfl (by decide)<|aO rfl rfl rfl (by decide)<|aO rfl rfl rfl (by decide)<|aO rfl rfl rfl (by decide)<|aO rfl rfl rfl (by decide)<|aO rfl rfl rfl (by decide)<|aO rfl rfl rfl (by decide)<|aO rfl rfl rfl (by decide)<|aO rfl rfl rfl (by decide)<|aO rfl rfl rfl (by decide)<|an (a7 rfl rfl)<|bE<|al (ρ' :=[(37,_),(19,_),(5,_),(4,_),(3,_),(0,_),(1,_)]) ⟨rfl,rfl,rfl,rfl,rfl,rfl,rfl,trivial⟩<|ag<| ?_
   refine dx rfl (rfl) ?_
   rw[if_neg hne]at heq
   rw[heq]
   refine aC<|ag<|ah<|aj<|hy (fun _=>ab rfl)<|ai<|ag<|ah<|aj<|hy (fun _=>aa rfl)<|hy (fun _=>aa rfl)<|hy (fun _=>aa rfl)<|hy (fun _=>jA rfl rfl Tryz.underlying33 bj (show((k:Nat):Int)=_ by omega) (by omega))<| ?_
   refine aV (fun w m=>m.cL (r' :=aF 53 32 (.slice none 0 0) 0 []) (.refl _ _) (Own.nil _ _ _ _) (fun k hk=>hk.elim)) ?_
   refine hx (bu 0 rfl rfl rfl Tryz.underlying33 Tryz.underlying33 (by exact .inl rfl) cX rfl (fun m=>Src.bN ((m.ord 2 rfl).nQ hD (show k≤n by omega))) di (by unfold maxLen;omega) (by omega) (fun u=> ?_))
   refine aw (fun m=>(m.own 0 rfl).slice) ?_
   rintro⟨A_z,c_z,rfl,hc_z⟩
   refine aw (fun m=>(m.ord 0 rfl).2.1) fun hA_z=> ?_
   refine hy (fun _=>ab rfl)<|ai<|al (ρ' :=[(6,_),(37,_),(19,_),(5,_),(4,_),(3,_),(0,_),(1,_)]) ⟨rfl,rfl,rfl,rfl,rfl,rfl,rfl,rfl,trivial⟩<|ak (X' :=[_,_,_]) (S' :=[]) (fun _ m=>m)<|ag<|ah<|aj<|hy (fun _=>aa rfl)<|hy (fun m=>aR rfl b5 bj h32 ((m.aT 1 rfl).au))<| ?_
   refine hx (cg Tryz.underlying33 cX rfl rfl rfl (by simpa[Value.cells,B8]using h32) (by decide) (by decide) (fun g46=> ?_))
   have hA_b46:0<1→(some (⟨g46,0,none⟩:Addr))≠none:=fun _ h=>by cases h
   refine aV (fun w m=>m.bQ 0 rfl (show _=aF 53 32 (.slice (some ⟨g46,0,none⟩) 1 1) 1 (dc [d])from rfl)) ?_
   refine hx (bu 1 rfl rfl rfl Tryz.underlying33 Tryz.underlying33 (by exact .inl rfl) cX rfl (fun m=>Src.bN (m.ord 0 rfl)) di (by unfold maxLen;omega) (by omega) (fun u2=> ?_))
   refine aw (fun m=>(m.own 0 rfl).slice) ?_
   rintro⟨A_z2,c_z2,rfl,hc_z⟩
   refine aw (fun m=>(m.ord 0 rfl).2.1) fun hA_z=> ?_
   refine hy (fun _=>ab rfl)<|ai<|al (ρ' :=[(6,_),(37,_),(19,_),(5,_),(4,_),(3,_),(0,_),(1,_)]) ⟨rfl,rfl,rfl,rfl,rfl,rfl,rfl,rfl,trivial⟩<|ak (X' :=[_,_,_,_]) (S' :=[]) (fun _ m=>m)<|ag<|ah<|aj<|hy (fun _=>aa rfl)<|hy (fun _=>aa rfl)<|hy (fun _=>aa rfl)<|hy (fun _=>dm rfl rfl Tryz.underlying33 bj (show((k:Nat):Int)=_ by omega) (by omega))<| ?_
   refine hx (bu 0 rfl rfl rfl Tryz.underlying33 Tryz.underlying33 (by exact .inl rfl) cX rfl (fun m=>Src.bN ((m.ord 3 rfl).q7 hD hco (show k≤n by omega))) di (by unfold maxLen;omega) (by omega) (fun u3=> ?_))
   refine aw (fun m=>(m.own 0 rfl).slice) ?_
   rintro⟨A_z3,c_z3,rfl,hc_z⟩
   refine aw (fun m=>(m.ord 0 rfl).2.1) fun hA_z=> ?_
   refine hy (fun _=>ab rfl)<|ai<|al (ρ' :=[(4,_),(6,_),(37,_),(19,_),(5,_),(3,_),(0,_),(1,_)]) ⟨rfl,rfl,rfl,rfl,rfl,rfl,rfl,rfl,trivial⟩<|ak (X' :=[_,_,_,_]) (S' :=[]) (fun _ m=>m)<|ag<|aQ<| ?_
   refine ak (fun w m=>m.bQ 0 rfl (show _=aF 53 32 (.slice A_z3 (0+k+1+(n-k)) c_z3) (0+k+1+(n-k)) (dc (ds.take k++[d]++ds.drop k))from congrArg (aF _ _ _ _) (by rw[eM,eM,List.nil_append]))) ?_
   exact bd trivial rfl rfl [0] rfl [] rfl ⟨_,_,_,rfl,rfl,rfl,(by rw[List.length_append,List.length_append,List.length_take,List.length_drop,List.length_singleton];omega)⟩
theorem wZ{x:RX}{kk:Nat}(ok:xO x.d kk)(hkk:kk≤100000)(hnl:∀y∈x.d.seen,y.1.length≤1000000):cj Tryz.prog 21 [.agg x.cs.toArray] [] [cY x] (fun v_ X_ S_=>∃A1 k c1,v_=(.slice A1 k c1)∧X_=[aF 53 32 (.slice A1 k c1) k (dc (cO x.d x.d.seen.length))]∧S_=[]∧(k=(cO x.d x.d.seen.length).length)):=by
 have hsn:=ok.seen
 refine aU (N:=42) Tryz.func21 rfl rfl (by simp) fun b=> ?_
 refine ah<|aj<| ?_
 refine hx (cp rfl (fun g1=> ?_))
 refine aV (fun w m=>m.bQ 0 rfl (show _=aH g1 39 x.cs from congrArg (aH _ _) (bq _))) ?_
 refine aV (fun w m=>m.lq 0 rfl View.zH) ?_
 refine aw (fun m=>mX (m.rd 0 rfl)) ?_
 rintro⟨hl_r0,hA_r0⟩
 refine hy (fun _=>ab rfl)<|ai<|ak (X' :=[_]) (S' :=[_,_]) (fun _ m=>m)<|ag<|ah<|aj<|hy (fun _=>ab rfl)<|ai<|ag<|ah<|ah<|aj<|hy (fun _=>ab rfl)<|ai<|ag<|aN<| ?_
 refine bD (fun w m=>m.cL (r' :=aF 53 32 (.slice none 0 0) 0 []) (.refl _ _) (Own.nil _ _ _ _) (fun k hk=>hk.elim)) ?_
 refine lf (fun i k A1 c1=>x.d.seen.length-i) (fun i k A1 c1=>[(3,.slice A1 k c1),(4,.int .i64 (i:Nat))]) (fun i k A1 c1=>[aF 53 32 (.slice A1 k c1) k (dc (cO x.d i))]) (fun i k A1 c1=>[]) (fun i k A1 c1=>i≤x.d.seen.length∧k=(cO x.d i).length∧k≤i) 0 0 none 0 [(2,_),(1,_),(0,_)] ⟨rfl,rfl,rfl,trivial⟩ [0] rfl [] rfl (⟨Nat.zero_le _,rfl,Nat.le_refl _⟩) ⟨rfl,rfl,trivial⟩ (fun i k A1 c1 ⟨hin,hk,hki⟩=> ?_)
 refine ah<|ah<|aj<|hy (fun _=>aa rfl)<|hy (fun _=>aI rfl iv (by decide))<|hy (fun m=>av rfl o6 (aB (m.aT 1 rfl) (i:=1) rfl))<|hy (fun _=>aX rfl Tryz.underlying36)<|hy (fun _=>bk rfl rfl)<|ai<|al (ρ' :=[(12,_),(3,_),(4,_),(2,_),(1,_),(0,_)]) ⟨rfl,rfl,rfl,rfl,rfl,rfl,trivial⟩<|ag<| ?_
 refine cI rfl (fun hlt=> ?_) (fun hlt=> ?_)
 ·have hi2:i<x.d.seen.length:=by omega
  obtain⟨y,hyi⟩:∃y,x.d.seen[i]? =some y:=⟨_,List.getElem?_eq_getElem hi2⟩
  have hpl:=hnl y (List.mem_of_getElem? hyi)
  have hsc:=lu hyi
  have hg:=iW x.d.seen i y hyi
  generalize y.1=p at hpl hsc hg
  refine aC<|ag<|ah<|aN<|ah<|aj<|hy (fun _=>aI rfl iv (by decide))<|hy (fun m=>av rfl o6 (aB (m.aT 1 rfl) (i:=1) rfl))<|hy (fun _=>aa rfl)<|hy (fun _=>dF rfl rfl Tryz.underlying36 eR hA_r0 rfl (by omega))<|hy (fun _=>aI rfl eJ (by decide))<|hy (fun m=>av rfl kL (fh (m.rd 0 rfl) hg.1))<|hy (fun _=>ab rfl)<|ai<|al (ρ' :=[(5,_),(12,_),(3,_),(4,_),(2,_),(1,_),(0,_)]) ⟨rfl,rfl,rfl,rfl,rfl,rfl,rfl,trivial⟩<|ag<|ah<|ah<|aj<|hy (fun _=>aa rfl)<|hy (fun _=>cQ rfl Tryz.underlying9)<|hy (fun _=>cM rfl rfl)<|ai<|al (ρ' :=[(23,_),(5,_),(12,_),(3,_),(4,_),(2,_),(1,_),(0,_)]) ⟨rfl,rfl,rfl,rfl,rfl,rfl,rfl,rfl,trivial⟩<|ag<| ?_
  have hpz:=cU p
  refine cI rfl (fun h69=> ?_) (fun h69=> ?_)
  ·have hno:jO p=none:=by unfold jO;exact if_neg (fun h=>h69 (by omega))
   have hl2:j7 (cO x.d i) p=cO x.d i:=by unfold j7;rw[hno]
   rw[hl2]at hsc
   refine bD (fun w m=>m.bQ 0 rfl (show _=aF 53 32 (.slice A1 k c1) k (dc (cO x.d (i+1)))from by rw[hsc])) ?_
   refine bS<|ar<|aE<|ag<|aj<|hy (fun _=>aa rfl)<|hy (fun _=>aM rfl rfl (bB (by omega) (by omega)))<|hy (fun _=>ab rfl)<|ai<|al (ρ' :=[(4,_),(23,_),(5,_),(12,_),(3,_),(2,_),(1,_),(0,_)]) ⟨rfl,rfl,rfl,rfl,rfl,rfl,rfl,rfl,trivial⟩<| ?_
   refine fA (i+1) k A1 c1 ⟨rfl,rfl,rfl,rfl,rfl,trivial⟩ [0,0] rfl [0,1] rfl (⟨by omega,by rw[hsc,hk],by omega⟩) (by omega)
  ·have h69:p.length=69:=by omega
   have ho0:jO p=ke p (p.drop 5):=by unfold jO;exact if_pos h69
   have hdl:=gA (p.drop 5)
   have h32:(aK (bY (p.drop 5)).1).length=32:=by rw[ax,hdl]
   have hql:(p.drop 5).length≤1000000:=by rw[List.length_drop];omega
   have ho1:jO p=if(bY (p.drop 5)).2=0∧bz (bY (p.drop 5)).1=p then some (bY (p.drop 5)).1 else none:=ho0
   refine aC<|ag<|ah<|aj<|hy (fun _=>aa rfl)<|hy (fun _=>pY rfl rfl Tryz.underlying9 (show((5:Nat):Int)=5 from rfl) (show 5≤p.length by omega))<| ?_
   refine hx (aq rfl Tryz.call95 (vr hql (s:=(p.drop 5))) [] rfl [] rfl ?_)
   rintro _ _ _ ⟨rfl,rfl,rfl⟩
   refine hy (fun _=>aa rfl)<|hy (fun _=>ao rfl rfl)<|hy (fun _=>ao rfl rfl)<| ?_
   refine hx (aJ cX (fun g6=> ?_))
   refine cN (aG 0 rfl rfl rfl bj h32 aS rfl ?_)
   generalize hdo:bY (p.drop 5)=dq at hdl h32 ho1 ⊢
   by_cases hE:dq.2=0
   ·refine hy (fun _=>ab rfl)<|ai<|al (ρ' :=[(7,_),(6,_),(23,_),(5,_),(12,_),(3,_),(4,_),(2,_),(1,_),(0,_)]) ⟨rfl,rfl,rfl,rfl,rfl,rfl,rfl,rfl,rfl,rfl,trivial⟩<|ak (X' :=[_,_,_]) (S' :=[_,_]) (fun _ m=>m)<|ag<|ah<|aj<|hy (fun _=>aa rfl)<|hy (fun _=>yT (cy rfl rfl) ((decide_eq_true hE)))<|hy (fun _=>aa rfl)<|ca (o:=_) rfl rfl rfl (fun m=>aR rfl b5 bj h32 ((m.aT 0 rfl).au))<| ?_
    refine tw (o:=_) rfl rfl rfl (aq rfl Tryz.call29 (nI hdl) [] rfl [] rfl ?_)
    rintro _ _ _ ⟨rfl,rfl,rfl⟩
    refine ca (o:=_) rfl rfl rfl (fun _=>aa rfl)<|ca (o:=_) rfl rfl rfl (fun _=>p6 rfl rfl)<|hy (fun _=>bo rfl rfl)<|ai<|al (ρ' :=[(37,_),(7,_),(6,_),(23,_),(5,_),(12,_),(3,_),(4,_),(2,_),(1,_),(0,_)]) ⟨rfl,rfl,rfl,rfl,rfl,rfl,rfl,rfl,rfl,rfl,rfl,trivial⟩<|ak (X' :=[_,_,_]) (S' :=[_,_]) (fun _ m=>m)<|ag<| ?_
    refine yg rfl (fun hp=> ?_) (fun hp=> ?_)
    ·have hp:=cE.1 (of_decide_eq_true hp)
     rw[if_pos ⟨hE,hp⟩]at ho1
     have hl2:j7 (cO x.d i) p=kD (cO x.d i) dq.1:=by unfold j7;rw[ho1]
     rw[hl2]at hsc
     have hdln:=sO (cO x.d i) dq.1
     refine aj<|hy (fun _=>aa rfl)<|hy (fun m=>aR rfl b5 bj h32 ((m.aT 0 rfl).au))<| ?_
     refine hx (aq rfl Tryz.call96 (CE (j8 _ _) hdl (by omega)) [1] rfl [] rfl ?_)
     rintro _ _ _ ⟨A12,n1,c12,rfl,rfl,rfl,hn1⟩
     refine hy (fun _=>ab rfl)<|ai<|al (ρ' :=[(3,_),(37,_),(7,_),(6,_),(23,_),(5,_),(12,_),(4,_),(2,_),(1,_),(0,_)]) ⟨rfl,rfl,rfl,rfl,rfl,rfl,rfl,rfl,rfl,rfl,rfl,trivial⟩<|ak (X' :=[_,_,_]) (S' :=[_,_]) (fun _ m=>m)<|aW<|ag<|aj<|hy (fun _=>aa rfl)<|hy (fun _=>aM rfl rfl (bB (by omega) (by omega)))<|hy (fun _=>ab rfl)<|ai<|al (ρ' :=[(4,_),(3,_),(37,_),(7,_),(6,_),(23,_),(5,_),(12,_),(2,_),(1,_),(0,_)]) ⟨rfl,rfl,rfl,rfl,rfl,rfl,rfl,rfl,rfl,rfl,rfl,trivial⟩<| ?_
     rw[←hsc]at hn1
     refine ak (fun w m=>m.bQ 0 rfl (show _=aF 53 32 (.slice A12 n1 c12) n1 (dc (cO x.d (i+1)))from by rw[hsc])) ?_
     refine fA (i+1) n1 A12 c12 ⟨rfl,rfl,rfl,rfl,rfl,trivial⟩ [0,1] rfl [0,1] rfl (⟨by omega,hn1,by rw[hn1,hsc];omega⟩) (by omega)
    ·have hp:=of_decide_eq_false hp
     rw[if_neg (fun h=>hp (by rw[h.2]))]at ho1
     have hl2:j7 (cO x.d i) p=cO x.d i:=by unfold j7;rw[ho1]
     rw[hl2]at hsc
     refine bD (fun w m=>m.bQ 1 rfl (show _=aF 53 32 (.slice A1 k c1) k (dc (cO x.d (i+1)))from by rw[hsc])) ?_
     refine aC<|aW<|ag<|aj<|hy (fun _=>aa rfl)<|hy (fun _=>aM rfl rfl (bB (by omega) (by omega)))<|hy (fun _=>ab rfl)<|ai<|al (ρ' :=[(4,_),(37,_),(7,_),(6,_),(23,_),(5,_),(12,_),(3,_),(2,_),(1,_),(0,_)]) ⟨rfl,rfl,rfl,rfl,rfl,rfl,rfl,rfl,rfl,rfl,rfl,trivial⟩<| ?_
     refine fA (i+1) k A1 c1 ⟨rfl,rfl,rfl,rfl,rfl,trivial⟩ [0,1] rfl [0,1] rfl (⟨by omega,by rw[hsc,hk],by omega⟩) (by omega)
   ·refine hy (fun _=>ab rfl)<|ai<|al (ρ' :=[(7,_),(6,_),(23,_),(5,_),(12,_),(3,_),(4,_),(2,_),(1,_),(0,_)]) ⟨rfl,rfl,rfl,rfl,rfl,rfl,rfl,rfl,rfl,rfl,trivial⟩<|ag<|ah<|aj<|hy (fun _=>aa rfl)<|hy (fun _=>yF (cy rfl rfl) ((decide_eq_false hE)))<|hy (fun _=>aa rfl)<|a6 rfl rfl rfl (by decide)<|a6 rfl rfl rfl (by decide)<|a6 rfl rfl rfl (by decide)<|a6 rfl rfl rfl (by decide)<|hy (fun _=>a7 rfl rfl)<|ai<|al (ρ' :=[(37,_),(7,_),(6,_),(23,_),(5,_),(12,_),(3,_),(4,_),(2,_),(1,_),(0,_)]) ⟨rfl,rfl,rfl,rfl,rfl,rfl,rfl,rfl,rfl,rfl,rfl,trivial⟩<|ag<| ?_
    refine dx rfl (rfl) ?_
    rw[if_neg (fun h=>hE h.1)]at ho1
    have hl2:j7 (cO x.d i) p=cO x.d i:=by unfold j7;rw[ho1]
    rw[hl2]at hsc
    refine bD (fun w m=>m.bQ 1 rfl (show _=aF 53 32 (.slice A1 k c1) k (dc (cO x.d (i+1)))from by rw[hsc])) ?_
    refine aC<|aW<|ag<|aj<|hy (fun _=>aa rfl)<|hy (fun _=>aM rfl rfl (bB (by omega) (by omega)))<|hy (fun _=>ab rfl)<|ai<|al (ρ' :=[(4,_),(37,_),(7,_),(6,_),(23,_),(5,_),(12,_),(3,_),(2,_),(1,_),(0,_)]) ⟨rfl,rfl,rfl,rfl,rfl,rfl,rfl,rfl,rfl,rfl,rfl,trivial⟩<| ?_
    refine fA (i+1) k A1 c1 ⟨rfl,rfl,rfl,rfl,rfl,trivial⟩ [0,1] rfl [0,1] rfl (⟨by omega,by rw[hsc,hk],by omega⟩) (by omega)
 ·obtain rfl:i=x.d.seen.length:=by omega
  refine bS<|ar<|ar<|aE<|ag<|ah<|aj<|hy (fun _=>aa rfl)<|hy (fun _=>ab rfl)<|ai<|al (ρ' :=[(2,_),(12,_),(3,_),(4,_),(1,_),(0,_)]) ⟨rfl,rfl,rfl,rfl,rfl,rfl,trivial⟩<|ag<|aQ<| ?_
  exact bd trivial rfl rfl [0] rfl [] rfl ⟨_,_,_,rfl,rfl,rfl,hk⟩
end Go.Proofs.YtmibdabdlgmafaaGreatDoor
end
section
namespace Go.Proofs.YtmibdabdlgmafaaGreatDoor
open Go.Eng Go.Hx
theorem rS:∀{a b:List UInt8},a<b→cb a b<0
 | [],[],h=>absurd h (List.lt_irrefl _)
 | [],y::s,_=>by show(-1:Int)<0;decide
 |x::r,[],h=>absurd h (List.not_lt_nil _)
 |x::r,y::s,h=>by
  rw[List.cons_lt_cons_iff]at h
  rw[kh]
  rcases h with h|⟨rfl,h⟩
  ·rw[if_pos h];decide
  ·rw[if_neg (UInt8.lt_irrefl _),if_neg (UInt8.lt_irrefl _)]
   exact rS h
theorem yp{a b:List UInt8}(ha:a.length=32)(hb:b.length=32)(h:bz a<bz b):cb a b<0:=by
 have eG:∀{n:List UInt8},n.length=32→∃x y r,b8 n=x::y::r∧bz n=99::47::x::y::47::b8 n:=fun{n} hn=>by
  have h64:(b8 n).length=64:=by rw[dI,hn]
  match hq:b8 n with
  | []=>rw[hq]at h64;cases h64
  | [_]=>rw[hq]at h64;cases h64
  |x::y::r=>exact⟨x,y,r,rfl,by unfold bz;rw[hq];rfl⟩
 obtain⟨x,y,r,h1,h2⟩:=eG ha
 obtain⟨x',y',r',h3,h4⟩:=eG hb
 rw[h2,h4]at h
 rw[←uO]
 apply rS
 simp only[List.cons_lt_cons_iff,UInt8.lt_irrefl,false_or,true_and]at h
 rw[h1,h3]at h ⊢
 simp only[List.cons_lt_cons_iff]at h ⊢
 rcases h with h|⟨rfl,h⟩
 ·exact .inl h
 ·rcases h with h|⟨rfl,h⟩
  ·exact .inr ⟨rfl,.inl h⟩
  ·exact h
theorem mL:∀(l acc:List (List UInt8)),l.Pairwise (· <·)→(∀a∈acc,∀p∈l,∀nm,jO p=some nm→cb a nm<0)→l.foldl j7 acc=acc++l.filterMap jO
 | [],acc,_,_=>by simp
 |p::r,acc,hs,hA=>by
  rw[List.pairwise_cons]at hs
  rw[List.foldl_cons,List.filterMap_cons]
  cases hq:jO p with
  |none=>
   have:j7 acc p=acc:=by unfold j7;rw[hq]
   rw[this]
   exact mL r acc hs.2 (fun a ha q hq2 nm h=>hA a ha q (List.mem_cons_of_mem _ hq2) nm h)
  |some nm=>
   have hp:nm.length=32∧p=bz nm:=by
    rw[←j6]at hq
    exact eF hq
   have hd:j7 acc p=acc++[nm]:=by
    unfold j7
    rw[hq]
    have:=nT acc nm acc.length (Nat.le_refl _) (fun i hi=>by
     rw[List.getD,List.getElem?_eq_getElem hi]
     exact hA _ (List.getElem_mem hi) p (List.mem_cons_self ..) nm hq) (fun h=>absurd h (Nat.lt_irrefl _))
    rw[if_neg (fun h=>absurd h.1 (Nat.lt_irrefl _)),List.take_length,List.drop_length,List.append_nil]at this
    exact this
   rw[hd,mL r (acc++[nm]) hs.2 (fun a ha q hq2 nm2 h=>by
    rcases List.mem_append.1 ha with ha|ha
    ·exact hA a ha q (List.mem_cons_of_mem _ hq2) nm2 h
    ·rw[List.mem_singleton.1 ha]
     have hp2:nm2.length=32∧q=bz nm2:=by
      rw[←j6]at h
      exact eF h
     refine yp hp.1 hp2.1 ?_
     rw[←hp.2,←hp2.2]
     exact hs.1 q hq2)]
   simp
theorem tH{d:RD}(h:oJ d.seen):cO d d.seen.length=bW d:=by
 unfold cO bW
 rw[List.take_length,mL _ _ h (fun a ha=>(List.not_mem_nil ha).elim)]
 rfl
end Go.Proofs.YtmibdabdlgmafaaGreatDoor
end
section
set_option maxRecDepth 20000
namespace Go.Proofs.YtmibdabdlgmafaaGreatDoor
open Go.Eng Go.Hx
def uo(k s:Int)(n:Nat)(has:Bool)(nf:Nat):Prop:=k=1∧gK k s n∧(has=true→nf≤4106)
def EF(k s:Int)(nm:List UInt8)(n:Nat)(has:Bool)(nf:Nat)(l:List UInt8)(k1 s1:Int)(nm1 body:List UInt8)(err:Int):Prop:=
 (uo k s n has nf∧err=0∧k1=(if has then 2 else 3)∧s1=s∧nm1=nm∧body=if has then l else [])∨
 (¬uo k s n has nf∧err=1∧k1=0∧s1=0∧nm1=zm∧body=[])
theorem rj{k s:Int}{n m:Nat}{has:Bool}(h1:k=1)(h:gK k s n)(hm:has=false→m=0):gK (if has then 2 else 3) s m↔(has=true→m≤4106):=by
 unfold gK at h ⊢
 cases has
 ·simp[hm rfl];omega
 ·simp;omega
theorem sK{k s:Int}{nm:List UInt8}{A:Option Addr}{n c:Nat}{Af:Option Addr}{nf cf:Nat}{l:List UInt8}{has:Bool}(hm:nm.length=32)(hf:nf≤140737488351232):cj Tryz.prog 187 [.agg (mc k s nm (.slice A n c)).toArray,.slice Af nf cf,.bool has] [] [dw 1 Af nf (aK l)] (fun v_ X_ S_=>∃k1 s1 nm1 body v err bn,v_=(.tuple #[.agg (mc k1 s1 nm1 v).toArray,.int .i64 err])∧X_=[aF 5 1 v bn (aK body)]∧S_=[]∧(nm1.length=32∧body.length=bn∧EF k s nm n has nf l k1 s1 nm1 body err)):=by
 have z32:zm.length=32:=by simp[zm]
 refine aU (N:=34) Tryz.func187 rfl rfl (by simp) fun b=> ?_
 refine ba (fun m=>fG (m.rd 0 rfl)) ?_
 rintro⟨hl_f,hA_f⟩
 refine ah<|aj<| ?_
 refine hx (cp rfl (fun g3=> ?_))
 refine aV (fun w m=>m.bQ 0 rfl (show _=aH g3 198 (mc k s nm (.slice A n c))from congrArg (aH _ _) (bq _))) ?_
 refine hx (aJ fD (fun g6=> ?_))
 refine hy (fun _=>ab rfl)<|ai<|ak (X' :=[_,_]) (S' :=[_]) (fun _ m=>m)<|ag<|ah<|aj<|hy (fun _=>aI rfl gh (by decide))<|hy (fun m=>av rfl dV (aB (m.aT 1 rfl) rfl))<|hy (fun _=>aI rfl qT (by decide))<|hy (fun m=>yV (aR rfl b5 bj (by rw[ax];exact hm) (uK (m.aT 1 rfl))) ((rfl:Value.agg _= .agg (aK nm).toArray)))<|hy (fun _=>cD fD rfl rfl (by kernel_rfl) (DH (k0:=0) (s0:=0) (zi:=zm) (z:=.slice none 0 0) uR zo u7 z32 hm))<| ?_
 refine hx (aJ fD (fun g8=> ?_))
 refine cN (aG 0 rfl rfl rfl cB (bH hm) (eu (v:=.slice none 0 0) rfl) rfl ?_)
 refine aV (fun w m=>m.bQ 0 rfl (show _=aH g8 198 (mc 3 s nm (.slice none 0 0))from rfl)) ?_
 cases has
 ·refine ai<|al (ρ' :=[(8,_),(7,_),(6,_),(3,_),(0,_),(1,_),(2,_)]) ⟨rfl,rfl,rfl,rfl,rfl,rfl,rfl,trivial⟩<|ak (X' :=[_,_,_]) (S' :=[_]) (fun _ m=>m)<|ag<|ah<|ah<|aj<|hy (fun _=>aa rfl)<|ai<|ag<| ?_
  refine dx rfl (rfl) ?_
  refine bD (fun w m=>m.cL (r' :=aF 5 1 (.slice none 0 0) 0 []) (.refl _ _) (Own.nil _ _ _ _) (fun k hk=>hk.elim)) ?_
  by_cases h1:k=1
  ·by_cases hW:gK k s n
   ·by_cases hO:gK 3 s 0
    ·refine aC<|ag<|ah<|ah<|aj<|hy (fun _=>aI rfl de (by decide))<|hy (fun m=>av rfl dV (aB (m.aT 3 rfl) rfl))<|hy (fun _=>yF (cM rfl rfl) ((decide_eq_false (not_not_intro h1))))<|hy (fun _=>aa rfl)<|ca (o:=_) rfl rfl rfl (fun m=>aR rfl dP cB (bH hm) ((m.aT 3 rfl).au))<| ?_
     refine tw (o:=_) rfl rfl rfl (aq rfl Tryz.call191 (nB (by omega)) [] rfl [] rfl ?_)
     rintro _ _ _ ⟨rfl,rfl,rfl⟩
     refine ca (o:=_) rfl rfl rfl (fun _=>yF (dT rfl) ((decide_eq_false (not_not_intro hW))))<|hy (fun _=>a7 rfl rfl)<|hy (fun _=>aa rfl)<|ca (o:=_) rfl rfl rfl (fun m=>aR rfl dP cB (bH hm) ((m.aT 1 rfl).au))<| ?_
     refine tw (o:=_) rfl rfl rfl (aq rfl Tryz.call191 (nB (by omega)) [] rfl [] rfl ?_)
     rintro _ _ _ ⟨rfl,rfl,rfl⟩
     refine ca (o:=_) rfl rfl rfl (fun _=>yF (dT rfl) ((decide_eq_false (not_not_intro hO))))<|hy (fun _=>a7 rfl rfl)<|ai<|al (ρ' :=[(31,_),(14,_),(8,_),(7,_),(6,_),(3,_),(0,_),(1,_),(2,_)]) ⟨rfl,rfl,rfl,rfl,rfl,rfl,rfl,rfl,rfl,trivial⟩<|ak (X' :=[_,_,_,_]) (S' :=[_]) (fun _ m=>m)<|ag<| ?_
     refine dx rfl (rfl) ?_
     refine aC<|ag<|ah<|aj<|hy (fun m=>aR rfl dP cB (bH hm) ((m.aT 1 rfl).au))<| ?_
     refine cN (aG 2 rfl rfl rfl cB (bH hm) (eu rfl) rfl ?_)
     refine hy (fun _=>ab rfl)<|ai<|al (ρ' :=[(7,_),(31,_),(14,_),(8,_),(6,_),(3,_),(0,_),(1,_),(2,_)]) ⟨rfl,rfl,rfl,rfl,rfl,rfl,rfl,rfl,rfl,trivial⟩<|ak (X' :=[_,_,_,_]) (S' :=[_]) (fun _ m=>m)<|ag<|aQ<| ?_
     exact c6 trivial rfl rfl rfl dP cB (bH hm) (fun m=>(m.aT 0 rfl).au) [1] rfl [] rfl ⟨_,_,_,[],_,_,_,rfl,rfl,rfl,⟨hm,rfl,.inl ⟨⟨h1,hW,(fun e=>by cases e)⟩,rfl,rfl,rfl,rfl,rfl⟩⟩⟩
    ·refine aC<|ag<|ah<|ah<|aj<|hy (fun _=>aI rfl de (by decide))<|hy (fun m=>av rfl dV (aB (m.aT 3 rfl) rfl))<|hy (fun _=>yF (cM rfl rfl) ((decide_eq_false (not_not_intro h1))))<|hy (fun _=>aa rfl)<|ca (o:=_) rfl rfl rfl (fun m=>aR rfl dP cB (bH hm) ((m.aT 3 rfl).au))<| ?_
     refine tw (o:=_) rfl rfl rfl (aq rfl Tryz.call191 (nB (by omega)) [] rfl [] rfl ?_)
     rintro _ _ _ ⟨rfl,rfl,rfl⟩
     refine ca (o:=_) rfl rfl rfl (fun _=>yF (dT rfl) ((decide_eq_false (not_not_intro hW))))<|hy (fun _=>a7 rfl rfl)<|hy (fun _=>aa rfl)<|ca (o:=_) rfl rfl rfl (fun m=>aR rfl dP cB (bH hm) ((m.aT 1 rfl).au))<| ?_
     refine tw (o:=_) rfl rfl rfl (aq rfl Tryz.call191 (nB (by omega)) [] rfl [] rfl ?_)
     rintro _ _ _ ⟨rfl,rfl,rfl⟩
     refine ca (o:=_) rfl rfl rfl (fun _=>yT (dT rfl) ((decide_eq_true hO)))<|hy (fun _=>a7 rfl rfl)<|ai<|al (ρ' :=[(31,_),(14,_),(8,_),(7,_),(6,_),(3,_),(0,_),(1,_),(2,_)]) ⟨rfl,rfl,rfl,rfl,rfl,rfl,rfl,rfl,rfl,trivial⟩<|ak (X' :=[_,_,_,_]) (S' :=[_]) (fun _ m=>m)<|ag<| ?_
     refine fe rfl (rfl) ?_
     refine ah<|aj<|hy (fun _=>cK fD rfl (by kernel_rfl))<| ?_
     refine cN (aG 2 rfl rfl rfl cB (bH z32) (eu (v:=.slice none 0 0) rfl) rfl ?_)
     refine hy (fun _=>ab rfl)<|ai<|al (ρ' :=[(7,_),(31,_),(14,_),(8,_),(6,_),(3,_),(0,_),(1,_),(2,_)]) ⟨rfl,rfl,rfl,rfl,rfl,rfl,rfl,rfl,rfl,trivial⟩<|ak (X' :=[_,_,_,_]) (S' :=[_]) (fun _ m=>m)<|ag<|aQ<|ay<| ?_
     refine ak (fun w m=>m.cL (r' :=aF 5 1 (.slice none 0 0) 0 []) (.refl _ _) (Own.nil _ _ _ _) (fun k hk=>hk.elim)) ?_
     exact c6 trivial rfl rfl rfl dP cB (bH z32) (fun m=>(m.aT 1 rfl).au) [0] rfl [] rfl ⟨_,_,_,[],_,_,_,rfl,rfl,rfl,⟨z32,rfl,.inr ⟨(fun h=>hO ((rj (has:=false) h1 hW (fun _=>rfl)).2 (fun e=>by cases e))),rfl,rfl,rfl,rfl,rfl⟩⟩⟩
   ·refine aC<|ag<|ah<|ah<|aj<|hy (fun _=>aI rfl de (by decide))<|hy (fun m=>av rfl dV (aB (m.aT 3 rfl) rfl))<|hy (fun _=>yF (cM rfl rfl) ((decide_eq_false (not_not_intro h1))))<|hy (fun _=>aa rfl)<|ca (o:=_) rfl rfl rfl (fun m=>aR rfl dP cB (bH hm) ((m.aT 3 rfl).au))<| ?_
    refine tw (o:=_) rfl rfl rfl (aq rfl Tryz.call191 (nB (by omega)) [] rfl [] rfl ?_)
    rintro _ _ _ ⟨rfl,rfl,rfl⟩
    refine ca (o:=_) rfl rfl rfl (fun _=>yT (dT rfl) ((decide_eq_true hW)))<|hy (fun _=>a7 rfl rfl)<|hy (fun _=>aa rfl)<|a6 rfl rfl rfl (by decide)<|a6 rfl rfl rfl (by decide)<|a6 rfl rfl rfl (by decide)<|hy (fun _=>bo rfl rfl)<|ai<|al (ρ' :=[(31,_),(14,_),(8,_),(7,_),(6,_),(3,_),(0,_),(1,_),(2,_)]) ⟨rfl,rfl,rfl,rfl,rfl,rfl,rfl,rfl,rfl,trivial⟩<|ak (X' :=[_,_,_,_]) (S' :=[_]) (fun _ m=>m)<|ag<| ?_
    refine fe rfl (rfl) ?_
    refine ah<|aj<|hy (fun _=>cK fD rfl (by kernel_rfl))<| ?_
    refine cN (aG 2 rfl rfl rfl cB (bH z32) (eu (v:=.slice none 0 0) rfl) rfl ?_)
    refine hy (fun _=>ab rfl)<|ai<|al (ρ' :=[(7,_),(31,_),(14,_),(8,_),(6,_),(3,_),(0,_),(1,_),(2,_)]) ⟨rfl,rfl,rfl,rfl,rfl,rfl,rfl,rfl,rfl,trivial⟩<|ak (X' :=[_,_,_,_]) (S' :=[_]) (fun _ m=>m)<|ag<|aQ<|ay<| ?_
    refine ak (fun w m=>m.cL (r' :=aF 5 1 (.slice none 0 0) 0 []) (.refl _ _) (Own.nil _ _ _ _) (fun k hk=>hk.elim)) ?_
    exact c6 trivial rfl rfl rfl dP cB (bH z32) (fun m=>(m.aT 1 rfl).au) [0] rfl [] rfl ⟨_,_,_,[],_,_,_,rfl,rfl,rfl,⟨z32,rfl,.inr ⟨(fun h=>hW h.2.1),rfl,rfl,rfl,rfl,rfl⟩⟩⟩
  ·refine aC<|ag<|ah<|ah<|aj<|hy (fun _=>aI rfl de (by decide))<|hy (fun m=>av rfl dV (aB (m.aT 3 rfl) rfl))<|hy (fun _=>yT (cM rfl rfl) ((decide_eq_true h1)))<|hy (fun _=>aa rfl)<|a6 rfl rfl rfl (by decide)<|a6 rfl rfl rfl (by decide)<|a6 rfl rfl rfl (by decide)<|hy (fun _=>bo rfl rfl)<|hy (fun _=>aa rfl)<|a6 rfl rfl rfl (by decide)<|a6 rfl rfl rfl (by decide)<|a6 rfl rfl rfl (by decide)<|hy (fun _=>bo rfl rfl)<|ai<|al (ρ' :=[(31,_),(14,_),(8,_),(7,_),(6,_),(3,_),(0,_),(1,_),(2,_)]) ⟨rfl,rfl,rfl,rfl,rfl,rfl,rfl,rfl,rfl,trivial⟩<|ag<| ?_
   refine fe rfl (rfl) ?_
   refine ah<|aj<|hy (fun _=>cK fD rfl (by kernel_rfl))<| ?_
   refine cN (aG 2 rfl rfl rfl cB (bH z32) (eu (v:=.slice none 0 0) rfl) rfl ?_)
   refine hy (fun _=>ab rfl)<|ai<|al (ρ' :=[(7,_),(31,_),(14,_),(8,_),(6,_),(3,_),(0,_),(1,_),(2,_)]) ⟨rfl,rfl,rfl,rfl,rfl,rfl,rfl,rfl,rfl,trivial⟩<|ak (X' :=[_,_,_,_]) (S' :=[_]) (fun _ m=>m)<|ag<|aQ<|ay<| ?_
   refine ak (fun w m=>m.cL (r' :=aF 5 1 (.slice none 0 0) 0 []) (.refl _ _) (Own.nil _ _ _ _) (fun k hk=>hk.elim)) ?_
   exact c6 trivial rfl rfl rfl dP cB (bH z32) (fun m=>(m.aT 1 rfl).au) [0] rfl [] rfl ⟨_,_,_,[],_,_,_,rfl,rfl,rfl,⟨z32,rfl,.inr ⟨(fun h=>h1 h.1),rfl,rfl,rfl,rfl,rfl⟩⟩⟩
 ·refine ai<|al (ρ' :=[(8,_),(7,_),(6,_),(3,_),(0,_),(1,_),(2,_)]) ⟨rfl,rfl,rfl,rfl,rfl,rfl,rfl,trivial⟩<|ag<|ah<|ah<|aj<|hy (fun _=>aa rfl)<|ai<|ag<| ?_
  refine fe rfl (rfl) ?_
  refine aj<|hy (fun _=>aa rfl)<| ?_
  refine hx (aq rfl Tryz.call117 (k8 (by omega)) [] rfl [0] rfl ?_)
  rintro _ _ _ ⟨v,rfl,rfl,rfl⟩
  refine aw (fun m=>(m.own 0 rfl).slice) ?_
  rintro⟨A_x,c_x,rfl,hc_x⟩
  refine aw (fun m=>(m.ord 0 rfl).2.1) fun hA_x=> ?_
  refine hy (fun _=>aI rfl de (by decide))<| ?_
  refine cN (ct 1 rfl rfl rfl rl rfl (by rw[bH hm];decide) ?_)
  refine aV (fun w m=>m.bQ 0 rfl (show _=aH g8 198 (mc 2 s nm (.slice none 0 0))from rfl)) ?_
  refine hy (fun _=>aI rfl iK (by decide))<| ?_
  refine cN (ct 0 rfl rfl rfl mq rfl (by rw[bH hm];decide) ?_)
  refine aV (fun w m=>m.bQ 0 rfl (show _=aH g8 198 (mc 2 s nm (.slice A_x nf c_x))from congrArg (aH _ _) (wx hm))) ?_
  by_cases h1:k=1
  ·by_cases hW:gK k s n
   ·by_cases hO:gK 2 s nf
    ·refine ai<|al (ρ' :=[(14,_),(8,_),(7,_),(6,_),(3,_),(0,_),(1,_),(2,_)]) ⟨rfl,rfl,rfl,rfl,rfl,rfl,rfl,rfl,trivial⟩<|ak (X' :=[_,_,_,_]) (S' :=[_]) (fun _ m=>m)<|ag<|ah<|ah<|aj<|hy (fun _=>aI rfl de (by decide))<|hy (fun m=>av rfl dV (aB (m.aT 3 rfl) rfl))<|hy (fun _=>yF (cM rfl rfl) ((decide_eq_false (not_not_intro h1))))<|hy (fun _=>aa rfl)<|ca (o:=_) rfl rfl rfl (fun m=>aR rfl dP cB (bH hm) ((m.aT 3 rfl).au))<| ?_
     refine tw (o:=_) rfl rfl rfl (aq rfl Tryz.call191 (nB (by omega)) [] rfl [] rfl ?_)
     rintro _ _ _ ⟨rfl,rfl,rfl⟩
     refine ca (o:=_) rfl rfl rfl (fun _=>yF (dT rfl) ((decide_eq_false (not_not_intro hW))))<|hy (fun _=>a7 rfl rfl)<|hy (fun _=>aa rfl)<|ca (o:=_) rfl rfl rfl (fun m=>aR rfl dP cB (bH hm) ((m.aT 0 rfl).au))<| ?_
     refine tw (o:=_) rfl rfl rfl (aq rfl Tryz.call191 (nB (by omega)) [] rfl [] rfl ?_)
     rintro _ _ _ ⟨rfl,rfl,rfl⟩
     refine ca (o:=_) rfl rfl rfl (fun _=>yF (dT rfl) ((decide_eq_false (not_not_intro hO))))<|hy (fun _=>a7 rfl rfl)<|ai<|al (ρ' :=[(31,_),(14,_),(8,_),(7,_),(6,_),(3,_),(0,_),(1,_),(2,_)]) ⟨rfl,rfl,rfl,rfl,rfl,rfl,rfl,rfl,rfl,trivial⟩<|ak (X' :=[_,_,_,_]) (S' :=[_]) (fun _ m=>m)<|ag<| ?_
     refine dx rfl (rfl) ?_
     refine aC<|ag<|ah<|aj<|hy (fun m=>aR rfl dP cB (bH hm) ((m.aT 0 rfl).au))<| ?_
     refine cN (aG 2 rfl rfl rfl cB (bH hm) (eu rfl) rfl ?_)
     refine hy (fun _=>ab rfl)<|ai<|al (ρ' :=[(7,_),(31,_),(14,_),(8,_),(6,_),(3,_),(0,_),(1,_),(2,_)]) ⟨rfl,rfl,rfl,rfl,rfl,rfl,rfl,rfl,rfl,trivial⟩<|ak (X' :=[_,_,_,_]) (S' :=[_]) (fun _ m=>m)<|ag<|aQ<| ?_
     exact c6 trivial rfl rfl rfl dP cB (bH hm) (fun m=>(m.aT 0 rfl).au) [2] rfl [] rfl ⟨_,_,_,l,_,_,_,rfl,rfl,rfl,⟨hm,hl_f,.inl ⟨⟨h1,hW,((rj (has:=true) h1 hW (fun e=>by cases e)).1 hO)⟩,rfl,rfl,rfl,rfl,rfl⟩⟩⟩
    ·refine ai<|al (ρ' :=[(14,_),(8,_),(7,_),(6,_),(3,_),(0,_),(1,_),(2,_)]) ⟨rfl,rfl,rfl,rfl,rfl,rfl,rfl,rfl,trivial⟩<|ag<|ah<|ah<|aj<|hy (fun _=>aI rfl de (by decide))<|hy (fun m=>av rfl dV (aB (m.aT 3 rfl) rfl))<|hy (fun _=>yF (cM rfl rfl) ((decide_eq_false (not_not_intro h1))))<|hy (fun _=>aa rfl)<|ca (o:=_) rfl rfl rfl (fun m=>aR rfl dP cB (bH hm) ((m.aT 3 rfl).au))<| ?_
     refine tw (o:=_) rfl rfl rfl (aq rfl Tryz.call191 (nB (by omega)) [] rfl [] rfl ?_)
     rintro _ _ _ ⟨rfl,rfl,rfl⟩
     refine ca (o:=_) rfl rfl rfl (fun _=>yF (dT rfl) ((decide_eq_false (not_not_intro hW))))<|hy (fun _=>a7 rfl rfl)<|hy (fun _=>aa rfl)<|ca (o:=_) rfl rfl rfl (fun m=>aR rfl dP cB (bH hm) ((m.aT 0 rfl).au))<| ?_
     refine tw (o:=_) rfl rfl rfl (aq rfl Tryz.call191 (nB (by omega)) [] rfl [] rfl ?_)
     rintro _ _ _ ⟨rfl,rfl,rfl⟩
     refine ca (o:=_) rfl rfl rfl (fun _=>yT (dT rfl) ((decide_eq_true hO)))<|hy (fun _=>a7 rfl rfl)<|ai<|al (ρ' :=[(31,_),(14,_),(8,_),(7,_),(6,_),(3,_),(0,_),(1,_),(2,_)]) ⟨rfl,rfl,rfl,rfl,rfl,rfl,rfl,rfl,rfl,trivial⟩<|ak (X' :=[_,_,_,_]) (S' :=[_]) (fun _ m=>m)<|ag<| ?_
     refine fe rfl (rfl) ?_
     refine ah<|aj<|hy (fun _=>cK fD rfl (by kernel_rfl))<| ?_
     refine cN (aG 2 rfl rfl rfl cB (bH z32) (eu (v:=.slice none 0 0) rfl) rfl ?_)
     refine hy (fun _=>ab rfl)<|ai<|al (ρ' :=[(7,_),(31,_),(14,_),(8,_),(6,_),(3,_),(0,_),(1,_),(2,_)]) ⟨rfl,rfl,rfl,rfl,rfl,rfl,rfl,rfl,rfl,trivial⟩<|ak (X' :=[_,_,_,_]) (S' :=[_]) (fun _ m=>m)<|ag<|aQ<|ay<| ?_
     refine ak (fun w m=>m.cL (r' :=aF 5 1 (.slice none 0 0) 0 []) (.refl _ _) (Own.nil _ _ _ _) (fun k hk=>hk.elim)) ?_
     exact c6 trivial rfl rfl rfl dP cB (bH z32) (fun m=>(m.aT 1 rfl).au) [0] rfl [] rfl ⟨_,_,_,[],_,_,_,rfl,rfl,rfl,⟨z32,rfl,.inr ⟨(fun h=>hO ((rj (has:=true) h1 hW (fun e=>by cases e)).2 h.2.2)),rfl,rfl,rfl,rfl,rfl⟩⟩⟩
   ·refine ai<|al (ρ' :=[(14,_),(8,_),(7,_),(6,_),(3,_),(0,_),(1,_),(2,_)]) ⟨rfl,rfl,rfl,rfl,rfl,rfl,rfl,rfl,trivial⟩<|ag<|ah<|ah<|aj<|hy (fun _=>aI rfl de (by decide))<|hy (fun m=>av rfl dV (aB (m.aT 3 rfl) rfl))<|hy (fun _=>yF (cM rfl rfl) ((decide_eq_false (not_not_intro h1))))<|hy (fun _=>aa rfl)<|ca (o:=_) rfl rfl rfl (fun m=>aR rfl dP cB (bH hm) ((m.aT 3 rfl).au))<| ?_
    refine tw (o:=_) rfl rfl rfl (aq rfl Tryz.call191 (nB (by omega)) [] rfl [] rfl ?_)
    rintro _ _ _ ⟨rfl,rfl,rfl⟩
    refine ca (o:=_) rfl rfl rfl (fun _=>yT (dT rfl) ((decide_eq_true hW)))<|hy (fun _=>a7 rfl rfl)<|hy (fun _=>aa rfl)<|a6 rfl rfl rfl (by decide)<|a6 rfl rfl rfl (by decide)<|a6 rfl rfl rfl (by decide)<|hy (fun _=>bo rfl rfl)<|ai<|al (ρ' :=[(31,_),(14,_),(8,_),(7,_),(6,_),(3,_),(0,_),(1,_),(2,_)]) ⟨rfl,rfl,rfl,rfl,rfl,rfl,rfl,rfl,rfl,trivial⟩<|ak (X' :=[_,_,_,_]) (S' :=[_]) (fun _ m=>m)<|ag<| ?_
    refine fe rfl (rfl) ?_
    refine ah<|aj<|hy (fun _=>cK fD rfl (by kernel_rfl))<| ?_
    refine cN (aG 2 rfl rfl rfl cB (bH z32) (eu (v:=.slice none 0 0) rfl) rfl ?_)
    refine hy (fun _=>ab rfl)<|ai<|al (ρ' :=[(7,_),(31,_),(14,_),(8,_),(6,_),(3,_),(0,_),(1,_),(2,_)]) ⟨rfl,rfl,rfl,rfl,rfl,rfl,rfl,rfl,rfl,trivial⟩<|ak (X' :=[_,_,_,_]) (S' :=[_]) (fun _ m=>m)<|ag<|aQ<|ay<| ?_
    refine ak (fun w m=>m.cL (r' :=aF 5 1 (.slice none 0 0) 0 []) (.refl _ _) (Own.nil _ _ _ _) (fun k hk=>hk.elim)) ?_
    exact c6 trivial rfl rfl rfl dP cB (bH z32) (fun m=>(m.aT 1 rfl).au) [0] rfl [] rfl ⟨_,_,_,[],_,_,_,rfl,rfl,rfl,⟨z32,rfl,.inr ⟨(fun h=>hW h.2.1),rfl,rfl,rfl,rfl,rfl⟩⟩⟩
  ·refine ai<|al (ρ' :=[(14,_),(8,_),(7,_),(6,_),(3,_),(0,_),(1,_),(2,_)]) ⟨rfl,rfl,rfl,rfl,rfl,rfl,rfl,rfl,trivial⟩<|ag<|ah<|ah<|aj<|hy (fun _=>aI rfl de (by decide))<|hy (fun m=>av rfl dV (aB (m.aT 3 rfl) rfl))<|hy (fun _=>yT (cM rfl rfl) ((decide_eq_true h1)))<|hy (fun _=>aa rfl)<|a6 rfl rfl rfl (by decide)<|a6 rfl rfl rfl (by decide)<|a6 rfl rfl rfl (by decide)<|hy (fun _=>bo rfl rfl)<|hy (fun _=>aa rfl)<|a6 rfl rfl rfl (by decide)<|a6 rfl rfl rfl (by decide)<|a6 rfl rfl rfl (by decide)<|hy (fun _=>bo rfl rfl)<|ai<|al (ρ' :=[(31,_),(14,_),(8,_),(7,_),(6,_),(3,_),(0,_),(1,_),(2,_)]) ⟨rfl,rfl,rfl,rfl,rfl,rfl,rfl,rfl,rfl,trivial⟩<|ag<| ?_
   refine fe rfl (rfl) ?_
   refine ah<|aj<|hy (fun _=>cK fD rfl (by kernel_rfl))<| ?_
   refine cN (aG 2 rfl rfl rfl cB (bH z32) (eu (v:=.slice none 0 0) rfl) rfl ?_)
   refine hy (fun _=>ab rfl)<|ai<|al (ρ' :=[(7,_),(31,_),(14,_),(8,_),(6,_),(3,_),(0,_),(1,_),(2,_)]) ⟨rfl,rfl,rfl,rfl,rfl,rfl,rfl,rfl,rfl,trivial⟩<|ak (X' :=[_,_,_,_]) (S' :=[_]) (fun _ m=>m)<|ag<|aQ<|ay<| ?_
   refine ak (fun w m=>m.cL (r' :=aF 5 1 (.slice none 0 0) 0 []) (.refl _ _) (Own.nil _ _ _ _) (fun k hk=>hk.elim)) ?_
   exact c6 trivial rfl rfl rfl dP cB (bH z32) (fun m=>(m.aT 1 rfl).au) [0] rfl [] rfl ⟨_,_,_,[],_,_,_,rfl,rfl,rfl,⟨z32,rfl,.inr ⟨(fun h=>h1 h.1),rfl,rfl,rfl,rfl,rfl⟩⟩⟩
theorem sJ(s:Nat):∀i,j9 i s=s/256 ^ i
 |0=>by simp[j9]
 |i+1=>by rw[j9,sJ s i,Nat.div_div_eq_div_mul,Nat.pow_succ]
theorem Ev{i:Nat}(h:i<4):(2:Int) ^ ((8*(i:Int)).toNat)=((256 ^ i:Nat):Int):=by
 match i,h with
 |0,_=>rfl
 |1,_=>rfl
 |2,_=>rfl
 |3,_=>rfl
theorem zd(s i:Nat):IntKind.u8.wrap ((s:Int)/((256 ^ i:Nat):Int))=((UInt8.ofNat (j9 i s)).toNat:Int):=by
 rw[sJ,←fl];rfl
def mw(k s n i:Nat):List UInt8:=[UInt8.ofNat k]++ud i s++List.replicate (36+n-i) 0
theorem oc(i s:Nat):(ud i s).length=i:=by simp[ud]
theorem ry{k s n i:Nat}(h:i≤36):(mw k s n i).length=37+n:=by simp[mw,oc];omega
theorem vD(k s n:Nat):(List.replicate (37+n) (0:UInt8)).set 0 (UInt8.ofNat k)=mw k s n 0:=by
 rw[show 37+n=(36+n)+1 by omega,List.replicate_succ]
 simp[mw,ud]
theorem yO{k s n i:Nat}(h:i<4):(mw k s n i).set (i+1) (UInt8.ofNat (j9 i s))=mw k s n (i+1):=by
 have hl:([UInt8.ofNat k]++ud i s).length=i+1:=by simp[oc]
 unfold mw
 rw[oI,List.set_append,if_neg (by omega),hl,Nat.sub_self,show 36+n-i=(36+n-(i+1))+1 by omega,List.replicate_succ,List.set_cons_zero]
 simp
theorem oh(a v:List UInt8)(o:Nat):bR (aK a) o (aK v)=aK (a.take o++v++a.drop (o+v.length)):=by
 simp[bR,aK]
theorem EH{k s n:Nat}{nm:List UInt8}(h:nm.length=32):bR (aK (mw k s n 4)) 5 (aK nm)=aK ([UInt8.ofNat k]++gx s++nm++List.replicate n 0):=by
 have hl:([UInt8.ofNat k]++gx s).length=5:=rfl
 rw[oh,h,mw,nX,List.take_append_of_le_length (by omega),List.take_of_length_le (by omega),List.drop_append,hl,List.drop_of_length_le (by omega),List.nil_append,List.drop_replicate,show 36+n-4-(5+32-5)=n by omega]
theorem EI{k s n:Nat}{nm l:List UInt8}(h:nm.length=32)(hl:l.length=n):bR (aK ([UInt8.ofNat k]++gx s++nm++List.replicate n 0)) (if n=0 then 0 else 37) (aK l)=aK (eo k s nm l):=by
 have h5:([UInt8.ofNat k]++gx s++nm).length=37:=by simp[dN,h]
 rw[oh,eo]
 by_cases hn:n=0
 ·subst hn
  obtain rfl:l=[]:=List.eq_nil_of_length_eq_zero hl
  simp
 ·rw[if_neg hn,List.take_append_of_le_length (by omega),List.take_of_length_le (by omega),List.drop_append,h5,List.drop_of_length_le (by omega),List.drop_replicate,show n-(37+l.length-37)=0 by omega]
  simp
theorem tT{k s:Nat}{nm:List UInt8}{A:Option Addr}{n c:Nat}{l:List UInt8}(hm:nm.length=32)(hn:n≤c)(hM:gK k s n):cj Tryz.prog 188 [.agg (mc k s nm (.slice A n c)).toArray] [] [dw 1 A n (aK l)] (fun v_ X_ S_=>∃v,v_=(.tuple #[v,.int .i64 0])∧X_=[aF 5 1 v (37+n+4) (aK (gy (eo k s nm l)))]∧S_=[]):=by
 have hM2:=hM
 unfold gK at hM2
 refine aU (N:=45) Tryz.func188 rfl rfl (by simp) fun b=> ?_
 refine ba (fun m=>fG (m.rd 0 rfl)) ?_
 rintro⟨hl_r,hA_r⟩
 refine ah<|aj<| ?_
 refine hx (cp rfl (fun g1=> ?_))
 refine aV (fun w m=>m.bQ 0 rfl (show _=aH g1 198 (mc k s nm (.slice A n c))from congrArg (aH _ _) (bq _))) ?_
 refine hy (fun _=>ab rfl)<|hy (fun _=>ab rfl)<|ai<|ak (X' :=[_]) (S' :=[_]) (fun _ m=>m)<|ag<|ah<|ah<|aj<|hy (fun m=>aR rfl dP cB (bH hm) ((m.aT 0 rfl).au))<| ?_
 refine hx (aq rfl Tryz.call191 (nB (by omega)) [] rfl [] rfl ?_)
 rintro _ _ _ ⟨rfl,rfl,rfl⟩
 refine hy (fun _=>dT rfl)<|ai<|al (ρ' :=[(8,_),(3,_),(2,_),(1,_),(0,_)]) ⟨rfl,rfl,rfl,rfl,rfl,trivial⟩<|ak (X' :=[_]) (S' :=[_]) (fun _ m=>m)<|ag<| ?_
 refine dx rfl ((decide_eq_false (not_not_intro hM))) ?_
 refine aC<|ag<|ah<|aj<|hy (fun _=>aI rfl iK (by decide))<|hy (fun m=>av rfl dO (s9 (m.aT 0 rfl) hm))<|hy (fun _=>aX rfl Tryz.underlying27)<|hy (fun _=>yV (aM rfl rfl (bB (by omega) (by omega))) ((show Value.int .i64 (37+(n:Int))= .int .i64 ((37+n:Nat):Int) by congr 1)))<| ?_
 refine hx (uY Tryz.underlying27 ey rfl rfl rfl (by omega) (by omega) (fun g13=> ?_))
 have hA_b13:∀{n:Nat},0<n→(some (⟨g13,0,none⟩:Addr))≠none:=fun _ h=>by cases h
 refine aV (fun w m=>m.bQ 0 rfl (show _=aH g13 5 (aK (List.replicate (37+n) 0))from congrArg (aH _ _) (by simp[aK,B8]))) ?_
 refine hy (fun _=>ab rfl)<|ai<|al (ρ' :=[(4,_),(8,_),(3,_),(2,_),(1,_),(0,_)]) ⟨rfl,rfl,rfl,rfl,rfl,rfl,trivial⟩<|ak (X' :=[_,_]) (S' :=[_]) (fun _ m=>m)<|ag<|ah<|aj<|hy (fun _=>aa rfl)<|hy (fun _=>aI rfl de (by decide))<|hy (fun m=>av rfl dV (aB (m.aT 1 rfl) rfl))<|hy (fun _=>yV (bJ rfl Tryz.underlying3 Tryz.underlying5 (fl k)) ((rfl:Value.int .u8 _=B8 (UInt8.ofNat k))))<|hy (fun _=>aL rfl rfl Tryz.underlying27 dE hA_b13 (show((0:Nat):Int)=0 from rfl) (by omega))<| ?_
 refine cN (ct 0 rfl rfl rfl dE rfl (by rw[ax,List.length_replicate];omega) ?_)
 refine aV (fun w m=>m.bQ 0 rfl (show _=aH g13 5 (aK (mw k s n 0))from congrArg (aH _ _) ((nD _ _ _).symm.trans (congrArg aK (vD k s n))))) ?_
 refine ai<|al (ρ' :=[(4,_),(8,_),(3,_),(2,_),(1,_),(0,_)]) ⟨rfl,rfl,rfl,rfl,rfl,rfl,trivial⟩<|ak (X' :=[_,_]) (S' :=[_]) (fun _ m=>m)<|ag<|ah<|ah<|aj<|hy (fun _=>aa rfl)<|ai<|ag<|aN<| ?_
 refine dA (fun i=>4-i) (fun i=>[(19,.int .i64 (i:Nat))]) (fun i=>[aH g13 5 (aK (mw k s n i))]) (fun i=>[]) (fun i=>i≤4) 0 [(4,_),(8,_),(3,_),(2,_),(1,_),(0,_)] ⟨rfl,rfl,rfl,rfl,rfl,rfl,trivial⟩ [0] rfl [] rfl (Nat.zero_le _) ⟨rfl,trivial⟩ (fun i hI=> ?_)
 refine ah<|aj<|hy (fun _=>bk rfl rfl)<|ai<|ag<|ah<| ?_
 refine cI rfl (fun hi=> ?_) (fun hi=> ?_)
 ·have hi4:i<4:=by omega
  refine aC<|ag<|ah<|aN<|ah<|aj<|hy (fun _=>aa rfl)<|hy (fun _=>ab rfl)<|ai<|al (ρ' :=[(5,_),(20,_),(19,_),(4,_),(8,_),(3,_),(2,_),(1,_),(0,_)]) ⟨rfl,rfl,rfl,rfl,rfl,rfl,rfl,rfl,rfl,trivial⟩<|ag<|aj<|hy (fun _=>aa rfl)<|hy (fun _=>aa rfl)<|hy (fun _=>aM rfl rfl (bB (by omega) (by omega)))<|hy (fun _=>aI rfl gh (by decide))<|hy (fun m=>av rfl dV (aB (m.aT 1 rfl) rfl))<|hy (fun _=>aa rfl)<|hy (fun _=>fv rfl rfl (bB (by omega) (by omega)))<|hy (fun _=>kO rfl rfl (by omega) (by simp[IntKind.bits];omega) (Ev hi4))<|hy (fun _=>yV (bJ rfl Tryz.underlying3 Tryz.underlying5 (zd s i)) ((rfl:Value.int .u8 _=B8 (UInt8.ofNat (j9 i s)))))<| ?_
  refine hy (fun _=>aL rfl rfl Tryz.underlying27 dE hA_b13 (show((i+1:Nat):Int)=_ by omega) (by omega))<| ?_
  refine cN (ct 0 rfl rfl rfl dE rfl (by rw[ax,ry (by omega)];omega) ?_)
  refine aV (fun w m=>m.bQ 0 rfl (show _=aH g13 5 (aK (mw k s n (i+1)))from congrArg (aH _ _) (show(aK (mw k s n i)).set (0+(i+1)) (B8 (UInt8.ofNat (j9 i s)))=_ by rw[Nat.zero_add,←nD,yO hi4]))) ?_
  refine ai<|al (ρ' :=[(5,_),(20,_),(19,_),(4,_),(8,_),(3,_),(2,_),(1,_),(0,_)]) ⟨rfl,rfl,rfl,rfl,rfl,rfl,rfl,rfl,rfl,trivial⟩<|ak (X' :=[_,_]) (S' :=[_]) (fun _ m=>m)<|aW<|ag<|aj<|hy (fun _=>aM rfl rfl (bB (by omega) (by omega)))<|hy (fun _=>aa rfl)<|ai<|al (ρ' :=[(19,_),(5,_),(20,_),(4,_),(8,_),(3,_),(2,_),(1,_),(0,_)]) ⟨rfl,rfl,rfl,rfl,rfl,rfl,rfl,rfl,rfl,trivial⟩<| ?_
  refine cS (i+1) ⟨rfl,rfl,rfl,rfl,rfl,rfl,rfl,trivial⟩ [0,0] rfl [0] rfl (by omega) (by omega)
 ·obtain rfl:i=4:=by omega
  refine bS<|ar<|ar<|aE<|ag<|ah<|cV [4] [(0,some 0),(1,some 0),(2,some 0),(3,some 0),(4,none)] (by kernel_rfl) (by kernel_rfl) rfl 0<|an (aa rfl)<|an (yV (dm rfl rfl Tryz.underlying27 dE (show((5:Nat):Int)=5 from rfl) (by omega)) ((show Value.slice (if 37+n=5 then some ⟨g13,0,none⟩else(some (⟨g13,0,none⟩:Addr)).map (·.add (5*1))) (37+n-5) (37+n-5)= .slice (some ⟨g13,5,none⟩) (32+n) (32+n) by rw[if_neg (by omega),show 37+n-5=32+n by omega];rfl)))<|an (aI rfl qT (by decide))<|an (tL rfl Tryz.underlying53 dE)<| ?_
  refine eK (va 0 rfl rfl rfl Tryz.underlying27 dE (fun m=>⟨(by rw[ax];omega),(fun _ h=>by cases h),uK (m.aT 1 rfl)⟩) (show 32=min 32 (32+n) by omega) (by rw[ax,ry (by omega)];omega) gk ⟨(fun h=>absurd h (by decide)), ?_⟩)
  refine jW (fun w m=>m.bQ 0 rfl (show _=aH g13 5 (aK ([UInt8.ofNat k]++gx s++nm++List.replicate n 0))from congrArg (aH _ _) (EH hm))) ?_
  refine bE<|al (ρ' :=[(20,_),(19,_),(4,_),(8,_),(3,_),(2,_),(1,_),(0,_)]) ⟨rfl,rfl,rfl,rfl,rfl,rfl,rfl,rfl,trivial⟩<|ak (X' :=[_,_]) (S' :=[_]) (fun _ m=>m)<|ag<|ah<|cV [4] [(0,some 0),(1,some 0),(2,some 0),(3,some 0),(4,none)] (by kernel_rfl) (by kernel_rfl) rfl 0<|an (aa rfl)<|an (yV (dm rfl rfl Tryz.underlying27 dE (show((37:Nat):Int)=37 from rfl) (by omega)) ((show Value.slice (if 37+n=37 then some ⟨g13,0,none⟩else(some (⟨g13,0,none⟩:Addr)).map (·.add (37*1))) (37+n-37) (37+n-37)= .slice (some ⟨g13,if n=0 then 0 else 37,none⟩) n n by rw[show 37+n-37=n by omega];by_cases h0:n=0 <;> simp[h0] <;> rfl)))<|an (aI rfl iK (by decide))<|cn (fun m=>av rfl dO (s9 (m.aT 1 rfl) hm))<| ?_
  refine eK (va 0 rfl rfl rfl Tryz.underlying27 dE (fun m=>(m.rd 0 rfl)) (show n=min n n by omega) (by simp[ax,dN,hm];split <;> omega) gk ⟨(fun h=>absurd h (by decide)), ?_⟩)
  refine jW (fun w m=>m.bQ 0 rfl (show _=aH g13 5 (aK (eo k s nm l))from congrArg (aH _ _) (EI hm hl_r))) ?_
  refine bE<|al (ρ' :=[(20,_),(19,_),(4,_),(8,_),(3,_),(2,_),(1,_),(0,_)]) ⟨rfl,rfl,rfl,rfl,rfl,rfl,rfl,rfl,trivial⟩<|ak (X' :=[_,_]) (S' :=[_]) (fun _ m=>m)<|ag<|ah<|aj<|hy (fun _=>aa rfl)<| ?_
  refine hx (bT rfl Tryz.call242 (tS (by omega)) [] rfl (.x 0 rfl (.aT (by rw[ax,fu hm,hl_r];omega)) .nil) ?_)
  rintro _ _ _ ⟨v,rfl,rfl,rfl⟩
  refine⟨rfl, ?_⟩
  refine aw (fun m=>(m.own 0 rfl).slice) ?_
  rintro⟨A_x,c_x,rfl,hc_x⟩
  refine aw (fun m=>(m.ord 0 rfl).2.1) fun hA_x=> ?_
  refine hy (fun _=>ab rfl)<|hy (fun _=>ab rfl)<|ai<|al (ρ' :=[(3,_),(2,_),(20,_),(19,_),(4,_),(8,_),(1,_),(0,_)]) ⟨rfl,rfl,rfl,rfl,rfl,rfl,rfl,rfl,trivial⟩<|ak (X' :=[_,_,_]) (S' :=[_]) (fun _ m=>m)<|ag<|aQ<| ?_
  exact cW trivial rfl rfl rfl [0] rfl [] rfl ⟨_,rfl,rfl,rfl⟩
end Go.Proofs.YtmibdabdlgmafaaGreatDoor
end
section
namespace Go.Proofs.YtmibdabdlgmafaaGreatDoor
abbrev Cp:Go.Conc.Locks.MuLink:={lock:=119,unlock:=120,ilock:=185,iunlock:=186,lockSlow:=238,unlockSlow:=241,disable:=234,enable:=236,acquire:=237,relMerge:=239,cas32:=235,add32:=240,tMutex:=170,tIMutex:=168,tPMutex:=259,tPIMutex:=327,tPI32:=329,tUP:=331,tNoCopy:=165,tU32:=166}
theorem uj:Go.Conc.Locks.MuLib Tryz.prog Cp:=by
 constructor <;> first|kernel_rfl|(intro _;kernel_rfl)
end Go.Proofs.YtmibdabdlgmafaaGreatDoor
end
