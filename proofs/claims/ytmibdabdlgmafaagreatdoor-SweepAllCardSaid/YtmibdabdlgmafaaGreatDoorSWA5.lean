/- Part. -/
import Derived.Test.YtmibdabdlgmafaaGreatDoorSWA4
import Derived.Test.YtmibdabdlgmafaaGreatDoorProg
import Derived.Conc.MuLib
import Derived.KernelRfl
set_option linter.all false
section
set_option maxRecDepth 20000
set_option maxHeartbeats 2000000
namespace Go.Proofs.YtmibdabdlgmafaaGreatDoor
open Go.Eng Go.Hx
def mv(s:Nat×Nat):List Value:=[.int .i64 (s.1:Nat),.int .i64 (s.2:Nat)]
theorem mO{s:Nat×Nat}:∀u∈mv s,u.oneCell' =true:=by
 intro u hu
 simp only[mv,List.mem_cons,List.not_mem_nil,or_false]at hu
 rcases hu with rfl|rfl <;> rfl
theorem A6{A:Option Addr}{n c i:Nat}{l:List UInt8}(hn:n≤1000000000)(hl:l.length=n)(hi:i<n):cf Tryz.prog 218 [.slice A n c,.int .i64 (i:Nat)] [] [c6 1 A n (aQ l)] (fun v_ X_ S_=>v_=(.agg (mv (aT l i)).toArray)∧X_=[]∧S_=[]):=by
 refine aO (N:=67) Tryz.func218 rfl rfl (by simp) fun b=> ?_
 refine a6 (fun m=>gz (m.rd 0 rfl)) ?_
 rintro⟨hl_r,hA_r⟩
 refine ah<|aj<| ?_
 refine hx (aP qP (fun g4=> ?_))
 refine ai<|ak (X' :=[_]) (S' :=[_]) (fun _ m=>m)<|ag<|ah<|aj<| ?_
 refine hx (aP qP (fun g5=> ?_))
 refine ai<|ak (X' :=[_,_]) (S' :=[_]) (fun _ m=>m)<|ag<|ah<|ah<|aj<|hy (fun _=>aa rfl)<|hy (fun _=>bA rfl rfl)<|hy (fun _=>aa rfl)<| ?_
 refine er 10 rfl (fun h0=> ?_) (fun h0=> ?_)
 ·exact absurd h0 (by omega)
 ·refine de (o:=_) rfl rfl rfl (fun _=>aa rfl)<|de (o:=_) rfl rfl rfl (fun _=>aa rfl)<|de (o:=_) rfl rfl rfl (fun _=>aW rfl Tryz.underlying27)<|de (o:=_) rfl rfl rfl (fun _=>jS rfl rfl)<|hy (fun _=>bN rfl rfl)<|ai<|al (ρ' :=[(15,_),(5,_),(4,_),(0,_),(1,_)]) ⟨rfl,rfl,rfl,rfl,rfl,trivial⟩<|ag<| ?_
  refine dO rfl ((decide_eq_false (by omega))) ?_
  refine bw (fun w m=>m.bU 0 rfl (show _=aJ g5 298 (mv (b8 l i 0))from rfl)) ?_
  refine bw (fun w m=>m.bU 1 rfl (show _=aJ g4 298 (mv (0,0))from rfl)) ?_
  refine aD<|ag<|ah<|ah<|aj<|hy (fun _=>ab rfl)<|ai<|ag<|aK<| ?_
  refine dD (fun q=>2000-q) (fun q=>[(6,.int .i64 ((q+1:Nat):Int))]) (fun q=>[aJ g5 298 (mv (b8 l i q))]) (fun q=>[]) (fun q=>q≤min i 1024) 0 [(15,_),(5,_),(4,_),(0,_),(1,_)] ⟨rfl,rfl,rfl,rfl,rfl,trivial⟩ [1] rfl [] rfl (Nat.zero_le _) ⟨rfl,trivial⟩ (fun q hI=> ?_)
  refine ah<|ah<|aj<|hy (fun _=>aa rfl)<|hy (fun _=>aa rfl)<|hy (fun _=>p9 rfl rfl)<|hy (fun _=>aa rfl)<| ?_
  refine er 20 rfl (fun h1=> ?_) (fun h1=> ?_)
  ·refine de (o:=_) rfl rfl rfl (fun _=>aa rfl)<|de (o:=_) rfl rfl rfl (fun _=>p9 rfl rfl)<|hy (fun _=>bK rfl rfl)<|ai<|al (ρ' :=[(23,_),(6,_),(15,_),(5,_),(4,_),(0,_),(1,_)]) ⟨rfl,rfl,rfl,rfl,rfl,rfl,rfl,trivial⟩<|ag<| ?_
   refine cC rfl (fun h2=> ?_) (fun h2=> ?_)
   ·refine aD<|ag<|ah<|aK<|ah<|aj<|hy (fun _=>ab rfl)<|ai<|ag<|ah<|aK<| ?_
    refine dD (fun j=>131-j) (fun j=>[(7,.int .i64 (j:Nat))]) (fun j=>[]) (fun j=>[]) (fun j=>j≤131∧i+j≤n∧kY l i (i-(q+1)) (131-j) j=lv l i (i-(q+1))) 0 [(23,_),(6,_),(15,_),(5,_),(4,_),(0,_),(1,_)] ⟨rfl,rfl,rfl,rfl,rfl,rfl,rfl,trivial⟩ [] rfl [] rfl (⟨by decide,by omega,rfl⟩) ⟨rfl,trivial⟩ (fun j ⟨hj,hij,hL⟩=> ?_)
    refine ah<|ah<|cT [] [(0,some 0),(1,some 0),(2,some 0),(3,some 0),(4,some 0),(5,some 0),(6,some 0),(7,some 0),(8,some 0),(9,some 0),(10,some 0),(11,some 0),(12,some 0),(13,some 0),(14,some 0),(15,some 0),(16,some 0),(17,some 0),(18,some 0),(19,some 0),(20,some 0),(21,some 0),(22,some 0),(23,some 0),(24,some 0),(25,some 0),(26,some 0)] (by kernel_rfl) (by kernel_rfl) rfl 99<|an (aa rfl)<|an (aa rfl)<|an (aN rfl rfl (bE (by omega) (by omega)))<|an (aa rfl)<|an (aW rfl Tryz.underlying27)<|an (bA rfl rfl)<|an (aa rfl)<| ?_
    refine kP 32 rfl (fun g1=> ?_) (fun g1=> ?_)
    ·refine bP (o:=_) rfl rfl rfl (aa rfl)<|bP (o:=_) rfl rfl rfl (bA rfl rfl)<|an (bK rfl rfl)<|an (aa rfl)<| ?_
     refine kP 36 rfl (fun g2=> ?_) (fun g2=> ?_)
     ·refine bP (o:=_) rfl rfl rfl (aa rfl)<|bP (o:=_) rfl rfl rfl (aa rfl)<|bP (o:=_) rfl rfl rfl (aa rfl)<|bP (o:=_) rfl rfl rfl (aN rfl rfl (bE (by omega) (by omega)))<|bP (o:=_) rfl rfl rfl (aM rfl rfl Tryz.underlying27 dW hA_r (show((i+j:Nat):Int)=_ by omega) (by omega))<|mU (o:=_) rfl rfl rfl (fun m=>aw rfl jn ((m.rd 0 rfl).cell (bH (by omega))))<|bP (o:=_) rfl rfl rfl (aa rfl)<|bP (o:=_) rfl rfl rfl (aa rfl)<|bP (o:=_) rfl rfl rfl (aa rfl)<|bP (o:=_) rfl rfl rfl (aN rfl rfl (bE (by omega) (by omega)))<|bP (o:=_) rfl rfl rfl (aa rfl)<|bP (o:=_) rfl rfl rfl (yV (cg rfl rfl (bE (by omega) (by omega))) ((show Value.int .i64 ((i:Int)+(j:Int)-((q+1:Nat):Int))= .int .i64 ((i-(q+1)+j:Nat):Int) by congr 1;omega)))<|bP (o:=_) rfl rfl rfl (aM rfl rfl Tryz.underlying27 dW hA_r rfl (by omega))<|mU (o:=_) rfl rfl rfl (fun m=>aw rfl jn ((m.rd 0 rfl).cell (bH (by omega))))<|bP (o:=_) rfl rfl rfl (cx rfl rfl)<|an (bK rfl rfl)<|bF<|al (ρ' :=[(52,_),(7,_),(23,_),(6,_),(15,_),(5,_),(4,_),(0,_),(1,_)]) ⟨rfl,rfl,rfl,rfl,rfl,rfl,rfl,rfl,rfl,trivial⟩<|ag<| ?_
      refine cC rfl (fun g3=> ?_) (fun g3=> ?_)
      ·have e3:l.getD (i+j) 0=l.getD (i-(q+1)+j) 0:=UInt8.toNat_inj.1 (by omega)
       rw[gK (by omega) ⟨by omega,e3⟩]at hL
       refine aD<|ag<|aK<|aj<|hy (fun _=>aa rfl)<|hy (fun _=>aN rfl rfl (bE (by omega) (by omega)))<|hy (fun _=>ab rfl)<|ai<|al (ρ' :=[(7,_),(52,_),(23,_),(6,_),(15,_),(5,_),(4,_),(0,_),(1,_)]) ⟨rfl,rfl,rfl,rfl,rfl,rfl,rfl,rfl,rfl,trivial⟩<|aS<| ?_
       refine cM (j+1) ⟨rfl,rfl,rfl,rfl,rfl,rfl,rfl,rfl,trivial⟩ [0,0] rfl [0] rfl (⟨by omega,by omega,by rw[←hL];rfl⟩) (by omega)
      ·refine bL<|ao<|ao<|aC<|ag<|ah<|aj<|hy (fun _=>aa rfl)<|hy (fun _=>cQ rfl rfl)<|hy (fun _=>aa rfl)<| ?_
       have hL2:j=lv l i (i-(q+1)):=(by rw[←hL,kR (fun e=>g3 (by rw[e.2]))])
       subst hL2
       refine er 57 rfl (fun h3=> ?_) (fun h3=> ?_)
       ·refine de (o:=_) rfl rfl rfl (fun _=>aa rfl)<|de (o:=_) rfl rfl rfl (fun _=>aL rfl kI (by decide))<|de (o:=_) rfl rfl rfl (fun m=>aw rfl fG (aA (m.aX 0 rfl) rfl))<|de (o:=_) rfl rfl rfl (fun _=>cQ rfl rfl)<|hy (fun _=>bK rfl rfl)<|ai<|al (ρ' :=[(62,_),(52,_),(7,_),(23,_),(6,_),(15,_),(5,_),(4,_),(0,_),(1,_)]) ⟨rfl,rfl,rfl,rfl,rfl,rfl,rfl,rfl,rfl,rfl,trivial⟩<|ag<| ?_
        refine cC rfl (fun h4=> ?_) (fun h4=> ?_)
        ·refine aj<|hy (fun _=>aa rfl)<|hy (fun _=>aa rfl)<|hy (fun _=>cn qP rfl rfl (by kernel_rfl) (.cons (o:=0) (sz:=1) (by kernel_rfl) rfl rfl (Nat.le_of_ble_eq_true rfl) (.cons (o:=1) (sz:=1) (by kernel_rfl) rfl rfl (Nat.le_of_ble_eq_true rfl) .nil)))<| ?_
         refine cH (aI 0 rfl rfl rfl ll rfl (mO (s:=(lv l i (i-(q+1)),q+1))) rfl ?_)
         have hst:mv (lv l i (i-(q+1)),q+1)=mv (b8 l i (q+1)):=by
          rw[dC]
          unfold fX
          rw[if_pos ⟨by omega,by omega⟩]
         refine aU (fun w m=>m.bU 0 rfl (show _=aJ g5 298 (mv (b8 l i (q+1)))from congrArg (aJ g5 _) hst)) ?_
         refine ai<|al (ρ' :=[(62,_),(52,_),(7,_),(23,_),(6,_),(15,_),(5,_),(4,_),(0,_),(1,_)]) ⟨rfl,rfl,rfl,rfl,rfl,rfl,rfl,rfl,rfl,rfl,trivial⟩<|ak (X' :=[_,_]) (S' :=[_]) (fun _ m=>m)<|aS<|ag<|aj<|hy (fun _=>aa rfl)<|hy (fun _=>aN rfl rfl (bE (by omega) (by omega)))<|hy (fun _=>ab rfl)<|ai<|al (ρ' :=[(6,_),(62,_),(52,_),(7,_),(23,_),(15,_),(5,_),(4,_),(0,_),(1,_)]) ⟨rfl,rfl,rfl,rfl,rfl,rfl,rfl,rfl,rfl,rfl,trivial⟩<| ?_
         refine cM (q+1) ⟨rfl,rfl,rfl,rfl,rfl,rfl,trivial⟩ [0,0] rfl [0] rfl ((by omega)) (by omega)
        ·have hst:mv (b8 l i q)=mv (b8 l i (q+1)):=by
          rw[dC]
          unfold fX
          rw[if_neg (fun h=>by omega)]
         refine aD<|aS<|ag<|aj<|hy (fun _=>aa rfl)<|hy (fun _=>aN rfl rfl (bE (by omega) (by omega)))<|hy (fun _=>ab rfl)<|ai<|al (ρ' :=[(6,_),(62,_),(52,_),(7,_),(23,_),(15,_),(5,_),(4,_),(0,_),(1,_)]) ⟨rfl,rfl,rfl,rfl,rfl,rfl,rfl,rfl,rfl,rfl,trivial⟩<| ?_
         refine ak (fun w m=>m.bU 0 rfl (show _=aJ g5 298 (mv (b8 l i (q+1)))from congrArg (aJ g5 _) hst)) ?_
         refine cM (q+1) ⟨rfl,rfl,rfl,rfl,rfl,rfl,trivial⟩ [0,0] rfl [0] rfl ((by omega)) (by omega)
       ·have hst:mv (b8 l i q)=mv (b8 l i (q+1)):=by
         rw[dC]
         unfold fX
         rw[if_neg (fun h=>by omega)]
        refine bu rfl rfl rfl (by decide)<|bu rfl rfl rfl (by decide)<|bu rfl rfl rfl (by decide)<|bu rfl rfl rfl (by decide)<|hy (fun _=>bN rfl rfl)<|ai<|al (ρ' :=[(62,_),(52,_),(7,_),(23,_),(6,_),(15,_),(5,_),(4,_),(0,_),(1,_)]) ⟨rfl,rfl,rfl,rfl,rfl,rfl,rfl,rfl,rfl,rfl,trivial⟩<|ag<| ?_
        refine dO rfl (rfl) ?_
        refine aD<|aS<|ag<|aj<|hy (fun _=>aa rfl)<|hy (fun _=>aN rfl rfl (bE (by omega) (by omega)))<|hy (fun _=>ab rfl)<|ai<|al (ρ' :=[(6,_),(62,_),(52,_),(7,_),(23,_),(15,_),(5,_),(4,_),(0,_),(1,_)]) ⟨rfl,rfl,rfl,rfl,rfl,rfl,rfl,rfl,rfl,rfl,trivial⟩<| ?_
        refine ak (fun w m=>m.bU 0 rfl (show _=aJ g5 298 (mv (b8 l i (q+1)))from congrArg (aJ g5 _) hst)) ?_
        refine cM (q+1) ⟨rfl,rfl,rfl,rfl,rfl,rfl,trivial⟩ [0,0] rfl [0] rfl ((by omega)) (by omega)
     ·refine aZ rfl rfl rfl (by decide)<|aZ rfl rfl rfl (by decide)<|aZ rfl rfl rfl (by decide)<|aZ rfl rfl rfl (by decide)<|aZ rfl rfl rfl (by decide)<|aZ rfl rfl rfl (by decide)<|aZ rfl rfl rfl (by decide)<|aZ rfl rfl rfl (by decide)<|aZ rfl rfl rfl (by decide)<|aZ rfl rfl rfl (by decide)<|aZ rfl rfl rfl (by decide)<|aZ rfl rfl rfl (by decide)<|aZ rfl rfl rfl (by decide)<|aZ rfl rfl rfl (by decide)<|aZ rfl rfl rfl (by decide)<|an (bN rfl rfl)<|bF<|al (ρ' :=[(52,_),(7,_),(23,_),(6,_),(15,_),(5,_),(4,_),(0,_),(1,_)]) ⟨rfl,rfl,rfl,rfl,rfl,rfl,rfl,rfl,rfl,trivial⟩<|ag<| ?_
      refine dO rfl (rfl) ?_
      refine bL<|ao<|ao<|aC<|ag<|ah<|aj<|hy (fun _=>aa rfl)<|hy (fun _=>cQ rfl rfl)<|hy (fun _=>aa rfl)<| ?_
      have hL2:j=lv l i (i-(q+1)):=(by rw[←hL,show 131-j=0 by omega];rfl)
      subst hL2
      refine er 57 rfl (fun h3=> ?_) (fun h3=> ?_)
      ·refine de (o:=_) rfl rfl rfl (fun _=>aa rfl)<|de (o:=_) rfl rfl rfl (fun _=>aL rfl kI (by decide))<|de (o:=_) rfl rfl rfl (fun m=>aw rfl fG (aA (m.aX 0 rfl) rfl))<|de (o:=_) rfl rfl rfl (fun _=>cQ rfl rfl)<|hy (fun _=>bK rfl rfl)<|ai<|al (ρ' :=[(62,_),(52,_),(7,_),(23,_),(6,_),(15,_),(5,_),(4,_),(0,_),(1,_)]) ⟨rfl,rfl,rfl,rfl,rfl,rfl,rfl,rfl,rfl,rfl,trivial⟩<|ag<| ?_
       refine cC rfl (fun h4=> ?_) (fun h4=> ?_)
       ·refine aj<|hy (fun _=>aa rfl)<|hy (fun _=>aa rfl)<|hy (fun _=>cn qP rfl rfl (by kernel_rfl) (.cons (o:=0) (sz:=1) (by kernel_rfl) rfl rfl (Nat.le_of_ble_eq_true rfl) (.cons (o:=1) (sz:=1) (by kernel_rfl) rfl rfl (Nat.le_of_ble_eq_true rfl) .nil)))<| ?_
        refine cH (aI 0 rfl rfl rfl ll rfl (mO (s:=(lv l i (i-(q+1)),q+1))) rfl ?_)
        have hst:mv (lv l i (i-(q+1)),q+1)=mv (b8 l i (q+1)):=by
         rw[dC]
         unfold fX
         rw[if_pos ⟨by omega,by omega⟩]
        refine aU (fun w m=>m.bU 0 rfl (show _=aJ g5 298 (mv (b8 l i (q+1)))from congrArg (aJ g5 _) hst)) ?_
        refine ai<|al (ρ' :=[(62,_),(52,_),(7,_),(23,_),(6,_),(15,_),(5,_),(4,_),(0,_),(1,_)]) ⟨rfl,rfl,rfl,rfl,rfl,rfl,rfl,rfl,rfl,rfl,trivial⟩<|ak (X' :=[_,_]) (S' :=[_]) (fun _ m=>m)<|aS<|ag<|aj<|hy (fun _=>aa rfl)<|hy (fun _=>aN rfl rfl (bE (by omega) (by omega)))<|hy (fun _=>ab rfl)<|ai<|al (ρ' :=[(6,_),(62,_),(52,_),(7,_),(23,_),(15,_),(5,_),(4,_),(0,_),(1,_)]) ⟨rfl,rfl,rfl,rfl,rfl,rfl,rfl,rfl,rfl,rfl,trivial⟩<| ?_
        refine cM (q+1) ⟨rfl,rfl,rfl,rfl,rfl,rfl,trivial⟩ [0,0] rfl [0] rfl ((by omega)) (by omega)
       ·have hst:mv (b8 l i q)=mv (b8 l i (q+1)):=by
         rw[dC]
         unfold fX
         rw[if_neg (fun h=>by omega)]
        refine aD<|aS<|ag<|aj<|hy (fun _=>aa rfl)<|hy (fun _=>aN rfl rfl (bE (by omega) (by omega)))<|hy (fun _=>ab rfl)<|ai<|al (ρ' :=[(6,_),(62,_),(52,_),(7,_),(23,_),(15,_),(5,_),(4,_),(0,_),(1,_)]) ⟨rfl,rfl,rfl,rfl,rfl,rfl,rfl,rfl,rfl,rfl,trivial⟩<| ?_
        refine ak (fun w m=>m.bU 0 rfl (show _=aJ g5 298 (mv (b8 l i (q+1)))from congrArg (aJ g5 _) hst)) ?_
        refine cM (q+1) ⟨rfl,rfl,rfl,rfl,rfl,rfl,trivial⟩ [0,0] rfl [0] rfl ((by omega)) (by omega)
      ·have hst:mv (b8 l i q)=mv (b8 l i (q+1)):=by
        rw[dC]
        unfold fX
        rw[if_neg (fun h=>by omega)]
       refine bu rfl rfl rfl (by decide)<|bu rfl rfl rfl (by decide)<|bu rfl rfl rfl (by decide)<|bu rfl rfl rfl (by decide)<|hy (fun _=>bN rfl rfl)<|ai<|al (ρ' :=[(62,_),(52,_),(7,_),(23,_),(6,_),(15,_),(5,_),(4,_),(0,_),(1,_)]) ⟨rfl,rfl,rfl,rfl,rfl,rfl,rfl,rfl,rfl,rfl,trivial⟩<|ag<| ?_
       refine dO rfl (rfl) ?_
       refine aD<|aS<|ag<|aj<|hy (fun _=>aa rfl)<|hy (fun _=>aN rfl rfl (bE (by omega) (by omega)))<|hy (fun _=>ab rfl)<|ai<|al (ρ' :=[(6,_),(62,_),(52,_),(7,_),(23,_),(15,_),(5,_),(4,_),(0,_),(1,_)]) ⟨rfl,rfl,rfl,rfl,rfl,rfl,rfl,rfl,rfl,rfl,trivial⟩<| ?_
       refine ak (fun w m=>m.bU 0 rfl (show _=aJ g5 298 (mv (b8 l i (q+1)))from congrArg (aJ g5 _) hst)) ?_
       refine cM (q+1) ⟨rfl,rfl,rfl,rfl,rfl,rfl,trivial⟩ [0,0] rfl [0] rfl ((by omega)) (by omega)
    ·refine aZ rfl rfl rfl (by decide)<|aZ rfl rfl rfl (by decide)<|an (bN rfl rfl)<|an (aa rfl)<| ?_
     refine aZ rfl rfl rfl (by decide)<|aZ rfl rfl rfl (by decide)<|aZ rfl rfl rfl (by decide)<|aZ rfl rfl rfl (by decide)<|aZ rfl rfl rfl (by decide)<|aZ rfl rfl rfl (by decide)<|aZ rfl rfl rfl (by decide)<|aZ rfl rfl rfl (by decide)<|aZ rfl rfl rfl (by decide)<|aZ rfl rfl rfl (by decide)<|aZ rfl rfl rfl (by decide)<|aZ rfl rfl rfl (by decide)<|aZ rfl rfl rfl (by decide)<|aZ rfl rfl rfl (by decide)<|aZ rfl rfl rfl (by decide)<|an (bN rfl rfl)<|bF<|al (ρ' :=[(52,_),(7,_),(23,_),(6,_),(15,_),(5,_),(4,_),(0,_),(1,_)]) ⟨rfl,rfl,rfl,rfl,rfl,rfl,rfl,rfl,rfl,trivial⟩<|ag<| ?_
     refine dO rfl (rfl) ?_
     refine bL<|ao<|ao<|aC<|ag<|ah<|aj<|hy (fun _=>aa rfl)<|hy (fun _=>cQ rfl rfl)<|hy (fun _=>aa rfl)<| ?_
     have hL2:j=lv l i (i-(q+1)):=(by rw[←hL,kR (fun e=>g1 (by omega))])
     subst hL2
     refine er 57 rfl (fun h3=> ?_) (fun h3=> ?_)
     ·refine de (o:=_) rfl rfl rfl (fun _=>aa rfl)<|de (o:=_) rfl rfl rfl (fun _=>aL rfl kI (by decide))<|de (o:=_) rfl rfl rfl (fun m=>aw rfl fG (aA (m.aX 0 rfl) rfl))<|de (o:=_) rfl rfl rfl (fun _=>cQ rfl rfl)<|hy (fun _=>bK rfl rfl)<|ai<|al (ρ' :=[(62,_),(52,_),(7,_),(23,_),(6,_),(15,_),(5,_),(4,_),(0,_),(1,_)]) ⟨rfl,rfl,rfl,rfl,rfl,rfl,rfl,rfl,rfl,rfl,trivial⟩<|ag<| ?_
      refine cC rfl (fun h4=> ?_) (fun h4=> ?_)
      ·refine aj<|hy (fun _=>aa rfl)<|hy (fun _=>aa rfl)<|hy (fun _=>cn qP rfl rfl (by kernel_rfl) (.cons (o:=0) (sz:=1) (by kernel_rfl) rfl rfl (Nat.le_of_ble_eq_true rfl) (.cons (o:=1) (sz:=1) (by kernel_rfl) rfl rfl (Nat.le_of_ble_eq_true rfl) .nil)))<| ?_
       refine cH (aI 0 rfl rfl rfl ll rfl (mO (s:=(lv l i (i-(q+1)),q+1))) rfl ?_)
       have hst:mv (lv l i (i-(q+1)),q+1)=mv (b8 l i (q+1)):=by
        rw[dC]
        unfold fX
        rw[if_pos ⟨by omega,by omega⟩]
       refine aU (fun w m=>m.bU 0 rfl (show _=aJ g5 298 (mv (b8 l i (q+1)))from congrArg (aJ g5 _) hst)) ?_
       refine ai<|al (ρ' :=[(62,_),(52,_),(7,_),(23,_),(6,_),(15,_),(5,_),(4,_),(0,_),(1,_)]) ⟨rfl,rfl,rfl,rfl,rfl,rfl,rfl,rfl,rfl,rfl,trivial⟩<|ak (X' :=[_,_]) (S' :=[_]) (fun _ m=>m)<|aS<|ag<|aj<|hy (fun _=>aa rfl)<|hy (fun _=>aN rfl rfl (bE (by omega) (by omega)))<|hy (fun _=>ab rfl)<|ai<|al (ρ' :=[(6,_),(62,_),(52,_),(7,_),(23,_),(15,_),(5,_),(4,_),(0,_),(1,_)]) ⟨rfl,rfl,rfl,rfl,rfl,rfl,rfl,rfl,rfl,rfl,trivial⟩<| ?_
       refine cM (q+1) ⟨rfl,rfl,rfl,rfl,rfl,rfl,trivial⟩ [0,0] rfl [0] rfl ((by omega)) (by omega)
      ·have hst:mv (b8 l i q)=mv (b8 l i (q+1)):=by
        rw[dC]
        unfold fX
        rw[if_neg (fun h=>by omega)]
       refine aD<|aS<|ag<|aj<|hy (fun _=>aa rfl)<|hy (fun _=>aN rfl rfl (bE (by omega) (by omega)))<|hy (fun _=>ab rfl)<|ai<|al (ρ' :=[(6,_),(62,_),(52,_),(7,_),(23,_),(15,_),(5,_),(4,_),(0,_),(1,_)]) ⟨rfl,rfl,rfl,rfl,rfl,rfl,rfl,rfl,rfl,rfl,trivial⟩<| ?_
       refine ak (fun w m=>m.bU 0 rfl (show _=aJ g5 298 (mv (b8 l i (q+1)))from congrArg (aJ g5 _) hst)) ?_
       refine cM (q+1) ⟨rfl,rfl,rfl,rfl,rfl,rfl,trivial⟩ [0,0] rfl [0] rfl ((by omega)) (by omega)
     ·have hst:mv (b8 l i q)=mv (b8 l i (q+1)):=by
       rw[dC]
       unfold fX
       rw[if_neg (fun h=>by omega)]
      refine bu rfl rfl rfl (by decide)<|bu rfl rfl rfl (by decide)<|bu rfl rfl rfl (by decide)<|bu rfl rfl rfl (by decide)<|hy (fun _=>bN rfl rfl)<|ai<|al (ρ' :=[(62,_),(52,_),(7,_),(23,_),(6,_),(15,_),(5,_),(4,_),(0,_),(1,_)]) ⟨rfl,rfl,rfl,rfl,rfl,rfl,rfl,rfl,rfl,rfl,trivial⟩<|ag<| ?_
      refine dO rfl (rfl) ?_
      refine aD<|aS<|ag<|aj<|hy (fun _=>aa rfl)<|hy (fun _=>aN rfl rfl (bE (by omega) (by omega)))<|hy (fun _=>ab rfl)<|ai<|al (ρ' :=[(6,_),(62,_),(52,_),(7,_),(23,_),(15,_),(5,_),(4,_),(0,_),(1,_)]) ⟨rfl,rfl,rfl,rfl,rfl,rfl,rfl,rfl,rfl,rfl,trivial⟩<| ?_
      refine ak (fun w m=>m.bU 0 rfl (show _=aJ g5 298 (mv (b8 l i (q+1)))from congrArg (aJ g5 _) hst)) ?_
      refine cM (q+1) ⟨rfl,rfl,rfl,rfl,rfl,rfl,trivial⟩ [0,0] rfl [0] rfl ((by omega)) (by omega)
   ·have hq:q=min i 1024:=by omega
    subst hq
    refine bL<|ao<|ao<|aC<|ag<|ah<|aj<|hy (fun m=>a7 rfl uO ll rfl ((m.aX 0 rfl).az))<| ?_
    refine cH (aI 1 rfl rfl rfl ll rfl mO rfl ?_)
    refine ai<|al (ρ' :=[(23,_),(6,_),(15,_),(5,_),(4,_),(0,_),(1,_)]) ⟨rfl,rfl,rfl,rfl,rfl,rfl,rfl,trivial⟩<|ak (X' :=[_,_]) (S' :=[_]) (fun _ m=>m)<|ag<|aV<| ?_
    exact fg trivial rfl rfl uO ll rfl (fun m=>(m.aX 0 rfl).az) [] rfl [] rfl ⟨rfl,rfl,rfl⟩
  ·refine bu rfl rfl rfl (by decide)<|bu rfl rfl rfl (by decide)<|hy (fun _=>bN rfl rfl)<|ai<|al (ρ' :=[(23,_),(6,_),(15,_),(5,_),(4,_),(0,_),(1,_)]) ⟨rfl,rfl,rfl,rfl,rfl,rfl,rfl,trivial⟩<|ag<| ?_
   refine dO rfl (rfl) ?_
   have hq:q=min i 1024:=by omega
   subst hq
   refine bL<|ao<|ao<|aC<|ag<|ah<|aj<|hy (fun m=>a7 rfl uO ll rfl ((m.aX 0 rfl).az))<| ?_
   refine cH (aI 1 rfl rfl rfl ll rfl mO rfl ?_)
   refine ai<|al (ρ' :=[(23,_),(6,_),(15,_),(5,_),(4,_),(0,_),(1,_)]) ⟨rfl,rfl,rfl,rfl,rfl,rfl,rfl,trivial⟩<|ak (X' :=[_,_]) (S' :=[_]) (fun _ m=>m)<|ag<|aV<| ?_
   exact fg trivial rfl rfl uO ll rfl (fun m=>(m.aX 0 rfl).az) [] rfl [] rfl ⟨rfl,rfl,rfl⟩
theorem Cq{A:Option Addr}{n c:Nat}{l:List UInt8}(hc:n≤c)(hn:n≤500000000)(hl:l.length=n):cf Tryz.prog 219 [.slice A n c] [] [c6 1 A n (aQ l)] (fun v_ X_ S_=>∃v,v_=v∧X_=[aG 5 1 v (ef l).length (aQ (ef l))]∧S_=[]):=by
 refine aO (N:=31) Tryz.func219 rfl rfl (by simp) fun b=> ?_
 refine a6 (fun m=>gz (m.rd 0 rfl)) ?_
 rintro⟨hl_r,hA_r⟩
 refine ah<|aj<|hy (fun _=>ab rfl)<|ai<|ag<|ah<|aj<|hy (fun _=>ab rfl)<|ai<|ag<|ah<|ah<|aj<|hy (fun _=>ab rfl)<|ai<|ag<|aK<| ?_
 refine bw (fun w m=>m.dy (r' :=aG 5 1 (.slice none 0 0) 0 []) (.refl _ _) (Own.nil _ _ _ _) (fun k hk=>hk.elim)) ?_
 refine lD (fun i o A3 c3=>n-i) (fun i o A3 c3=>[(3,.slice A3 o.length c3),(4,.int .i64 (i:Nat))]) (fun i o A3 c3=>[aG 5 1 (.slice A3 o.length c3) o.length (aQ o)]) (fun i o A3 c3=>[]) (fun i o A3 c3=>i≤n+128∧o.length≤2*i∧o++ef (l.drop i)=ef l) 0 [] none 0 [(2,_),(0,_)] ⟨rfl,rfl,trivial⟩ [0] rfl [] rfl (⟨by omega,by decide,rfl⟩) ⟨rfl,rfl,trivial⟩ (fun i o A3 c3 ⟨hin,hon,hE⟩=> ?_)
 refine ah<|ah<|aj<|hy (fun _=>aa rfl)<|hy (fun _=>aa rfl)<|hy (fun _=>aW rfl Tryz.underlying27)<|hy (fun _=>bA rfl rfl)<|ai<|al (ρ' :=[(9,_),(3,_),(4,_),(2,_),(0,_)]) ⟨rfl,rfl,rfl,rfl,rfl,trivial⟩<|ag<| ?_
 refine cC rfl (fun hi=> ?_) (fun hi=> ?_)
 ·obtain⟨k,hk⟩:∃k,k=min (n-i) 128:=⟨_,rfl⟩
  have hki:1≤k∧k≤128∧i+k≤n:=by omega
  have hdl:(l.drop i).length=n-i:=by rw[List.length_drop,hl]
  have hne:l.drop i≠ []:=fun e=>by rw[e]at hdl;simp at hdl;omega
  have htk:(l.drop i).take 128=(l.drop i).take k:=by
   rcases Nat.lt_or_ge (n-i) 128 with h|h
   ·rw[List.take_of_length_le (by omega),List.take_of_length_le (by omega)]
   ·rw[show k=128 by omega]
  rw[kC hne,hdl,←hk,htk,List.drop_drop]at hE
  refine bw (fun w m=>m.kM 0 rfl (View.sub (n:=n) (c:=c) (k:=i) (m:=k) (by omega) (by omega))) ?_
  refine a6 (fun m=>gz (m.rd 0 rfl)) ?_
  rintro⟨hl_p,hA_p⟩
  refine aD<|ag<|ah<|aK<|ah<|aj<|hy (fun _=>aa rfl)<|hy (fun _=>aa rfl)<|hy (fun _=>aa rfl)<|hy (fun _=>aN rfl rfl (bE (by omega) (by omega)))<|hy (fun _=>aa rfl)<|hy (fun _=>aW rfl Tryz.underlying27)<|hy (fun _=>yV (yD rfl rfl) ((show Value.int .i64 _= .int .i64 ((i+k:Nat):Int) by congr 1;omega)))<|hy (fun _=>yV (eA rfl rfl rfl Tryz.underlying27 dW rfl rfl (by omega) (by omega)) ((show Value.slice (if c=i then A else A.map (·.add (i*1))) (i+k-i) (c-i)= .slice (if c=i then A else A.map (·.add (i*1))) k (c-i) by congr 1;omega)))<|hy (fun _=>ab rfl)<|ai<|al (ρ' :=[(5,_),(9,_),(3,_),(4,_),(2,_),(0,_)]) ⟨rfl,rfl,rfl,rfl,rfl,rfl,trivial⟩<|ag<|ah<|aj<|hy (fun _=>aa rfl)<|hy (fun _=>aa rfl)<|hy (fun _=>aW rfl Tryz.underlying27)<|hy (fun _=>yV (cg rfl rfl (bE (by omega) (by omega))) ((show Value.int .i64 ((k:Int)-1)= .int .i64 ((k-1:Nat):Int) by congr 1;omega)))<|hy (fun _=>yV (bT rfl Tryz.underlying3 Tryz.underlying5 (gA _)) ((show Value.int .u8 _=B8 (UInt8.ofNat (k-1))from rfl)))<| ?_
  refine hx (b4 Tryz.underlying27 eO rfl rfl rfl (by simp[Value.cells,B8]) (by decide) (by decide) (fun g25=> ?_))
  have hA_b25:0<1→(some (⟨g25,0,none⟩:Addr))≠none:=fun _ h=>by cases h
  refine aU (fun w m=>m.bU 0 rfl (show _=aG 5 1 (.slice (some ⟨g25,0,none⟩) 1 1) 1 (aQ [UInt8.ofNat (k-1)])from rfl)) ?_
  refine hx (bI 1 rfl rfl rfl Tryz.underlying27 Tryz.underlying27 (by exact .inl rfl) eO rfl (fun m=>Src.bZ (m.ord 0 rfl)) aR (by unfold maxLen;omega) (by omega) (fun u=> ?_))
  refine aB (fun m=>(m.own 0 rfl).slice) ?_
  rintro⟨A_x,c_x,rfl,hc_x⟩
  refine aB (fun m=>(m.ord 0 rfl).2.1) fun hA_x=> ?_
  refine hy (fun _=>ab rfl)<|ai<|al (ρ' :=[(3,_),(5,_),(9,_),(4,_),(2,_),(0,_)]) ⟨rfl,rfl,rfl,rfl,rfl,rfl,trivial⟩<|ak (X' :=[_,_]) (S' :=[_,_]) (fun _ m=>m)<|ag<|aj<|hy (fun _=>aa rfl)<|hy (fun _=>aa rfl)<| ?_
  refine hx (bI 0 rfl rfl rfl Tryz.underlying27 Tryz.underlying27 (by exact .inl rfl) eO rfl (fun m=>Src.bZ (m.rd 0 rfl)) aR (by unfold maxLen;omega) (by omega) (fun u2=> ?_))
  refine aB (fun m=>(m.own 0 rfl).slice) ?_
  rintro⟨A_x2,c_x2,rfl,hc_x⟩
  refine aB (fun m=>(m.ord 0 rfl).2.1) fun hA_x=> ?_
  refine hy (fun _=>ab rfl)<|ai<|al (ρ' :=[(3,_),(5,_),(9,_),(4,_),(2,_),(0,_)]) ⟨rfl,rfl,rfl,rfl,rfl,rfl,trivial⟩<|ak (X' :=[_,_]) (S' :=[_,_]) (fun _ m=>m)<|aS<|ag<|aj<|hy (fun _=>aa rfl)<|hy (fun _=>aN rfl rfl (bE (by omega) (by omega)))<|hy (fun _=>ab rfl)<|ai<|al (ρ' :=[(4,_),(3,_),(5,_),(9,_),(2,_),(0,_)]) ⟨rfl,rfl,rfl,rfl,rfl,rfl,trivial⟩<| ?_
  have hol:o.length+1+k=(o++(UInt8.ofNat (k-1)::(l.drop i).take k)).length:=by simp;omega
  rw[hol]
  refine ak (fun w m=>m.bU 0 rfl (show _=aG 5 1 (.slice A_x2 (o++(UInt8.ofNat (k-1)::(l.drop i).take k)).length c_x2) (o++(UInt8.ofNat (k-1)::(l.drop i).take k)).length (aQ (o++(UInt8.ofNat (k-1)::(l.drop i).take k)))from congrArg (aG _ _ _ _) (show aQ o++aQ [UInt8.ofNat (k-1)]++aQ ((l.drop i).take k)=_ by rw[←br,←br,List.append_assoc];rfl))) ?_
  refine iB (i+128) (o++(UInt8.ofNat (k-1)::(l.drop i).take k)) _ _ ⟨rfl,rfl,rfl,rfl,trivial⟩ [0] rfl [1] rfl (⟨by omega,by rw[←hol];omega,by rw[←hE];simp⟩) (by omega)
 ·rw[List.drop_of_length_le (by omega),l5,List.append_nil]at hE
  subst hE
  refine bL<|ao<|ao<|aC<|ag<|ah<|aj<|hy (fun _=>aa rfl)<|hy (fun _=>ab rfl)<|ai<|al (ρ' :=[(2,_),(9,_),(3,_),(4,_),(0,_)]) ⟨rfl,rfl,rfl,rfl,rfl,trivial⟩<|ag<|aV<| ?_
  exact bh trivial rfl rfl [0] rfl [] rfl ⟨_,rfl,rfl,rfl⟩
theorem Ea{A:Option Addr}{n c:Nat}{l:List UInt8}(hc:n≤c)(hn:n≤500000000)(hl:l.length=n):cf Tryz.prog 159 [.slice A n c] [] [c6 1 A n (aQ l)] (fun v_ X_ S_=>∃v,v_=v∧X_=[aG 5 1 v (ei l).length (aQ (ei l))]∧S_=[]):=by
 refine aO (N:=54) Tryz.func159 rfl rfl (by simp) fun b=> ?_
 refine a6 (fun m=>gz (m.rd 0 rfl)) ?_
 rintro⟨hl_r,hA_r⟩
 refine ah<|aj<|hy (fun _=>ab rfl)<|ai<|ag<|ah<|aj<|hy (fun _=>ab rfl)<|ai<|ag<|ah<|aj<|hy (fun _=>ab rfl)<|ai<|ag<|ah<|aj<|hy (fun _=>ab rfl)<|ai<|ag<|ah<|aK<| ?_
 refine bw (fun w m=>m.dy (r' :=aG 5 1 (.slice none 0 0) 0 []) (.refl _ _) (Own.nil _ _ _ _) (fun k hk=>hk.elim)) ?_
 refine tU (fun i f o A3 c3=>n-i) (fun i f o A3 c3=>[(3,.slice A3 o.length c3),(4,.int .i64 (f:Nat)),(5,.int .i64 (i:Nat))]) (fun i f o A3 c3=>[aG 5 1 (.slice A3 o.length c3) o.length (aQ o)]) (fun i f o A3 c3=>[]) (fun i f o A3 c3=>i≤n∧f≤i∧o.length+2*(i-f)≤2*i∧gp l i ((l.drop f).take (i-f)) o=ei l) 0 0 [] none 0 [(2,_),(0,_)] ⟨rfl,rfl,trivial⟩ [0] rfl [] rfl (⟨by omega,by decide,by decide,rfl⟩) ⟨rfl,rfl,rfl,trivial⟩ (fun i f o A3 c3 ⟨hin,hfi,hon,hE⟩=> ?_)
 have hown:((l.drop f).take (i-f)).length=i-f:=by rw[List.length_take,List.length_drop];omega
 refine ah<|ah<|aj<|hy (fun _=>aa rfl)<|hy (fun _=>aa rfl)<|hy (fun _=>aW rfl Tryz.underlying27)<|hy (fun _=>bA rfl rfl)<|ai<|al (ρ' :=[(10,_),(3,_),(4,_),(5,_),(2,_),(0,_)]) ⟨rfl,rfl,rfl,rfl,rfl,rfl,trivial⟩<|ag<| ?_
 refine cC rfl (fun hi=> ?_) (fun hi=> ?_)
 ·refine aD<|ag<|aK<|ah<|aj<|hy (fun _=>aa rfl)<|hy (fun _=>aa rfl)<| ?_
  refine hx (aq rfl Tryz.call218 (A6 (by omega) hl (by omega)) [] rfl [0] rfl ?_)
  rintro _ _ _ ⟨rfl,rfl,rfl⟩
  refine hx (aP qP (fun g6=> ?_))
  refine cH (aI 0 rfl rfl rfl ll rfl mO rfl ?_)
  refine ai<|al (ρ' :=[(6,_),(10,_),(3,_),(4,_),(5,_),(2,_),(0,_)]) ⟨rfl,rfl,rfl,rfl,rfl,rfl,rfl,trivial⟩<|ak (X' :=[_,_]) (S' :=[_]) (fun _ m=>m)<|ag<|ah<|ah<|aj<|hy (fun _=>aL rfl kI (by decide))<|hy (fun m=>aw rfl fG (aA (m.aX 0 rfl) rfl))<|hy (fun _=>cx rfl rfl)<|ai<|al (ρ' :=[(16,_),(6,_),(10,_),(3,_),(4,_),(5,_),(2,_),(0,_)]) ⟨rfl,rfl,rfl,rfl,rfl,rfl,rfl,rfl,trivial⟩<|ag<| ?_
  refine cC rfl (fun h0=> ?_) (fun h0=> ?_)
  ·rw[kK (by omega) (by omega)]at hE
   have hsn:(l.drop f).take (i-f)++[l.getD i 0]=(l.drop f).take (i+1-f):=by
    rw[show i+1-f=(i-f)+1 by omega,eD (by rw[List.length_drop];omega)]
    congr 2
    simp only[List.getD,List.getElem?_drop]
    rw[show f+(i-f)=i by omega]
   rw[hsn]at hE
   refine ah<|aj<|hy (fun _=>aa rfl)<|hy (fun _=>aN rfl rfl (bE (by omega) (by omega)))<|hy (fun _=>ab rfl)<|ai<|al (ρ' :=[(5,_),(16,_),(6,_),(10,_),(3,_),(4,_),(2,_),(0,_)]) ⟨rfl,rfl,rfl,rfl,rfl,rfl,rfl,rfl,trivial⟩<|ag<|bL<|ao<|aC<| ?_
   refine oX (i+1) f o A3 c3 ⟨rfl,rfl,rfl,rfl,rfl,trivial⟩ [1] rfl [0] rfl (⟨by omega,by omega,by omega,hE⟩) (by omega)
  ·have hm:=kB (b:=l) (i:=i) (by omega)
   rw[iw (by omega) (by omega)]at hE
   obtain⟨m1,m2,m3,m4,m5,m6⟩:=hm.resolve_left (fun e=>h0 (by rw[e];rfl))
   have hll:=fa ((l.drop f).take (i-f))
   refine bw (fun w m=>m.kM 0 rfl (View.sub (n:=n) (c:=c) (k:=f) (m:=i-f) (by omega) (by omega))) ?_
   refine a6 (fun m=>gz (m.rd 0 rfl)) ?_
   rintro⟨hl_p,hA_p⟩
   refine aD<|ag<|ah<|aj<|hy (fun _=>aa rfl)<|hy (fun _=>aa rfl)<|hy (fun _=>aa rfl)<|hy (fun _=>aa rfl)<|hy (fun _=>eA rfl rfl rfl Tryz.underlying27 dW rfl rfl (by omega) (by omega))<| ?_
   refine hx (aq rfl Tryz.call219 (Cq (by omega) (by omega) hown) [] rfl [0] rfl ?_)
   rintro _ _ _ ⟨v,rfl,rfl,rfl⟩
   refine aB (fun m=>(m.own 0 rfl).slice) ?_
   rintro⟨A_x2,c_x2,rfl,hc_x2⟩
   refine aB (fun m=>(m.ord 0 rfl).2.1) fun hA_x2=> ?_
   refine hx (bI 2 rfl rfl rfl Tryz.underlying27 Tryz.underlying27 (by exact .inl rfl) eO rfl (fun m=>Src.bZ (m.ord 0 rfl)) aR (by unfold maxLen;omega) (by omega) (fun u=> ?_))
   refine aB (fun m=>(m.own 0 rfl).slice) ?_
   rintro⟨A_x,c_x,rfl,hc_x⟩
   refine aB (fun m=>(m.ord 0 rfl).2.1) fun hA_x=> ?_
   generalize hLL:ef ((l.drop f).take (i-f))=L at hE hll ⊢
   refine hy (fun _=>ab rfl)<|ai<|al (ρ' :=[(3,_),(16,_),(6,_),(10,_),(4,_),(5,_),(2,_),(0,_)]) ⟨rfl,rfl,rfl,rfl,rfl,rfl,rfl,rfl,trivial⟩<|ak (X' :=[_,_,_]) (S' :=[_,_]) (fun _ m=>m)<|ag<|ah<|aj<|hy (fun _=>aa rfl)<|hy (fun _=>aL rfl kI (by decide))<|hy (fun m=>aw rfl fG (aA (m.aX 2 rfl) rfl))<|hy (fun _=>yV (aN rfl rfl (bE (by omega) (by omega))) ((show Value.int .i64 (124+((aT l i).1:Int))= .int .i64 ((124+(aT l i).1:Nat):Int) by congr 1)))<|hy (fun _=>yV (bT rfl Tryz.underlying3 Tryz.underlying5 (gA _)) ((show Value.int .u8 _=B8 (UInt8.ofNat (124+(aT l i).1))from rfl)))<|hy (fun _=>aL rfl vb (by decide))<|hy (fun m=>aw rfl fG (aA (m.aX 2 rfl) rfl))<|hy (fun _=>yV (cg rfl rfl (bE (by omega) (by omega))) ((show Value.int .i64 (((aT l i).2:Int)-1)= .int .i64 (((aT l i).2-1:Nat):Int) by congr 1;omega)))<|hy (fun _=>yV (gC rfl rfl (by omega) (by omega)) ((show Value.int .i64 ((((aT l i).2-1:Nat):Int) % 256)= .int .i64 ((((aT l i).2-1) % 256:Nat):Int) by congr 1)))<|hy (fun _=>yV (bT rfl Tryz.underlying3 Tryz.underlying5 (gA _)) ((show Value.int .u8 _=B8 (UInt8.ofNat (((aT l i).2-1) % 256))from rfl)))<|hy (fun _=>aL rfl vb (by decide))<|hy (fun m=>aw rfl fG (aA (m.aX 2 rfl) rfl))<|hy (fun _=>yV (cg rfl rfl (bE (by omega) (by omega))) ((show Value.int .i64 (((aT l i).2:Int)-1)= .int .i64 (((aT l i).2-1:Nat):Int) by congr 1;omega)))<|hy (fun _=>yV (jU rfl rfl (by omega) (by omega) (bE (by omega) (by omega))) ((show Value.int .i64 ((((aT l i).2-1:Nat):Int)/256)= .int .i64 ((((aT l i).2-1)/256:Nat):Int) by congr 1)))<|hy (fun _=>yV (bT rfl Tryz.underlying3 Tryz.underlying5 (gA _)) ((show Value.int .u8 _=B8 (UInt8.ofNat (((aT l i).2-1)/256))from rfl)))<| ?_
   refine hx (b4 Tryz.underlying27 eO rfl rfl rfl (by simp[Value.cells,B8]) (by decide) (by decide) (fun g41=> ?_))
   have hA_b41:0<3→(some (⟨g41,0,none⟩:Addr))≠none:=fun _ h=>by cases h
   have htm:[UInt8.ofNat (124+(aT l i).1),UInt8.ofNat (((aT l i).2-1) % 256),UInt8.ofNat (((aT l i).2-1)/256)]=fJ (aT l i):=by
    unfold fJ
    congr 2
    exact UInt8.toNat_inj.1 (by rw[UInt8.toNat_ofNat',UInt8.toNat_ofNat'];omega)
   refine aU (fun w m=>m.bU 0 rfl (show _=aG 5 1 (.slice (some ⟨g41,0,none⟩) 3 3) 3 (aQ (fJ (aT l i)))from congrArg (aG _ _ _ _) (show aQ [UInt8.ofNat (124+(aT l i).1),UInt8.ofNat (((aT l i).2-1) % 256),UInt8.ofNat (((aT l i).2-1)/256)]=_ by rw[htm]))) ?_
   refine hx (bI 1 rfl rfl rfl Tryz.underlying27 Tryz.underlying27 (by exact .inl rfl) eO rfl (fun m=>Src.bZ (m.ord 0 rfl)) aR (by unfold maxLen;omega) (by omega) (fun u2=> ?_))
   refine aB (fun m=>(m.own 0 rfl).slice) ?_
   rintro⟨A_x3,c_x3,rfl,hc_x⟩
   refine aB (fun m=>(m.ord 0 rfl).2.1) fun hA_x=> ?_
   refine hy (fun _=>ab rfl)<|ai<|al (ρ' :=[(3,_),(16,_),(6,_),(10,_),(4,_),(5,_),(2,_),(0,_)]) ⟨rfl,rfl,rfl,rfl,rfl,rfl,rfl,rfl,trivial⟩<|ak (X' :=[_,_,_,_]) (S' :=[_,_]) (fun _ m=>m)<|ag<|ah<|aj<|hy (fun _=>aa rfl)<|hy (fun _=>aL rfl kI (by decide))<|hy (fun m=>aw rfl fG (aA (m.aX 3 rfl) rfl))<|hy (fun _=>yV (aN rfl rfl (bE (by omega) (by omega))) ((show Value.int .i64 ((i:Int)+((aT l i).1:Int))= .int .i64 ((i+(aT l i).1:Nat):Int) by congr 1)))<|hy (fun _=>ab rfl)<|ai<|al (ρ' :=[(5,_),(3,_),(16,_),(6,_),(10,_),(4,_),(2,_),(0,_)]) ⟨rfl,rfl,rfl,rfl,rfl,rfl,rfl,rfl,trivial⟩<|ag<|aj<|hy (fun _=>aa rfl)<|hy (fun _=>ab rfl)<|ai<|al (ρ' :=[(4,_),(5,_),(3,_),(16,_),(6,_),(10,_),(2,_),(0,_)]) ⟨rfl,rfl,rfl,rfl,rfl,rfl,rfl,rfl,trivial⟩<|aS<| ?_
   have hol:o.length+L.length+3=(o++L++fJ (aT l i)).length:=by simp[fJ];omega
   rw[hol]
   refine ak (fun w m=>m.bU 0 rfl (show _=aG 5 1 (.slice A_x3 (o++L++fJ (aT l i)).length c_x3) (o++L++fJ (aT l i)).length (aQ (o++L++fJ (aT l i)))from congrArg (aG _ _ _ _) (show aQ o++aQ L++aQ (fJ (aT l i))=aQ (o++L++fJ (aT l i)) by rw[br,br]))) ?_
   have hE2:gp l (i+(aT l i).1) ((l.drop (i+(aT l i).1)).take (i+(aT l i).1-(i+(aT l i).1))) (o++L++fJ (aT l i))=ei l:=by rw[Nat.sub_self,List.take_zero];exact hE
   refine oX (i+(aT l i).1) (i+(aT l i).1) (o++L++fJ (aT l i)) _ _ ⟨rfl,rfl,rfl,rfl,rfl,trivial⟩ [0] rfl [1] rfl (⟨by omega,Nat.le_refl _,by rw[←hol];omega,hE2⟩) (by omega)
 ·obtain rfl:i=n:=by omega
  rw[kH (by omega),List.take_of_length_le (by rw[List.length_drop];omega)]at hE
  have hdl:(l.drop f).length=i-f:=by rw[List.length_drop];omega
  have hll:=fa (l.drop f)
  refine bw (fun w m=>m.kM 0 rfl (View.drop (n:=i) (c:=c) (k:=f) (by omega) (by omega))) ?_
  refine a6 (fun m=>gz (m.rd 0 rfl)) ?_
  rintro⟨hl_p,hA_p⟩
  refine bL<|ao<|ao<|aC<|ag<|ah<|aj<|hy (fun _=>aa rfl)<|hy (fun _=>aa rfl)<|hy (fun _=>aa rfl)<|hy (fun _=>ec rfl rfl Tryz.underlying27 dW rfl (by omega))<| ?_
  refine hx (aq rfl Tryz.call219 (Cq (by omega) (by omega) hdl) [] rfl [0] rfl ?_)
  rintro _ _ _ ⟨v,rfl,rfl,rfl⟩
  refine aB (fun m=>(m.own 0 rfl).slice) ?_
  rintro⟨A_x2,c_x2,rfl,hc_x2⟩
  refine aB (fun m=>(m.ord 0 rfl).2.1) fun hA_x2=> ?_
  refine hx (bI 1 rfl rfl rfl Tryz.underlying27 Tryz.underlying27 (by exact .inl rfl) eO rfl (fun m=>Src.bZ (m.ord 0 rfl)) aR (by unfold maxLen;omega) (by omega) (fun u=> ?_))
  refine aB (fun m=>(m.own 0 rfl).slice) ?_
  rintro⟨A_x,c_x,rfl,hc_x⟩
  refine aB (fun m=>(m.ord 0 rfl).2.1) fun hA_x=> ?_
  have hol:o.length+(ef (l.drop f)).length=(ei l).length:=by rw[←hE];simp
  rw[hol]
  refine aU (fun w m=>m.bU 0 rfl (show _=aG 5 1 (.slice A_x (ei l).length c_x) (ei l).length (aQ (ei l))from congrArg (aG _ _ _ _) (show aQ o++aQ (ef (l.drop f))=aQ (ei l) by rw[←hE,br]))) ?_
  refine hy (fun _=>ab rfl)<|ai<|al (ρ' :=[(2,_),(10,_),(3,_),(4,_),(5,_),(0,_)]) ⟨rfl,rfl,rfl,rfl,rfl,rfl,trivial⟩<|ak (X' :=[_,_]) (S' :=[_,_]) (fun _ m=>m)<|ag<|aV<| ?_
  exact bh trivial rfl rfl [0] rfl [] rfl ⟨_,rfl,rfl,rfl⟩
end Go.Proofs.YtmibdabdlgmafaaGreatDoor
end
section
set_option maxRecDepth 20000
set_option maxHeartbeats 2000000
namespace Go.Proofs.YtmibdabdlgmafaaGreatDoor
open Go.Eng Go.Hx
theorem vk{A:Option Addr}{n c:Nat}{l:List UInt8}(hc:n≤c)(hn:n≤1000000000)(hl:l.length=n):cf Tryz.prog 161 [.slice A n c] [] [c6 1 A n (aQ l)] (fun v_ X_ S_=>∃v,v_=v∧X_=[aG 5 1 v 4 (aQ (gk (cG l)))]∧S_=[]):=by
 have e4:n+4-n=4:=by omega
 have ed:(aQ (yK l)).drop (n*1)=aQ (gk (cG l)):=by rw[Nat.mul_one,←o3,yK,List.drop_append_of_le_length (by omega),List.drop_of_length_le (by omega)];rfl
 refine aO (N:=8) Tryz.func161 rfl rfl (by simp) fun b=> ?_
 refine a6 (fun m=>gz (m.rd 0 rfl)) ?_
 rintro⟨hl_r,hA_r⟩
 refine ah<|aj<|hy (fun _=>ab rfl)<|ai<|ag<|ah<|aj<|hy (fun _=>aa rfl)<| ?_
 refine hx (aq rfl Tryz.call189 (xK (by omega)) [] rfl [0] rfl ?_)
 rintro _ _ _ ⟨v,rfl,rfl,rfl⟩
 refine aB (fun m=>(m.own 0 rfl).slice) ?_
 rintro⟨A_x,c_x,rfl,hc_x⟩
 refine aB (fun m=>(m.ord 0 rfl).2.1) fun hA_x=> ?_
 refine hy (fun _=>aa rfl)<|hy (fun _=>aW rfl Tryz.underlying27)<|hy (fun _=>yV (ec rfl rfl Tryz.underlying27 dW rfl (by omega)) ((show Value.slice (if c_x=n then A_x else A_x.map (·.add (n*1))) (n+4-n) (c_x-n)= .slice (if c_x=n then A_x else A_x.map (·.add (n*1))) 4 (c_x-n) by congr 1)))<|hy (fun _=>ab rfl)<|ai<|al (ρ' :=[(2,_),(0,_)]) ⟨rfl,rfl,trivial⟩<|ak (X' :=[_]) (S' :=[_]) (fun _ m=>m)<|ag<|aV<| ?_
 refine ak (X' :=aG 5 1 (.slice (if c_x=n then A_x else A_x.map (·.add (n*1))) (n+4-n) (c_x-n)) (n+4-n) ((aQ (yK l)).drop (n*1))::_) (fun w m=>(m.perm (ar [0] _ [_] _ rfl)).vd (View.q9 (by omega) hc_x)) ?_
 rw[e4,ed]
 exact bh trivial rfl rfl [0] rfl [] rfl ⟨_,rfl,rfl,rfl⟩
theorem CR{A:Option Addr}{n c:Nat}{l:List UInt8}(hc:n≤c)(hn:n≤100000000)(hl:l.length=n):cf Tryz.prog 81 [.slice A n c] [] [c6 1 A n (aQ l)] (fun v_ X_ S_=>∃v,v_=v∧X_=[aG 5 1 v (bx l).length (aQ (bx l))]∧S_=[]):=by
 have hpl:=lU l
 have hcl:=iW l
 refine aO (N:=30) Tryz.func81 rfl rfl (by simp) fun b=> ?_
 refine a6 (fun m=>gz (m.rd 0 rfl)) ?_
 rintro⟨hl_r,hA_r⟩
 refine ah<|aj<|hy (fun _=>ab rfl)<|ai<|ag<|ah<|aj<|hy (fun _=>aa rfl)<| ?_
 refine hx (aq rfl Tryz.call159 (Ea (by omega) (by omega) (by omega)) [] rfl [0] rfl ?_)
 rintro _ _ _ ⟨v,rfl,rfl,rfl⟩
 refine aB (fun m=>(m.own 0 rfl).slice) ?_
 rintro⟨A_x,c_x,rfl,hc_x⟩
 refine aB (fun m=>(m.ord 0 rfl).2.1) fun hA_x=> ?_
 refine hy (fun _=>ab rfl)<|ai<|al (ρ' :=[(3,_),(2,_),(0,_)]) ⟨rfl,rfl,rfl,trivial⟩<|ak (X' :=[_]) (S' :=[_]) (fun _ m=>m)<|ag<|ah<|aj<| ?_
 refine hx (b4 Tryz.underlying27 eO rfl rfl rfl (by simp[Value.cells,B8]) (by decide) (by decide) (fun g7=> ?_))
 have hA_b7:0<2→(some (⟨g7,0,none⟩:Addr))≠none:=fun _ h=>by cases h
 refine hy (fun _=>ab rfl)<|ai<|al (ρ' :=[(4,_),(3,_),(2,_),(0,_)]) ⟨rfl,rfl,rfl,rfl,trivial⟩<|ak (X' :=[_,_]) (S' :=[_]) (fun _ m=>m)<|ag<|ah<|aj<|hy (fun _=>aa rfl)<|hy (fun _=>aa rfl)<|hy (fun _=>aW rfl Tryz.underlying27)<| ?_
 refine hx (aq rfl Tryz.call160 (A8 (by omega)) [] rfl [] rfl ?_)
 rintro _ _ _ ⟨v2,rfl,rfl,rfl⟩
 refine aB (fun m=>(m.own 0 rfl).slice) ?_
 rintro⟨A_x2,c_x2,rfl,hc_x2⟩
 refine aB (fun m=>(m.ord 0 rfl).2.1) fun hA_x2=> ?_
 refine aU (fun w m=>m.bU 1 rfl (show _=aG 5 1 (.slice (some ⟨g7,0,none⟩) 2 2) 2 (aQ [76,0])from rfl)) ?_
 refine hx (bI 0 rfl rfl rfl Tryz.underlying27 Tryz.underlying27 (by exact .inl rfl) eO rfl (fun m=>Src.bZ (m.ord 1 rfl)) aR (by unfold maxLen;omega) (by omega) (fun u=> ?_))
 refine aB (fun m=>(m.own 0 rfl).slice) ?_
 rintro⟨A_b7,c_b7,rfl,hc_b7⟩
 refine aB (fun m=>(m.ord 0 rfl).2.1) fun hA_b7=> ?_
 refine hy (fun _=>ab rfl)<|ai<|al (ρ' :=[(4,_),(3,_),(2,_),(0,_)]) ⟨rfl,rfl,rfl,rfl,trivial⟩<|ak (X' :=[_,_,_]) (S' :=[_]) (fun _ m=>m)<|ag<|ah<|ah<|aj<|hy (fun _=>aa rfl)<|hy (fun _=>aW rfl Tryz.underlying27)<|hy (fun _=>aa rfl)<|hy (fun _=>aW rfl Tryz.underlying27)<|hy (fun _=>bA rfl rfl)<|ai<|al (ρ' :=[(17,_),(4,_),(3,_),(2,_),(0,_)]) ⟨rfl,rfl,rfl,rfl,rfl,trivial⟩<|ag<| ?_
 refine cC rfl (fun hp=> ?_) (fun hp=> ?_)
 ·have hq:bx l=[76,1]++gk l.length++ei l++gk (cG l):=by
   have:ue l=true:=by unfold ue;exact decide_eq_true (by omega)
   unfold bx gT
   rw[this];rfl
  refine ah<|aj<|hy (fun _=>aa rfl)<|hy (fun _=>aM rfl rfl Tryz.underlying27 dW hA_b7 (show((1:Nat):Int)=1 from rfl) (by omega))<| ?_
  refine cH (yz 0 rfl rfl rfl dW rfl (by omega) ?_)
  refine ai<|al (ρ' :=[(17,_),(4,_),(3,_),(2,_),(0,_)]) ⟨rfl,rfl,rfl,rfl,rfl,trivial⟩<|ak (X' :=[_,_,_]) (S' :=[_]) (fun _ m=>m)<|ag<|aj<|hy (fun _=>aa rfl)<|hy (fun _=>aa rfl)<| ?_
  refine aU (fun w m=>m.bU 0 rfl (show _=aG 5 1 (.slice A_b7 (2+4) c_b7) (2+4) (aQ ([76,1]++gk n))from rfl)) ?_
  refine hx (bI 0 rfl rfl rfl Tryz.underlying27 Tryz.underlying27 (by exact .inl rfl) eO rfl (fun m=>Src.bZ (m.ord 2 rfl)) aR (by unfold maxLen;omega) (by omega) (fun u2=> ?_))
  refine aB (fun m=>(m.own 0 rfl).slice) ?_
  rintro⟨A_b72,c_b72,rfl,hc_b7⟩
  refine aB (fun m=>(m.ord 0 rfl).2.1) fun hA_b7=> ?_
  refine hy (fun _=>ab rfl)<|ai<|al (ρ' :=[(4,_),(17,_),(3,_),(2,_),(0,_)]) ⟨rfl,rfl,rfl,rfl,rfl,trivial⟩<|ak (X' :=[_,_,_]) (S' :=[_]) (fun _ m=>m)<|ag<|ah<|aj<|hy (fun _=>aa rfl)<|hy (fun _=>aa rfl)<| ?_
  refine hx (aq rfl Tryz.call161 (vk (by omega) (by omega) (by omega)) [] rfl [0] rfl ?_)
  rintro _ _ _ ⟨v3,rfl,rfl,rfl⟩
  refine aB (fun m=>(m.own 0 rfl).slice) ?_
  rintro⟨A_x3,c_x3,rfl,hc_x3⟩
  refine aB (fun m=>(m.ord 0 rfl).2.1) fun hA_x3=> ?_
  refine hx (bI 1 rfl rfl rfl Tryz.underlying27 Tryz.underlying27 (by exact .inl rfl) eO rfl (fun m=>Src.bZ (m.ord 0 rfl)) aR (by unfold maxLen;omega) (by omega) (fun u3=> ?_))
  refine aB (fun m=>(m.own 0 rfl).slice) ?_
  rintro⟨A_b73,c_b73,rfl,hc_b7⟩
  refine aB (fun m=>(m.ord 0 rfl).2.1) fun hA_b7=> ?_
  refine hy (fun _=>ab rfl)<|ai<|al (ρ' :=[(2,_),(4,_),(17,_),(3,_),(0,_)]) ⟨rfl,rfl,rfl,rfl,rfl,trivial⟩<|ak (X' :=[_,_,_,_]) (S' :=[_]) (fun _ m=>m)<|ag<|aV<| ?_
  have hol:2+4+(ei l).length+4=(bx l).length:=by rw[hq];simp[eX,hl];try omega
  rw[hol]
  have hsl:aQ ([76,1]++gk n)++aQ (ei l)++aQ (gk (cG l))=aQ (bx l):=by rw[hq,hl,br ([76,1]++gk n++(ei l)),br ([76,1]++gk n)]
  rw[hsl]
  exact bh trivial rfl rfl [0] rfl [] rfl ⟨_,rfl,rfl,rfl⟩
 ·have hq:bx l=[76,0]++gk l.length++l++gk (cG l):=by
   have:ue l=false:=by unfold ue;exact decide_eq_false (by omega)
   unfold bx gT
   rw[this];rfl
  refine aj<|hy (fun _=>aa rfl)<|hy (fun _=>aa rfl)<| ?_
  refine aU (fun w m=>m.bU 0 rfl (show _=aG 5 1 (.slice A_b7 (2+4) c_b7) (2+4) (aQ ([76,0]++gk n))from rfl)) ?_
  refine hx (bI 0 rfl rfl rfl Tryz.underlying27 Tryz.underlying27 (by exact .inl rfl) eO rfl (fun m=>Src.bZ (m.rd 0 rfl)) aR (by unfold maxLen;omega) (by omega) (fun u2=> ?_))
  refine aB (fun m=>(m.own 0 rfl).slice) ?_
  rintro⟨A_b72,c_b72,rfl,hc_b7⟩
  refine aB (fun m=>(m.ord 0 rfl).2.1) fun hA_b7=> ?_
  refine hy (fun _=>ab rfl)<|ai<|al (ρ' :=[(4,_),(17,_),(3,_),(2,_),(0,_)]) ⟨rfl,rfl,rfl,rfl,rfl,trivial⟩<|ak (X' :=[_,_,_]) (S' :=[_]) (fun _ m=>m)<|ag<|ah<|aj<|hy (fun _=>aa rfl)<|hy (fun _=>aa rfl)<| ?_
  refine hx (aq rfl Tryz.call161 (vk (by omega) (by omega) (by omega)) [] rfl [0] rfl ?_)
  rintro _ _ _ ⟨v3,rfl,rfl,rfl⟩
  refine aB (fun m=>(m.own 0 rfl).slice) ?_
  rintro⟨A_x3,c_x3,rfl,hc_x3⟩
  refine aB (fun m=>(m.ord 0 rfl).2.1) fun hA_x3=> ?_
  refine hx (bI 1 rfl rfl rfl Tryz.underlying27 Tryz.underlying27 (by exact .inl rfl) eO rfl (fun m=>Src.bZ (m.ord 0 rfl)) aR (by unfold maxLen;omega) (by omega) (fun u3=> ?_))
  refine aB (fun m=>(m.own 0 rfl).slice) ?_
  rintro⟨A_b73,c_b73,rfl,hc_b7⟩
  refine aB (fun m=>(m.ord 0 rfl).2.1) fun hA_b7=> ?_
  refine hy (fun _=>ab rfl)<|ai<|al (ρ' :=[(2,_),(4,_),(17,_),(3,_),(0,_)]) ⟨rfl,rfl,rfl,rfl,rfl,trivial⟩<|ak (X' :=[_,_,_,_]) (S' :=[_]) (fun _ m=>m)<|ag<|aV<| ?_
  have hol:2+4+n+4=(bx l).length:=by rw[hq];simp[eX,hl];try omega
  rw[hol]
  have hsl:aQ ([76,0]++gk n)++aQ l++aQ (gk (cG l))=aQ (bx l):=by rw[hq,hl,br ([76,0]++gk n++l),br ([76,0]++gk n)]
  rw[hsl]
  exact bh trivial rfl rfl [0] rfl [] rfl ⟨_,rfl,rfl,rfl⟩
end Go.Proofs.YtmibdabdlgmafaaGreatDoor
end
section
set_option maxRecDepth 20000
set_option maxHeartbeats 4000000
namespace Go.Proofs.YtmibdabdlgmafaaGreatDoor
open Go.Eng Go.Hx
@[reducible]def GB (v:Value) (nn e:Int):List Value:=[v,.int .i64 nn,.int .i64 e]
theorem jM{A:Option Addr}{n c:Nat}{nn e:Int}:∀u∈GB (.slice A n c) nn e,u.oneCell' =true:=by
 intro u hu
 simp only[List.mem_cons,List.not_mem_nil,or_false]at hu
 rcases hu with rfl|rfl|rfl <;> rfl
theorem kS(l:List UInt8)(i j:Nat):(l.drop i).getD j 0=l.getD (i+j) 0:=by simp[List.getD,List.getElem?_drop]
theorem zL{A:Option Addr}{n c:Nat}{l:List UInt8}{z:Int}(hc:n≤c)(hn:n≤10000000)(hl:l.length=n)(hz:z≤10000000):cf Tryz.prog 217 [.slice A n c,.int .i64 z] [] [c6 1 A n (aQ l)] (fun v_ X_ S_=>∃v nn,v_=(.agg (GB v nn (jo z l []).2).toArray)∧X_=[aG 5 1 v (jo z l []).1.length (aQ (jo z l []).1)]∧S_=[]):=by
 refine aO (N:=109) Tryz.func217 rfl rfl (by simp) fun b=> ?_
 refine a6 (fun m=>gz (m.rd 0 rfl)) ?_
 rintro⟨hl_r,hA_r⟩
 refine ah<|aj<| ?_
 refine hx (aP nj (fun g4=> ?_))
 refine ai<|ak (X' :=[_]) (S' :=[_]) (fun _ m=>m)<|ag<|ah<|aj<|hy (fun _=>ab rfl)<|ai<|ag<|ah<|aj<|hy (fun _=>ab rfl)<|ai<|ag<|ah<|ah<|aj<|hy (fun _=>ab rfl)<|ai<|ag<|aK<| ?_
 refine bw (fun w m=>m.dy (r' :=aG 5 1 (.slice none 0 0) 0 []) (.refl _ _) (Own.nil _ _ _ _) (fun k hk=>hk.elim)) ?_
 refine tU (fun i o nn A3 c3=>n-i) (fun i o nn A3 c3=>[(5,.slice A3 (o:List UInt8).length c3),(6,.int .i64 (nn:Nat)),(7,.int .i64 (i:Nat))]) (fun i o nn A3 c3=>[aG 5 1 (.slice A3 o.length c3) o.length (aQ o)]) (fun i o nn A3 c3=>[]) (fun i o nn A3 c3=>i≤n∧nn≤i∧o.length≤10000000∧jo z (l.drop i) o=jo z l []) 0 [] 0 none 0 [(4,_),(0,_),(1,_)] ⟨rfl,rfl,rfl,trivial⟩ [0] rfl [] rfl (⟨Nat.zero_le _,Nat.zero_le _,Nat.zero_le _,rfl⟩) ⟨rfl,rfl,rfl,trivial⟩ (fun i o nn A3 c3 ⟨hin,hni,hol,hU⟩=> ?_)
 refine ah<|ah<|aj<|hy (fun _=>aa rfl)<|hy (fun _=>aa rfl)<|hy (fun _=>aW rfl Tryz.underlying27)<|hy (fun _=>bA rfl rfl)<|ai<|al (ρ' :=[(14,_),(5,_),(6,_),(7,_),(4,_),(0,_),(1,_)]) ⟨rfl,rfl,rfl,rfl,rfl,rfl,rfl,trivial⟩<|ag<| ?_
 refine cC rfl (fun hlt=> ?_) (fun hlt=> ?_)
 ·have hil:i<l.length:=by omega
  have hq0:l.drop i≠ []:=fun e=>by have:=congrArg List.length e;rw[List.length_drop]at this;simp at this;omega
  have hql:(l.drop i).length=n-i:=by rw[List.length_drop,hl]
  have hg0:(l.drop i).getD 0 0=l.getD i 0:=kS l i 0
  have hc0:=(l.getD i 0).toNat_lt
  refine aD<|ag<|ah<|aK<|ah<|aj<|hy (fun _=>aa rfl)<|hy (fun _=>aa rfl)<|hy (fun _=>aM rfl rfl Tryz.underlying27 dW hA_r rfl (by omega))<|hy (fun m=>aw rfl jn ((m.rd 0 rfl).cell (bH (by omega))))<|hy (fun _=>bT rfl Tryz.underlying5 Tryz.underlying3 (z1 _))<|hy (fun _=>ab rfl)<|ai<|al (ρ' :=[(8,_),(14,_),(5,_),(6,_),(7,_),(4,_),(0,_),(1,_)]) ⟨rfl,rfl,rfl,rfl,rfl,rfl,rfl,rfl,trivial⟩<|ag<|ah<|ah<|aj<|hy (fun _=>aa rfl)<|hy (fun _=>bA rfl rfl)<|ai<|al (ρ' :=[(23,_),(8,_),(14,_),(5,_),(6,_),(7,_),(4,_),(0,_),(1,_)]) ⟨rfl,rfl,rfl,rfl,rfl,rfl,rfl,rfl,rfl,trivial⟩<|ag<| ?_
  generalize hc8:(l.getD i 0).toNat=c8 at hc0 hg0 ⊢
  have hc8' :((l.drop i).getD 0 0).toNat=c8:=by rw[kS,Nat.add_zero,hc8]
  refine cC rfl (fun h128=> ?_) (fun h128=> ?_)
  ·have ht:cB (l.drop i)=(c8+2,c8+1,0,decide (c8+2≤n-i)):=by
    unfold cB;rw[hc8',if_pos (by omega),hql]
   refine ah<|ah<|aj<|hy (fun _=>aa rfl)<|hy (fun _=>aa rfl)<|hy (fun _=>aN rfl rfl (bE (by omega) (by omega)))<|hy (fun _=>aN rfl rfl (bE (by omega) (by omega)))<|hy (fun _=>aa rfl)<|hy (fun _=>aW rfl Tryz.underlying27)<|hy (fun _=>cQ rfl rfl)<|ai<|al (ρ' :=[(30,_),(23,_),(8,_),(14,_),(5,_),(6,_),(7,_),(4,_),(0,_),(1,_)]) ⟨rfl,rfl,rfl,rfl,rfl,rfl,rfl,rfl,rfl,rfl,trivial⟩<|ag<| ?_
   refine cC rfl (fun h30=> ?_) (fun h30=> ?_)
   ·rw[kL hq0 (fun h=>by rw[ht]at h;have:=of_decide_eq_true h.1;omega)]at hU
    rw[←hU]
    refine ah<|aj<|hy (fun _=>cn nj rfl rfl (by kernel_rfl) (.cons (o:=2) (sz:=1) (by kernel_rfl) rfl rfl (Nat.le_of_ble_eq_true rfl) .nil))<| ?_
    refine cH (aI 1 rfl rfl rfl jm rfl jM rfl ?_)
    refine ai<|al (ρ' :=[(30,_),(23,_),(8,_),(14,_),(5,_),(6,_),(7,_),(4,_),(0,_),(1,_)]) ⟨rfl,rfl,rfl,rfl,rfl,rfl,rfl,rfl,rfl,rfl,trivial⟩<|ak (X' :=[_,_]) (S' :=[_]) (fun _ m=>m)<|ag<|aV<|ax<|ax<|aY<|ax<|ax<|aY<|ax<| ?_
    refine ak (fun w m=>m.dy (r' :=aG 5 1 (.slice none 0 0) 0 []) (.refl _ _) (Own.nil _ _ _ _) (fun k hk=>hk.elim)) ?_
    exact fg trivial rfl rfl qI jm rfl (fun m=>(m.aX 1 rfl).az) [0] rfl [] rfl ⟨_,_,rfl,rfl,rfl⟩
   ·have hok:(cB (l.drop i)).2.2.2=true:=by rw[ht];exact decide_eq_true (by omega)
    have hdo:(cB (l.drop i)).2.2.1≤o.length:=by rw[ht];exact Nat.zero_le _
    refine aD<|ag<|ah<|ah<|aj<|hy (fun _=>aa rfl)<|hy (fun _=>aW rfl Tryz.underlying27)<|hy (fun _=>aa rfl)<|hy (fun _=>aN rfl rfl (bE (by omega) (by omega)))<|hy (fun _=>aN rfl rfl (bE (by omega) (by omega)))<|hy (fun _=>aa rfl)<|hy (fun _=>cQ rfl rfl)<|ai<|al (ρ' :=[(38,_),(30,_),(23,_),(8,_),(14,_),(5,_),(6,_),(7,_),(4,_),(0,_),(1,_)]) ⟨rfl,rfl,rfl,rfl,rfl,rfl,rfl,rfl,rfl,rfl,rfl,trivial⟩<|ag<| ?_
    refine cC rfl (fun h38=> ?_) (fun h38=> ?_)
    ·rw[om hq0 hok hdo (by rw[ht];show z<(o.length:Int)+((c8+1:Nat):Int);omega)]at hU
     rw[←hU]
     refine ah<|aj<|hy (fun _=>cn nj rfl rfl (by kernel_rfl) (.cons (o:=2) (sz:=1) (by kernel_rfl) rfl rfl (Nat.le_of_ble_eq_true rfl) .nil))<| ?_
     refine cH (aI 1 rfl rfl rfl jm rfl jM rfl ?_)
     refine ai<|al (ρ' :=[(38,_),(30,_),(23,_),(8,_),(14,_),(5,_),(6,_),(7,_),(4,_),(0,_),(1,_)]) ⟨rfl,rfl,rfl,rfl,rfl,rfl,rfl,rfl,rfl,rfl,rfl,trivial⟩<|ak (X' :=[_,_]) (S' :=[_]) (fun _ m=>m)<|ag<|aV<|ax<|ax<|aY<|ax<|ax<|aY<|ax<| ?_
     refine ak (fun w m=>m.dy (r' :=aG 5 1 (.slice none 0 0) 0 []) (.refl _ _) (Own.nil _ _ _ _) (fun k hk=>hk.elim)) ?_
     exact fg trivial rfl rfl qI jm rfl (fun m=>(m.aX 1 rfl).az) [0] rfl [] rfl ⟨_,_,rfl,rfl,rfl⟩
    ·rw[mR hq0 hok hdo (by rw[ht];show¬z<(o.length:Int)+((c8+1:Nat):Int);omega)]at hU
     have hK:i+1+(c8+1)-(i+1)=c8+1:=by omega
     have hma:made (l.drop i) o=o++(l.drop (i+1)).take (i+1+(c8+1)-(i+1)):=by unfold made;rw[ht,hK,if_pos rfl,List.drop_drop];rfl
     rw[hma,ht,List.drop_drop]at hU
     have hpl:((l.drop (i+1)).take (i+1+(c8+1)-(i+1))).length=i+1+(c8+1)-(i+1):=by rw[List.length_take,List.length_drop];omega
     refine bw (fun w m=>m.kM 0 rfl (View.sub (n:=n) (c:=c) (k:=i+1) (m:=i+1+(c8+1)-(i+1)) (by omega) (by omega))) ?_
     refine a6 (fun m=>gz (m.rd 0 rfl)) ?_
     rintro⟨hl_q,hA_q⟩
     refine aD<|ag<|ah<|aj<|hy (fun _=>aa rfl)<|hy (fun _=>aa rfl)<|hy (fun _=>aa rfl)<|hy (fun _=>aN rfl rfl (bE (by omega) (by omega)))<|hy (fun _=>aa rfl)<|hy (fun _=>aa rfl)<|hy (fun _=>aN rfl rfl (bE (by omega) (by omega)))<|hy (fun _=>aN rfl rfl (bE (by omega) (by omega)))<|hy (fun _=>eA rfl rfl rfl Tryz.underlying27 dW (show((i+1:Nat):Int)=_ by omega) (show((i+1+(c8+1):Nat):Int)=_ by omega) (by omega) (by omega))<| ?_
     refine hx (bI 0 rfl rfl rfl Tryz.underlying27 Tryz.underlying27 (by exact .inl rfl) eO rfl (fun m=>Src.bZ (m.rd 0 rfl)) aR (by unfold maxLen;omega) (by omega) (fun u=> ?_))
     refine aB (fun m=>(m.own 0 rfl).slice) ?_
     rintro⟨A_x,c_x,rfl,hc_x⟩
     refine aB (fun m=>(m.ord 0 rfl).2.1) fun hA_x=> ?_
     have hlm:o.length+(i+1+(c8+1)-(i+1))=(o++(l.drop (i+1)).take (i+1+(c8+1)-(i+1))).length:=by rw[List.length_append,hpl]
     rw[hlm]at hc_x hA_x ⊢
     refine aU (fun w m=>m.bU 0 rfl (show _=aG 5 1 (.slice A_x (o++(l.drop (i+1)).take (i+1+(c8+1)-(i+1))).length c_x) (o++(l.drop (i+1)).take (i+1+(c8+1)-(i+1))).length (aQ (o++(l.drop (i+1)).take (i+1+(c8+1)-(i+1))))from congrArg (aG _ _ _ _) (by rw[br]))) ?_
     refine hy (fun _=>ab rfl)<|ai<|al (ρ' :=[(5,_),(38,_),(30,_),(23,_),(8,_),(14,_),(6,_),(7,_),(4,_),(0,_),(1,_)]) ⟨rfl,rfl,rfl,rfl,rfl,rfl,rfl,rfl,rfl,rfl,rfl,trivial⟩<|ak (X' :=[_,_]) (S' :=[_,_]) (fun _ m=>m)<|ag<|ah<|aj<|hy (fun _=>aa rfl)<|hy (fun _=>aa rfl)<|hy (fun _=>aN rfl rfl (bE (by omega) (by omega)))<|hy (fun _=>yV (aN rfl rfl (bE (by omega) (by omega))) ((show Value.int .i64 _= .int .i64 ((i+(c8+2):Nat):Int) by congr 1)))<|hy (fun _=>ab rfl)<|ai<|al (ρ' :=[(7,_),(5,_),(38,_),(30,_),(23,_),(8,_),(14,_),(6,_),(4,_),(0,_),(1,_)]) ⟨rfl,rfl,rfl,rfl,rfl,rfl,rfl,rfl,rfl,rfl,rfl,trivial⟩<|ag<|bL<|ao<|aC<|ag<|aj<|hy (fun _=>aa rfl)<|hy (fun _=>aN rfl rfl (bE (by omega) (by omega)))<|hy (fun _=>ab rfl)<|ai<|al (ρ' :=[(6,_),(7,_),(5,_),(38,_),(30,_),(23,_),(8,_),(14,_),(4,_),(0,_),(1,_)]) ⟨rfl,rfl,rfl,rfl,rfl,rfl,rfl,rfl,rfl,rfl,rfl,trivial⟩<| ?_
     refine oX (i+(c8+2)) (o++(l.drop (i+1)).take (i+1+(c8+1)-(i+1))) (nn+1) A_x c_x ⟨rfl,rfl,rfl,rfl,rfl,rfl,trivial⟩ [0,0] rfl [1] rfl (⟨by omega,by omega,by rw[←hlm];omega,hU⟩) (by omega)
  ·refine aD<|ag<|ah<|ah<|aj<|hy (fun _=>aa rfl)<|hy (fun _=>aN rfl rfl (bE (by omega) (by omega)))<|hy (fun _=>aa rfl)<|hy (fun _=>aW rfl Tryz.underlying27)<|hy (fun _=>cQ rfl rfl)<|ai<|al (ρ' :=[(58,_),(23,_),(8,_),(14,_),(5,_),(6,_),(7,_),(4,_),(0,_),(1,_)]) ⟨rfl,rfl,rfl,rfl,rfl,rfl,rfl,rfl,rfl,rfl,trivial⟩<|ag<| ?_
   refine cC rfl (fun h58=> ?_) (fun h58=> ?_)
   ·have ht:cB (l.drop i)=(0,0,0,false):=by unfold cB;rw[hc8',if_neg (by omega),if_pos (by omega)]
    rw[kL hq0 (fun h=>by rw[ht]at h;cases h.1)]at hU
    rw[←hU]
    refine ah<|aj<|hy (fun _=>cn nj rfl rfl (by kernel_rfl) (.cons (o:=2) (sz:=1) (by kernel_rfl) rfl rfl (Nat.le_of_ble_eq_true rfl) .nil))<| ?_
    refine cH (aI 1 rfl rfl rfl jm rfl jM rfl ?_)
    refine ai<|al (ρ' :=[(58,_),(23,_),(8,_),(14,_),(5,_),(6,_),(7,_),(4,_),(0,_),(1,_)]) ⟨rfl,rfl,rfl,rfl,rfl,rfl,rfl,rfl,rfl,rfl,trivial⟩<|ak (X' :=[_,_]) (S' :=[_]) (fun _ m=>m)<|ag<|aV<|ax<|aY<|ax<|ax<|aY<|ax<| ?_
    refine ak (fun w m=>m.dy (r' :=aG 5 1 (.slice none 0 0) 0 []) (.refl _ _) (Own.nil _ _ _ _) (fun k hk=>hk.elim)) ?_
    exact fg trivial rfl rfl qI jm rfl (fun m=>(m.aX 1 rfl).az) [0] rfl [] rfl ⟨_,_,rfl,rfl,rfl⟩
   ·have ht:cB (l.drop i)=(3,c8-124,1+(l.getD (i+1) 0).toNat+256*(l.getD (i+2) 0).toNat,true):=by
     unfold cB;rw[hc8',if_neg (by omega),if_neg (by omega),kS,kS]
    have b1:=(l.getD (i+1) 0).toNat_lt
    have b2:=(l.getD (i+2) 0).toNat_lt
    have hok:(cB (l.drop i)).2.2.2=true:=by rw[ht]
    refine aD<|ag<|ah<|cT [] [(0,some 0),(1,some 0),(2,some 0),(3,some 0),(4,some 0),(5,some 0),(6,some 0),(7,some 0),(8,some 0),(9,some 0),(10,some 0),(11,some 0),(12,some 0),(13,some 0),(14,some 0),(15,some 0)] (by kernel_rfl) (by kernel_rfl) rfl 99<|an (aa rfl)<|an (aa rfl)<|an (aN rfl rfl (bE (by omega) (by omega)))<|an (aM rfl rfl Tryz.underlying27 dW hA_r (show((i+1:Nat):Int)=_ by omega) (by omega))<|cm (fun m=>aw rfl jn ((m.rd 0 rfl).cell (bH (by omega))))<|an (bT rfl Tryz.underlying5 Tryz.underlying3 (z1 _))<|an (aN rfl rfl (bE (by omega) (by omega)))<|an (aa rfl)<|an (aa rfl)<|an (aN rfl rfl (bE (by omega) (by omega)))<|an (aM rfl rfl Tryz.underlying27 dW hA_r (show((i+2:Nat):Int)=_ by omega) (by omega))<|cm (fun m=>aw rfl jn ((m.rd 0 rfl).cell (bH (by omega))))<|an (bT rfl Tryz.underlying5 Tryz.underlying3 (z1 _))<|an (fk rfl rfl (bE (by omega) (by omega)))<|an (yV (aN rfl rfl (bE (by omega) (by omega))) ((show Value.int .i64 ((1:Int)+((l.getD (i+1) 0).toNat:Int)+256*((l.getD (i+2) 0).toNat:Int))= .int .i64 ((1+(l.getD (i+1) 0).toNat+256*(l.getD (i+2) 0).toNat:Nat):Int) by congr 1)))<|an (ab rfl)<|bF<|al (ρ' :=[(9,_),(58,_),(23,_),(8,_),(14,_),(5,_),(6,_),(7,_),(4,_),(0,_),(1,_)]) ⟨rfl,rfl,rfl,rfl,rfl,rfl,rfl,rfl,rfl,rfl,rfl,trivial⟩<|ag<|ah<|ah<|aj<|hy (fun _=>aa rfl)<|hy (fun _=>aa rfl)<|hy (fun _=>aW rfl Tryz.underlying27)<|hy (fun _=>cQ rfl rfl)<|ai<|al (ρ' :=[(78,_),(9,_),(58,_),(23,_),(8,_),(14,_),(5,_),(6,_),(7,_),(4,_),(0,_),(1,_)]) ⟨rfl,rfl,rfl,rfl,rfl,rfl,rfl,rfl,rfl,rfl,rfl,rfl,trivial⟩<|ag<| ?_
    generalize hdd:1+(l.getD (i+1) 0).toNat+256*(l.getD (i+2) 0).toNat=dd at ht ⊢
    refine cC rfl (fun h78=> ?_) (fun h78=> ?_)
    ·rw[kL hq0 (fun h=>by rw[ht]at h;have h2:dd≤o.length:=h.2;omega)]at hU
     rw[←hU]
     refine ah<|aj<|hy (fun _=>cn nj rfl rfl (by kernel_rfl) (.cons (o:=2) (sz:=1) (by kernel_rfl) rfl rfl (Nat.le_of_ble_eq_true rfl) .nil))<| ?_
     refine cH (aI 1 rfl rfl rfl jm rfl jM rfl ?_)
     refine ai<|al (ρ' :=[(78,_),(9,_),(58,_),(23,_),(8,_),(14,_),(5,_),(6,_),(7,_),(4,_),(0,_),(1,_)]) ⟨rfl,rfl,rfl,rfl,rfl,rfl,rfl,rfl,rfl,rfl,rfl,rfl,trivial⟩<|ak (X' :=[_,_]) (S' :=[_]) (fun _ m=>m)<|ag<|aV<|ax<|aY<|ax<|ax<|aY<|ax<| ?_
     refine ak (fun w m=>m.dy (r' :=aG 5 1 (.slice none 0 0) 0 []) (.refl _ _) (Own.nil _ _ _ _) (fun k hk=>hk.elim)) ?_
     exact fg trivial rfl rfl qI jm rfl (fun m=>(m.aX 1 rfl).az) [0] rfl [] rfl ⟨_,_,rfl,rfl,rfl⟩
    ·have hdo:(cB (l.drop i)).2.2.1≤o.length:=by rw[ht];show dd≤_;omega
     refine aD<|ag<|ah<|ah<|aj<|hy (fun _=>aa rfl)<|hy (fun _=>aW rfl Tryz.underlying27)<|hy (fun _=>aa rfl)<|hy (fun _=>aN rfl rfl (bE (by omega) (by omega)))<|hy (fun _=>cg rfl rfl (bE (by omega) (by omega)))<|hy (fun _=>aa rfl)<|hy (fun _=>cQ rfl rfl)<|ai<|al (ρ' :=[(86,_),(78,_),(9,_),(58,_),(23,_),(8,_),(14,_),(5,_),(6,_),(7,_),(4,_),(0,_),(1,_)]) ⟨rfl,rfl,rfl,rfl,rfl,rfl,rfl,rfl,rfl,rfl,rfl,rfl,rfl,trivial⟩<|ag<| ?_
     refine cC rfl (fun h86=> ?_) (fun h86=> ?_)
     ·rw[om hq0 hok hdo (by rw[ht];show z<(o.length:Int)+((c8-124:Nat):Int);omega)]at hU
      rw[←hU]
      refine ah<|aj<|hy (fun _=>cn nj rfl rfl (by kernel_rfl) (.cons (o:=2) (sz:=1) (by kernel_rfl) rfl rfl (Nat.le_of_ble_eq_true rfl) .nil))<| ?_
      refine cH (aI 1 rfl rfl rfl jm rfl jM rfl ?_)
      refine ai<|al (ρ' :=[(86,_),(78,_),(9,_),(58,_),(23,_),(8,_),(14,_),(5,_),(6,_),(7,_),(4,_),(0,_),(1,_)]) ⟨rfl,rfl,rfl,rfl,rfl,rfl,rfl,rfl,rfl,rfl,rfl,rfl,rfl,trivial⟩<|ak (X' :=[_,_]) (S' :=[_]) (fun _ m=>m)<|ag<|aV<|ax<|aY<|ax<|ax<|aY<|ax<| ?_
      refine ak (fun w m=>m.dy (r' :=aG 5 1 (.slice none 0 0) 0 []) (.refl _ _) (Own.nil _ _ _ _) (fun k hk=>hk.elim)) ?_
      exact fg trivial rfl rfl qI jm rfl (fun m=>(m.aX 1 rfl).az) [0] rfl [] rfl ⟨_,_,rfl,rfl,rfl⟩
     ·rw[mR hq0 hok hdo (by rw[ht];show¬z<(o.length:Int)+((c8-124:Nat):Int);omega)]at hU
      have hma:made (l.drop i) o=again dd (c8-124) o:=by unfold made;rw[ht];exact if_neg (show¬dd=0 by omega)
      rw[hma,ht,List.drop_drop]at hU
      refine aD<|ag<|ah<|ah<|aj<|hy (fun _=>ab rfl)<|ai<|ag<|aK<| ?_
      refine lD (fun k2 o2 A4 c4=>c8-124-k2) (fun k2 o2 A4 c4=>[(5,.slice A4 (o2:List UInt8).length c4),(10,.int .i64 (k2:Nat))]) (fun k2 o2 A4 c4=>[aG 5 1 (.slice A4 o2.length c4) o2.length (aQ o2)]) (fun k2 o2 A4 c4=>[]) (fun k2 o2 A4 c4=>k2≤c8-124∧o2.length=o.length+k2∧again dd (c8-124-k2) o2=again dd (c8-124) o) 0 o A3 c3 [(86,_),(78,_),(9,_),(58,_),(23,_),(8,_),(14,_),(6,_),(7,_),(4,_),(0,_),(1,_)] ⟨rfl,rfl,rfl,rfl,rfl,rfl,rfl,rfl,rfl,rfl,rfl,rfl,trivial⟩ [0] rfl [] rfl (⟨Nat.zero_le _,rfl,rfl⟩) ⟨rfl,rfl,trivial⟩ (fun k2 o2 A4 c4 ⟨hk2,ho2,hag⟩=> ?_)
      refine ah<|ah<|aj<|hy (fun _=>aa rfl)<|hy (fun _=>aa rfl)<|hy (fun _=>cg rfl rfl (bE (by omega) (by omega)))<|hy (fun _=>bA rfl rfl)<|ai<|al (ρ' :=[(91,_),(5,_),(10,_),(86,_),(78,_),(9,_),(58,_),(23,_),(8,_),(14,_),(6,_),(7,_),(4,_),(0,_),(1,_)]) ⟨rfl,rfl,rfl,rfl,rfl,rfl,rfl,rfl,rfl,rfl,rfl,rfl,rfl,rfl,rfl,trivial⟩<|ag<| ?_
      refine cC rfl (fun hk=> ?_) (fun hk=> ?_)
      ·have hk3:k2<c8-124:=by omega
       have hi2:o2.length-dd<o2.length:=by omega
       have hs:again dd (c8-124-k2) o2=again dd (c8-124-(k2+1)) (o2++[o2.getD (o2.length-dd) 0]):=by
        rw[show c8-124-k2=(c8-124-(k2+1))+1 by omega];rfl
       rw[hs]at hag
       refine a6 (fun m=>(m.ord 0 rfl).2.1) fun hA_x=> ?_
       refine aD<|ag<|ah<|aK<|aj<|hy (fun _=>aa rfl)<|hy (fun _=>aa rfl)<|hy (fun _=>aa rfl)<|hy (fun _=>aW rfl Tryz.underlying27)<|hy (fun _=>aa rfl)<|hy (fun _=>cg rfl rfl (bE (by omega) (by omega)))<|hy (fun _=>aM rfl rfl Tryz.underlying27 dW hA_x (show((o2.length-dd:Nat):Int)=_ by omega) (by omega))<|hy (fun m=>aw rfl jn ((m.ord 0 rfl).cell (bH (by omega))))<| ?_
       refine hx (b4 Tryz.underlying27 eO rfl rfl rfl (by simp[Value.cells,B8]) (by decide) (by decide) (fun g102=> ?_))
       have hA_b102:0<1→(some (⟨g102,0,none⟩:Addr))≠none:=fun _ h=>by cases h
       refine aU (fun w m=>m.bU 0 rfl (show _=aG 5 1 (.slice (some ⟨g102,0,none⟩) 1 1) 1 (aQ [o2.getD (o2.length-dd) 0])from rfl)) ?_
       refine hx (bI 1 rfl rfl rfl Tryz.underlying27 Tryz.underlying27 (by exact .inl rfl) eO rfl (fun m=>Src.bZ (m.ord 0 rfl)) aR (by unfold maxLen;omega) (by omega) (fun u=> ?_))
       refine aB (fun m=>(m.own 0 rfl).slice) ?_
       rintro⟨A_x,c_x,rfl,hc_x⟩
       refine aB (fun m=>(m.ord 0 rfl).2.1) fun hA_x=> ?_
       have hlm:o2.length+1=(o2++[o2.getD (o2.length-dd) 0]).length:=by rw[List.length_append];rfl
       rw[hlm]at hc_x hA_x ⊢
       refine aU (fun w m=>m.bU 0 rfl (show _=aG 5 1 (.slice A_x (o2++[o2.getD (o2.length-dd) 0]).length c_x) (o2++[o2.getD (o2.length-dd) 0]).length (aQ (o2++[o2.getD (o2.length-dd) 0]))from congrArg (aG _ _ _ _) (by rw[br]))) ?_
       refine hy (fun _=>ab rfl)<|ai<|al (ρ' :=[(5,_),(91,_),(10,_),(86,_),(78,_),(9,_),(58,_),(23,_),(8,_),(14,_),(6,_),(7,_),(4,_),(0,_),(1,_)]) ⟨rfl,rfl,rfl,rfl,rfl,rfl,rfl,rfl,rfl,rfl,rfl,rfl,rfl,rfl,rfl,trivial⟩<|ak (X' :=[_,_,_]) (S' :=[_]) (fun _ m=>m)<|aS<|ag<|aj<|hy (fun _=>aa rfl)<|hy (fun _=>aN rfl rfl (bE (by omega) (by omega)))<|hy (fun _=>ab rfl)<|ai<|al (ρ' :=[(10,_),(5,_),(91,_),(86,_),(78,_),(9,_),(58,_),(23,_),(8,_),(14,_),(6,_),(7,_),(4,_),(0,_),(1,_)]) ⟨rfl,rfl,rfl,rfl,rfl,rfl,rfl,rfl,rfl,rfl,rfl,rfl,rfl,rfl,rfl,trivial⟩<| ?_
       refine iB (k2+1) (o2++[o2.getD (o2.length-dd) 0]) A_x c_x ⟨rfl,rfl,rfl,rfl,rfl,rfl,rfl,rfl,rfl,rfl,rfl,rfl,rfl,rfl,trivial⟩ [0,1] rfl [0] rfl (⟨by omega,by rw[←hlm];omega,hag⟩) (by omega)
      ·obtain rfl:k2=c8-124:=by omega
       rw[Nat.sub_self]at hag
       have hag:o2=again dd (c8-124) o:=hag
       rw[←hag]at hU
       refine bL<|ao<|ao<|aC<|ag<|aj<|hy (fun _=>aa rfl)<|hy (fun _=>yV (aN rfl rfl (bE (by omega) (by omega))) ((show Value.int .i64 _= .int .i64 ((i+3:Nat):Int) by congr 1)))<|hy (fun _=>ab rfl)<|ai<|al (ρ' :=[(7,_),(91,_),(5,_),(10,_),(86,_),(78,_),(9,_),(58,_),(23,_),(8,_),(14,_),(6,_),(4,_),(0,_),(1,_)]) ⟨rfl,rfl,rfl,rfl,rfl,rfl,rfl,rfl,rfl,rfl,rfl,rfl,rfl,rfl,rfl,trivial⟩<|aS<|ag<|aj<|hy (fun _=>aa rfl)<|hy (fun _=>aN rfl rfl (bE (by omega) (by omega)))<|hy (fun _=>ab rfl)<|ai<|al (ρ' :=[(6,_),(7,_),(91,_),(5,_),(10,_),(86,_),(78,_),(9,_),(58,_),(23,_),(8,_),(14,_),(4,_),(0,_),(1,_)]) ⟨rfl,rfl,rfl,rfl,rfl,rfl,rfl,rfl,rfl,rfl,rfl,rfl,rfl,rfl,rfl,trivial⟩<| ?_
       refine oX (i+3) o2 (nn+1) A4 c4 ⟨rfl,rfl,rfl,rfl,rfl,rfl,trivial⟩ [0,0] rfl [0] rfl (⟨by omega,by omega,by omega,hU⟩) (by omega)
 ·obtain rfl:i=n:=by omega
  rw[List.drop_of_length_le (by omega),oa]at hU
  rw[←hU]
  refine bL<|ao<|ao<|aC<|ag<|ah<|aj<|hy (fun _=>aa rfl)<|hy (fun _=>aa rfl)<|hy (fun _=>cn nj rfl rfl (by kernel_rfl) (.cons (o:=0) (sz:=1) (by kernel_rfl) rfl rfl (Nat.le_of_ble_eq_true rfl) (.cons (o:=1) (sz:=1) (by kernel_rfl) rfl rfl (Nat.le_of_ble_eq_true rfl) .nil)))<| ?_
  refine cH (aI 1 rfl rfl rfl jm rfl jM rfl ?_)
  refine ai<|al (ρ' :=[(14,_),(5,_),(6,_),(7,_),(4,_),(0,_),(1,_)]) ⟨rfl,rfl,rfl,rfl,rfl,rfl,rfl,trivial⟩<|ak (X' :=[_,_]) (S' :=[_]) (fun _ m=>m)<|ag<|aV<| ?_
  exact fg trivial rfl rfl qI jm rfl (fun m=>(m.aX 0 rfl).az) [1] rfl [] rfl ⟨_,_,rfl,rfl,rfl⟩
end Go.Proofs.YtmibdabdlgmafaaGreatDoor
end
section
set_option maxRecDepth 20000
set_option maxHeartbeats 4000000
namespace Go.Proofs.YtmibdabdlgmafaaGreatDoor
open Go.Eng Go.Hx
def zK(f:List UInt8):Int:=match gr f with|none=>-1|some k=>(k:Nat)
theorem kQ{f:List UInt8}(h:gr f=none):zK f=-1:=by unfold zK;rw[h]
theorem qD{f:List UInt8}{k:Nat}(h:gr f=some k):zK f=(k:Nat):=by unfold zK;rw[h]
theorem Fb{A:Option Addr}{n c:Nat}{f:List UInt8}(hl:f.length=n)(hn:n≤10000000):cf Tryz.prog 216 [.slice A n c] [] [c6 1 A n (aQ f)] (fun v_ X_ S_=>v_=(.int .i64 (zK f))∧X_=[]∧S_=[]):=by
 have hv:j5 (f.drop 2)=(f.getD 2 0).toNat+256*(f.getD 3 0).toNat+65536*(f.getD 4 0).toNat+16777216*(f.getD 5 0).toNat:=by simp[j5,List.getD]
 have b0:=(f.getD 2 0).toNat_lt
 have b1:=(f.getD 3 0).toNat_lt
 have b2:=(f.getD 4 0).toNat_lt
 have b3:=(f.getD 5 0).toNat_lt
 have h76:(((f.getD 0 0).toNat:Int)≠76)↔f.getD 0 0≠76:=by
  constructor
  ·intro h e;rw[e]at h;exact h rfl
  ·intro h e;exact h (UInt8.toNat_inj.1 (by rw[show(76:UInt8).toNat=76 from rfl];omega))
 refine aO (N:=40) Tryz.func216 rfl rfl (by simp) fun b=> ?_
 refine a6 (fun m=>gz (m.rd 0 rfl)) ?_
 rintro⟨hl_r,hA_r⟩
 by_cases h1:f.length<10
 ·rw[kQ (if_pos (.inl h1))]
  refine ah<|aj<|hy (fun _=>ab rfl)<|ai<|ag<|ah<|ah<|aj<|hy (fun _=>aa rfl)<|hy (fun _=>aW rfl Tryz.underlying27)<|hy (fun _=>yT (bA rfl rfl) ((decide_eq_true (by omega))))<|hy (fun _=>aa rfl)<|bu rfl rfl rfl (by decide)<|bu rfl rfl rfl (by decide)<|bu rfl rfl rfl (by decide)<|bu rfl rfl rfl (by decide)<|hy (fun _=>bK rfl rfl)<|hy (fun _=>aa rfl)<|bu rfl rfl rfl (by decide)<|bu rfl rfl rfl (by decide)<|bu rfl rfl rfl (by decide)<|bu rfl rfl rfl (by decide)<|hy (fun _=>bK rfl rfl)<|ai<|al (ρ' :=[(17,_),(2,_),(0,_)]) ⟨rfl,rfl,rfl,trivial⟩<|ag<| ?_
  refine gY rfl (rfl) ?_
  refine ah<|aj<|hy (fun _=>ab rfl)<|ai<|ag<|aV<|ax<| ?_
  exact bh trivial rfl rfl [] rfl [] rfl ⟨rfl,rfl,rfl⟩
 ·by_cases h2:f.getD 0 0≠76
  ·rw[kQ (if_pos (.inr (.inl h2)))]
   refine ah<|aj<|hy (fun _=>ab rfl)<|ai<|ag<|ah<|ah<|aj<|hy (fun _=>aa rfl)<|hy (fun _=>aW rfl Tryz.underlying27)<|hy (fun _=>yF (bA rfl rfl) ((decide_eq_false (by omega))))<|hy (fun _=>aa rfl)<|de (o:=_) rfl rfl rfl (fun _=>aa rfl)<|de (o:=_) rfl rfl rfl (fun _=>aM rfl rfl Tryz.underlying27 dW hA_r (show((0:Nat):Int)=0 from rfl) (by omega))<|de (o:=_) rfl rfl rfl (fun m=>aw rfl jn ((m.rd 0 rfl).cell (bH (by omega))))<|de (o:=_) rfl rfl rfl (fun _=>yT (dL rfl rfl) ((decide_eq_true (h76.2 h2))))<|hy (fun _=>bN rfl rfl)<|hy (fun _=>aa rfl)<|bu rfl rfl rfl (by decide)<|bu rfl rfl rfl (by decide)<|bu rfl rfl rfl (by decide)<|bu rfl rfl rfl (by decide)<|hy (fun _=>bK rfl rfl)<|ai<|al (ρ' :=[(17,_),(2,_),(0,_)]) ⟨rfl,rfl,rfl,trivial⟩<|ag<| ?_
   refine gY rfl (rfl) ?_
   refine ah<|aj<|hy (fun _=>ab rfl)<|ai<|ag<|aV<|ax<| ?_
   exact bh trivial rfl rfl [] rfl [] rfl ⟨rfl,rfl,rfl⟩
  ·by_cases h3:1<(f.getD 1 0).toNat
   ·rw[kQ (if_pos (.inr (.inr h3)))]
    refine ah<|aj<|hy (fun _=>ab rfl)<|ai<|ag<|ah<|ah<|aj<|hy (fun _=>aa rfl)<|hy (fun _=>aW rfl Tryz.underlying27)<|hy (fun _=>yF (bA rfl rfl) ((decide_eq_false (by omega))))<|hy (fun _=>aa rfl)<|de (o:=_) rfl rfl rfl (fun _=>aa rfl)<|de (o:=_) rfl rfl rfl (fun _=>aM rfl rfl Tryz.underlying27 dW hA_r (show((0:Nat):Int)=0 from rfl) (by omega))<|de (o:=_) rfl rfl rfl (fun m=>aw rfl jn ((m.rd 0 rfl).cell (bH (by omega))))<|de (o:=_) rfl rfl rfl (fun _=>yF (dL rfl rfl) ((decide_eq_false (fun q=>h2 (h76.1 q)))))<|hy (fun _=>bN rfl rfl)<|hy (fun _=>aa rfl)<|de (o:=_) rfl rfl rfl (fun _=>aa rfl)<|de (o:=_) rfl rfl rfl (fun _=>aM rfl rfl Tryz.underlying27 dW hA_r (show((1:Nat):Int)=1 from rfl) (by omega))<|de (o:=_) rfl rfl rfl (fun m=>aw rfl jn ((m.rd 0 rfl).cell (bH (by omega))))<|de (o:=_) rfl rfl rfl (fun _=>yT (cQ rfl rfl) ((decide_eq_true (by omega))))<|hy (fun _=>bN rfl rfl)<|ai<|al (ρ' :=[(17,_),(2,_),(0,_)]) ⟨rfl,rfl,rfl,trivial⟩<|ag<| ?_
    refine gY rfl (rfl) ?_
    refine ah<|aj<|hy (fun _=>ab rfl)<|ai<|ag<|aV<|ax<| ?_
    exact bh trivial rfl rfl [] rfl [] rfl ⟨rfl,rfl,rfl⟩
   ·refine ah<|aj<|hy (fun _=>ab rfl)<|ai<|ag<|ah<|ah<|aj<|hy (fun _=>aa rfl)<|hy (fun _=>aW rfl Tryz.underlying27)<|hy (fun _=>yF (bA rfl rfl) ((decide_eq_false (by omega))))<|hy (fun _=>aa rfl)<|de (o:=_) rfl rfl rfl (fun _=>aa rfl)<|de (o:=_) rfl rfl rfl (fun _=>aM rfl rfl Tryz.underlying27 dW hA_r (show((0:Nat):Int)=0 from rfl) (by omega))<|de (o:=_) rfl rfl rfl (fun m=>aw rfl jn ((m.rd 0 rfl).cell (bH (by omega))))<|de (o:=_) rfl rfl rfl (fun _=>yF (dL rfl rfl) ((decide_eq_false (fun q=>h2 (h76.1 q)))))<|hy (fun _=>bN rfl rfl)<|hy (fun _=>aa rfl)<|de (o:=_) rfl rfl rfl (fun _=>aa rfl)<|de (o:=_) rfl rfl rfl (fun _=>aM rfl rfl Tryz.underlying27 dW hA_r (show((1:Nat):Int)=1 from rfl) (by omega))<|de (o:=_) rfl rfl rfl (fun m=>aw rfl jn ((m.rd 0 rfl).cell (bH (by omega))))<|de (o:=_) rfl rfl rfl (fun _=>yF (cQ rfl rfl) ((decide_eq_false (by omega))))<|hy (fun _=>bN rfl rfl)<|ai<|al (ρ' :=[(17,_),(2,_),(0,_)]) ⟨rfl,rfl,rfl,trivial⟩<|ag<| ?_
    refine dO rfl (rfl) ?_
    have hL:gr f=some (j5 (f.drop 2)):=if_neg (fun q=>q.elim h1 (fun q=>q.elim h2 h3))
    rw[qD hL]
    refine aD<|ag<|ah<|cT [] [(0,some 0),(1,some 0),(2,some 0),(3,some 0),(4,some 0),(5,some 0),(6,some 0),(7,some 0),(8,some 0),(9,some 0),(10,some 0),(11,some 0),(12,some 0),(13,some 0),(14,some 0),(15,some 0),(16,some 0),(17,some 0),(18,some 0),(19,some 0),(20,some 0),(21,some 0),(22,some 0)] (by kernel_rfl) (by kernel_rfl) rfl 99<|an (aa rfl)<|an (aM rfl rfl Tryz.underlying27 dW hA_r (show((2:Nat):Int)=2 from rfl) (by omega))<|cm (fun m=>aw rfl jn ((m.rd 0 rfl).cell (bH (by omega))))<|an (bT rfl Tryz.underlying5 Tryz.underlying3 (z1 _))<|an (aa rfl)<|an (aM rfl rfl Tryz.underlying27 dW hA_r (show((3:Nat):Int)=3 from rfl) (by omega))<|cm (fun m=>aw rfl jn ((m.rd 0 rfl).cell (bH (by omega))))<|an (bT rfl Tryz.underlying5 Tryz.underlying3 (z1 _))<|an (fk rfl rfl (bE (by omega) (by omega)))<|an (aN rfl rfl (bE (by omega) (by omega)))<|an (aa rfl)<|an (aM rfl rfl Tryz.underlying27 dW hA_r (show((4:Nat):Int)=4 from rfl) (by omega))<|cm (fun m=>aw rfl jn ((m.rd 0 rfl).cell (bH (by omega))))<|an (bT rfl Tryz.underlying5 Tryz.underlying3 (z1 _))<|an (fk rfl rfl (bE (by omega) (by omega)))<|an (aN rfl rfl (bE (by omega) (by omega)))<|an (aa rfl)<|an (aM rfl rfl Tryz.underlying27 dW hA_r (show((5:Nat):Int)=5 from rfl) (by omega))<|cm (fun m=>aw rfl jn ((m.rd 0 rfl).cell (bH (by omega))))<|an (bT rfl Tryz.underlying5 Tryz.underlying3 (z1 _))<|an (fk rfl rfl (bE (by omega) (by omega)))<|an (yV (aN rfl rfl (bE (by omega) (by omega))) ((show Value.int .i64 (((f.getD 2 0).toNat:Int)+256*((f.getD 3 0).toNat:Int)+65536*((f.getD 4 0).toNat:Int)+16777216*((f.getD 5 0).toNat:Int))= .int .i64 (j5 (f.drop 2):Nat) by rw[hv];congr 1)))<|an (ab rfl)<|bF<|al (ρ' :=[(2,_),(17,_),(0,_)]) ⟨rfl,rfl,rfl,trivial⟩<|ag<|aV<| ?_
    exact bh trivial rfl rfl [] rfl [] rfl ⟨rfl,rfl,rfl⟩
theorem mo{f u:List UInt8}{k:Nat}(h:uH f k=(u,0)):fC f k=if u.length≠k then([],2)else if gk (cG u)≠f.drop (f.length-4)then([],7)else(u,0):=by
 unfold fC
 rw[h]
 exact if_neg (by simp)
theorem y8{f:List UInt8}{k:Nat}(h:(uH f k).2≠0):fC f k=([],2):=by
 unfold fC
 exact if_pos h
theorem DI{A:Option Addr}{n c:Nat}{f:List UInt8}{most:Int}(hc:n≤c)(hl:f.length=n)(hn:n≤10000000)(hm:most≤1000000):cf Tryz.prog 156 [.slice A n c,.int .i64 most] [] [c6 1 A n (aQ f)] (fun v_ X_ S_=>∃A1 c1,v_=(.tuple #[.slice A1 (cP f most).1.length c1,.int .i64 (cP f most).2])∧X_=[]∧S_=[c6 1 A1 (cP f most).1.length (aQ (cP f most).1)]∧((cP f most).1.length≤c1)):=by
 refine aO (N:=48) Tryz.func156 rfl rfl (by simp) fun b=> ?_
 refine a6 (fun m=>gz (m.rd 0 rfl)) ?_
 rintro⟨hl_r,hA_r⟩
 refine ah<|aj<|hy (fun _=>ab rfl)<|hy (fun _=>ab rfl)<|ai<|ag<|ah<|aj<|hy (fun _=>aa rfl)<| ?_
 refine hx (aq rfl Tryz.call216 (Fb hl hn) [] rfl [0] rfl ?_)
 rintro _ _ _ ⟨rfl,rfl,rfl⟩
 refine hy (fun _=>ab rfl)<|ai<|al (ρ' :=[(6,_),(5,_),(4,_),(0,_),(1,_)]) ⟨rfl,rfl,rfl,rfl,rfl,trivial⟩<|ak (X' :=[]) (S' :=[_]) (fun _ m=>m)<|ag<|ah<|ah<|aj<|hy (fun _=>aa rfl)<|hy (fun _=>bA rfl rfl)<|ai<|al (ρ' :=[(12,_),(6,_),(5,_),(4,_),(0,_),(1,_)]) ⟨rfl,rfl,rfl,rfl,rfl,rfl,trivial⟩<|ag<| ?_
 rcases hL:gr f with _|k
 ·refine gY rfl ((decide_eq_true (by rw[kQ hL];decide))) ?_
  rw[(pJ hL)]
  refine ah<|aj<|hy (fun _=>ab rfl)<|hy (fun _=>ab rfl)<|ai<|ag<|aV<|ax<| ?_
  refine ak (fun w m=>m.nT (r' :=c6 1 none 0 []) (.refl _ _) (Rd.nil _ _ _) (fun k hk=>absurd rfl hk.1)) ?_
  have hA_z:0<0→(none:Option Addr)≠none:=fun h=>absurd h (by decide)
  exact dh trivial rfl rfl rfl [] rfl [0] rfl ⟨none,0,rfl,rfl,rfl,(Nat.le_refl _)⟩
 ·rw[qD hL]
  refine dO rfl ((decide_eq_false (by omega))) ?_
  refine aD<|ag<|ah<|ah<|aj<|hy (fun _=>aa rfl)<|hy (fun _=>aa rfl)<|hy (fun _=>cQ rfl rfl)<|ai<|al (ρ' :=[(15,_),(12,_),(6,_),(5,_),(4,_),(0,_),(1,_)]) ⟨rfl,rfl,rfl,rfl,rfl,rfl,rfl,trivial⟩<|ag<| ?_
  refine cC rfl (fun hfar=> ?_) (fun hfar=> ?_)
  ·rw[(qG hL (by omega))]
   refine ah<|aj<|hy (fun _=>ab rfl)<|hy (fun _=>ab rfl)<|ai<|ag<|aV<|ax<| ?_
   refine ak (fun w m=>m.nT (r' :=c6 1 none 0 []) (.refl _ _) (Rd.nil _ _ _) (fun k hk=>absurd rfl hk.1)) ?_
   have hA_z:0<0→(none:Option Addr)≠none:=fun h=>absurd h (by decide)
   exact dh trivial rfl rfl rfl [] rfl [0] rfl ⟨none,0,rfl,rfl,rfl,(Nat.le_refl _)⟩
  ·obtain⟨h10,hk32⟩:=tC hL
   have hopen:=sy hL (by omega)
   refine bw (fun w m=>m.kM 0 rfl (View.sub (n:=n) (c:=c) (k:=6) (m:=n-4-6) (by omega) (by omega))) ?_
   refine a6 (fun m=>gz (m.rd 0 rfl)) ?_
   rintro⟨hl_p,hA_p⟩
   have hbl:n-4-6=(dg f).length:=by unfold dg;rw[List.length_take,List.length_drop];omega
   have hb2:(f.drop 6).take (n-4-6)=dg f:=by unfold dg;rw[show n-4-6=f.length-10 by omega]
   rw[hb2]
   refine aD<|ag<|ah<|aj<|hy (fun _=>aa rfl)<|hy (fun _=>aa rfl)<|hy (fun _=>aW rfl Tryz.underlying27)<|hy (fun _=>cg rfl rfl (bE (by omega) (by omega)))<|hy (fun _=>eA rfl rfl rfl Tryz.underlying27 dW (show((6:Nat):Int)=6 from rfl) (show((n-4:Nat):Int)=_ by omega) (by omega) (by omega))<|hy (fun _=>ab rfl)<|ai<|al (ρ' :=[(7,_),(15,_),(12,_),(6,_),(5,_),(4,_),(0,_),(1,_)]) ⟨rfl,rfl,rfl,rfl,rfl,rfl,rfl,rfl,trivial⟩<|ag<|ah<|ah<|aj<|hy (fun _=>aa rfl)<|hy (fun _=>aM rfl rfl Tryz.underlying27 dW hA_r (show((1:Nat):Int)=1 from rfl) (by omega))<|hy (fun m=>aw rfl jn ((m.rd 1 rfl).cell (bH (by omega))))<|hy (fun _=>cx rfl rfl)<|ai<|al (ρ' :=[(24,_),(7,_),(15,_),(12,_),(6,_),(5,_),(4,_),(0,_),(1,_)]) ⟨rfl,rfl,rfl,rfl,rfl,rfl,rfl,rfl,rfl,trivial⟩<|ag<| ?_
   refine cC rfl (fun h1=> ?_) (fun h1=> ?_)
   ·have hf1:f.getD 1 0=1:=UInt8.toNat_inj.1 (by rw[show(1:UInt8).toNat=1 from rfl];omega)
    have hun:uH f k=jo k (dg f) []:=if_pos hf1
    refine ah<|aj<|hy (fun _=>aa rfl)<|hy (fun _=>aa rfl)<| ?_
    refine hx (aq rfl Tryz.call217 (zL (show n-4-6≤c-6 by omega) (by omega) hbl.symm (show(k:Int)≤10000000 by omega) (l:=(dg f))) [] rfl [0] rfl ?_)
    rintro _ _ _ ⟨v,nn,rfl,rfl,rfl⟩
    refine aB (fun m=>(m.own 0 rfl).slice) ?_
    rintro⟨A_x,c_x,rfl,hc_x⟩
    refine aB (fun m=>(m.ord 0 rfl).2.1) fun hA_x=> ?_
    refine hx (aP nj (fun g8=> ?_))
    refine cH (aI 0 rfl rfl rfl jm rfl jM rfl ?_)
    refine ai<|al (ρ' :=[(8,_),(24,_),(7,_),(15,_),(12,_),(6,_),(5,_),(4,_),(0,_),(1,_)]) ⟨rfl,rfl,rfl,rfl,rfl,rfl,rfl,rfl,rfl,rfl,trivial⟩<|ak (X' :=[_,_]) (S' :=[_,_]) (fun _ m=>m)<|ag<|ah<|ah<|aj<|hy (fun _=>aL rfl Br (by decide))<|hy (fun m=>aw rfl kW (aA (m.aX 0 rfl) (i:=2) rfl))<|hy (fun _=>dL rfl rfl)<|ai<|al (ρ' :=[(30,_),(8,_),(24,_),(7,_),(15,_),(12,_),(6,_),(5,_),(4,_),(0,_),(1,_)]) ⟨rfl,rfl,rfl,rfl,rfl,rfl,rfl,rfl,rfl,rfl,rfl,trivial⟩<|ag<| ?_
    refine cC rfl (fun he=> ?_) (fun he=> ?_)
    ·have hz:cP f most=([],2):=by rw[hopen,y8 (by rw[hun];exact he)]
     rw[hz]
     refine ah<|aj<|hy (fun _=>ab rfl)<|hy (fun _=>ab rfl)<|ai<|ag<|aV<|ax<|ax<| ?_
     refine ak (fun w m=>m.nT (r' :=c6 1 none 0 []) (.refl _ _) (Rd.nil _ _ _) (fun k hk=>absurd rfl hk.1)) ?_
     have hA_z:0<0→(none:Option Addr)≠none:=fun h=>absurd h (by decide)
     exact dh trivial rfl rfl rfl [] rfl [0] rfl ⟨none,0,rfl,rfl,rfl,(Nat.le_refl _)⟩
    ·have he:=Decidable.not_not.1 he
     have hun2:uH f k=((jo k (dg f) []).1,0):=by rw[hun];exact Prod.ext rfl he
     refine bw (fun w m=>(m.perm (ar [1] _ [_] _ rfl)).freeze) ?_
     refine bw (fun w m=>m.kM 0 rfl .own) ?_
     generalize(jo k (dg f) []).1=u at hc_x hA_x hun2 ⊢
     refine aD<|ag<|aj<|hy (fun _=>aL rfl AY (by decide))<|hy (fun m=>aw rfl dU (aA (m.aX 0 rfl) (i:=0) rfl))<|hy (fun _=>ab rfl)<|ai<|al (ρ' :=[(7,_),(30,_),(8,_),(24,_),(15,_),(12,_),(6,_),(5,_),(4,_),(0,_),(1,_)]) ⟨rfl,rfl,rfl,rfl,rfl,rfl,rfl,rfl,rfl,rfl,rfl,trivial⟩<|ag<|ah<|ah<|aj<|hy (fun _=>aa rfl)<|hy (fun _=>aW rfl Tryz.underlying27)<|hy (fun _=>aa rfl)<|hy (fun _=>dL rfl rfl)<|ai<|al (ρ' :=[(36,_),(7,_),(30,_),(8,_),(24,_),(15,_),(12,_),(6,_),(5,_),(4,_),(0,_),(1,_)]) ⟨rfl,rfl,rfl,rfl,rfl,rfl,rfl,rfl,rfl,rfl,rfl,rfl,trivial⟩<|ag<| ?_
     refine cC rfl (fun h36=> ?_) (fun h36=> ?_)
     ·have hz:cP f most=([],2):=by rw[hopen,mo hun2];exact if_pos (by omega)
      rw[hz]
      refine ah<|aj<|hy (fun _=>ab rfl)<|hy (fun _=>ab rfl)<|ai<|ag<|aV<|ax<| ?_
      refine ak (fun w m=>m.nT (r' :=c6 1 none 0 []) (.refl _ _) (Rd.nil _ _ _) (fun k hk=>absurd rfl hk.1)) ?_
      have hA_z:0<0→(none:Option Addr)≠none:=fun h=>absurd h (by decide)
      exact dh trivial rfl rfl rfl [] rfl [0] rfl ⟨none,0,rfl,rfl,rfl,(Nat.le_refl _)⟩
     ·have hlu:(u).length=k:=by omega
      have hgo:cP f most=if gk (cG u)≠f.drop (f.length-4)then([],7)else(u,0):=by rw[hopen,mo hun2];exact if_neg (fun q=>q hlu)
      refine bw (fun w m=>m.kM 3 rfl (View.drop (n:=n) (c:=c) (k:=n-4) (by omega) (by omega))) ?_
      refine a6 (fun m=>gz (m.rd 0 rfl)) ?_
      rintro⟨hl_e4,hA_e4⟩
      refine aD<|ag<|ah<|ah<|cT [1,2] [(0,some 0),(3,some 2),(4,some 2),(5,some 2),(6,some 2),(7,some 2),(8,some 2),(1,none),(2,none),(9,some 2)] (by kernel_rfl) (by kernel_rfl) rfl 99<|an (aa rfl)<|an (aa rfl)<|an (aa rfl)<|an (aW rfl Tryz.underlying27)<|an (cg rfl rfl (bE (by omega) (by omega)))<|an (ec rfl rfl Tryz.underlying27 dW (show((n-4:Nat):Int)=_ by omega) (by omega))<|cm (fun m=>jW rfl Tryz.underlying27 Tryz.underlying5 Tryz.underlying9 (m.rd 0 rfl))<| ?_
      refine eb (aq rfl Tryz.call161 (vk hc_x (by omega) rfl (l:=u)) [] rfl [1] rfl ?_)
      rintro _ _ _ ⟨v2,rfl,rfl,rfl⟩
      refine⟨(fun _=>wk [1] [0,1,2,3,4] rfl rfl), ?_⟩
      refine cd (fun m=>(m.own 0 rfl).slice) ?_
      rintro⟨A_x2,c_x2,rfl,hc_x2⟩
      refine cd (fun m=>(m.ord 0 rfl).2.1) fun hA_x2=> ?_
      refine Dn (fun _=>wk [1] [0,1,2,3,4] rfl rfl) (fun m=>jW rfl Tryz.underlying27 Tryz.underlying5 Tryz.underlying9 (m.ord 0 rfl))<|an (o8 rfl rfl)<|bF<|al (ρ' :=[(46,_),(36,_),(7,_),(30,_),(8,_),(24,_),(15,_),(12,_),(6,_),(5,_),(4,_),(0,_),(1,_)]) ⟨rfl,rfl,rfl,rfl,rfl,rfl,rfl,rfl,rfl,rfl,rfl,rfl,rfl,trivial⟩<|ak (X' :=[_,_]) (S' :=[_,_,_,_,_]) (fun _ m=>m)<|ag<| ?_
      refine cC rfl (fun h46=> ?_) (fun h46=> ?_)
      ·have hz:cP f most=([],7):=by rw[hgo];exact if_pos (fun e=>h46 (by rw[e,hl]))
       rw[hz]
       refine ah<|aj<|hy (fun _=>ab rfl)<|hy (fun _=>ab rfl)<|ai<|ag<|aV<|ax<| ?_
       refine ak (fun w m=>m.nT (r' :=c6 1 none 0 []) (.refl _ _) (Rd.nil _ _ _) (fun k hk=>absurd rfl hk.1)) ?_
       have hA_z:0<0→(none:Option Addr)≠none:=fun h=>absurd h (by decide)
       exact dh trivial rfl rfl rfl [] rfl [0] rfl ⟨none,0,rfl,rfl,rfl,(Nat.le_refl _)⟩
      ·have h46:=cz.1 (Decidable.not_not.1 h46)
       have hz:cP f most=(u,0):=by rw[hgo];exact if_neg (fun q=>q (by rw[h46,hl]))
       rw[hz]
       refine aD<|ag<|ah<|aj<|hy (fun _=>aa rfl)<|hy (fun _=>ab rfl)<|hy (fun _=>ab rfl)<|ai<|al (ρ' :=[(5,_),(4,_),(46,_),(36,_),(7,_),(30,_),(8,_),(24,_),(15,_),(12,_),(6,_),(0,_),(1,_)]) ⟨rfl,rfl,rfl,rfl,rfl,rfl,rfl,rfl,rfl,rfl,rfl,rfl,rfl,trivial⟩<|ag<|aV<| ?_
       exact dh trivial rfl rfl rfl [] rfl [1] rfl ⟨_,_,rfl,rfl,rfl,hc_x⟩
   ·have hf1:¬f.getD 1 0=1:=fun q=>h1 (by rw[q];rfl)
    have hun:uH f k=(dg f,0):=if_neg hf1
    rw[hbl]
    refine aD<|ag<|ah<|ah<|aj<|hy (fun _=>aa rfl)<|hy (fun _=>aW rfl Tryz.underlying27)<|hy (fun _=>aa rfl)<|hy (fun _=>dL rfl rfl)<|ai<|al (ρ' :=[(36,_),(24,_),(7,_),(15,_),(12,_),(6,_),(5,_),(4,_),(0,_),(1,_)]) ⟨rfl,rfl,rfl,rfl,rfl,rfl,rfl,rfl,rfl,rfl,trivial⟩<|ag<| ?_
    refine cC rfl (fun h36=> ?_) (fun h36=> ?_)
    ·have hz:cP f most=([],2):=by rw[hopen,mo hun];exact if_pos (by omega)
     rw[hz]
     refine ah<|aj<|hy (fun _=>ab rfl)<|hy (fun _=>ab rfl)<|ai<|ag<|aV<|ax<| ?_
     refine ak (fun w m=>m.nT (r' :=c6 1 none 0 []) (.refl _ _) (Rd.nil _ _ _) (fun k hk=>absurd rfl hk.1)) ?_
     have hA_z:0<0→(none:Option Addr)≠none:=fun h=>absurd h (by decide)
     exact dh trivial rfl rfl rfl [] rfl [0] rfl ⟨none,0,rfl,rfl,rfl,(Nat.le_refl _)⟩
    ·have hlu:((dg f)).length=k:=by omega
     have hgo:cP f most=if gk (cG (dg f))≠f.drop (f.length-4)then([],7)else((dg f),0):=by rw[hopen,mo hun];exact if_neg (fun q=>q hlu)
     refine bw (fun w m=>m.kM 1 rfl (View.drop (n:=n) (c:=c) (k:=n-4) (by omega) (by omega))) ?_
     refine a6 (fun m=>gz (m.rd 0 rfl)) ?_
     rintro⟨hl_e4,hA_e4⟩
     refine aD<|ag<|ah<|ah<|cT [1,2] [(0,some 0),(3,some 2),(4,some 2),(5,some 2),(6,some 2),(7,some 2),(8,some 2),(1,none),(2,none),(9,some 2)] (by kernel_rfl) (by kernel_rfl) rfl 99<|an (aa rfl)<|an (aa rfl)<|an (aa rfl)<|an (aW rfl Tryz.underlying27)<|an (cg rfl rfl (bE (by omega) (by omega)))<|an (ec rfl rfl Tryz.underlying27 dW (show((n-4:Nat):Int)=_ by omega) (by omega))<|cm (fun m=>jW rfl Tryz.underlying27 Tryz.underlying5 Tryz.underlying9 (m.rd 0 rfl))<| ?_
     refine eb (aq rfl Tryz.call161 (vk (show(dg f).length≤c-6 by omega) (by omega) rfl (l:=(dg f))) [] rfl [1] rfl ?_)
     rintro _ _ _ ⟨v,rfl,rfl,rfl⟩
     refine⟨(fun _=>wk [] [0,1,2] rfl rfl), ?_⟩
     refine cd (fun m=>(m.own 0 rfl).slice) ?_
     rintro⟨A_x,c_x,rfl,hc_x⟩
     refine cd (fun m=>(m.ord 0 rfl).2.1) fun hA_x=> ?_
     refine Dn (fun _=>wk [] [0,1,2] rfl rfl) (fun m=>jW rfl Tryz.underlying27 Tryz.underlying5 Tryz.underlying9 (m.ord 0 rfl))<|an (o8 rfl rfl)<|bF<|al (ρ' :=[(46,_),(36,_),(24,_),(7,_),(15,_),(12,_),(6,_),(5,_),(4,_),(0,_),(1,_)]) ⟨rfl,rfl,rfl,rfl,rfl,rfl,rfl,rfl,rfl,rfl,rfl,trivial⟩<|ak (X' :=[_]) (S' :=[_,_,_]) (fun _ m=>m)<|ag<| ?_
     refine cC rfl (fun h46=> ?_) (fun h46=> ?_)
     ·have hz:cP f most=([],7):=by rw[hgo];exact if_pos (fun e=>h46 (by rw[e,hl]))
      rw[hz]
      refine ah<|aj<|hy (fun _=>ab rfl)<|hy (fun _=>ab rfl)<|ai<|ag<|aV<|ax<| ?_
      refine ak (fun w m=>m.nT (r' :=c6 1 none 0 []) (.refl _ _) (Rd.nil _ _ _) (fun k hk=>absurd rfl hk.1)) ?_
      have hA_z:0<0→(none:Option Addr)≠none:=fun h=>absurd h (by decide)
      exact dh trivial rfl rfl rfl [] rfl [0] rfl ⟨none,0,rfl,rfl,rfl,(Nat.le_refl _)⟩
     ·have h46:=cz.1 (Decidable.not_not.1 h46)
      have hz:cP f most=((dg f),0):=by rw[hgo];exact if_neg (fun q=>q (by rw[h46,hl]))
      rw[hz]
      refine aD<|ag<|ah<|aj<|hy (fun _=>aa rfl)<|hy (fun _=>ab rfl)<|hy (fun _=>ab rfl)<|ai<|al (ρ' :=[(5,_),(4,_),(46,_),(36,_),(24,_),(7,_),(15,_),(12,_),(6,_),(0,_),(1,_)]) ⟨rfl,rfl,rfl,rfl,rfl,rfl,rfl,rfl,rfl,rfl,rfl,trivial⟩<|ag<|aV<| ?_
      exact dh trivial rfl rfl rfl [] rfl [1] rfl ⟨_,_,rfl,rfl,rfl,(show(dg f).length≤c-6 by omega)⟩
end Go.Proofs.YtmibdabdlgmafaaGreatDoor
end
section
set_option maxRecDepth 20000
namespace Go.Proofs.YtmibdabdlgmafaaGreatDoor
open Go.Eng Go.Hx
theorem iG{x:UInt32}{n:Nat}(hn:n≤32):cf Tryz.prog 204 [Wd x,.int .i64 (n:Int)] [] [] (fun v_ X_ S_=>v_=(Wd (j1 n x))∧X_=[]∧S_=[]):=by
 refine aO (N:=18) Tryz.func204 rfl rfl (by simp) fun b=> ?_
 refine ah<|aj<|hy (fun _=>ab rfl)<|ai<|ag<|ah<|ah<|aj<|hy (fun _=>ab rfl)<|ai<|ag<|aK<| ?_
 refine yM (fun i y=>n-i) (fun i y=>[(0,Wd y),(5,.int .i64 (i:Nat))]) (fun i y=>[]) (fun i y=>[]) (fun i y=>i≤n∧y=j1 i x) 0 x [(4,_),(1,_)] ⟨rfl,rfl,trivial⟩ [] rfl [] rfl (⟨Nat.zero_le _,(xo x).symm⟩) ⟨rfl,rfl,trivial⟩ (fun i y ⟨hin,hyv⟩=> ?_)
 refine ah<|ah<|aj<|hy (fun _=>aa rfl)<|hy (fun _=>aa rfl)<|hy (fun _=>bA rfl rfl)<|ai<|al (ρ' :=[(8,_),(0,_),(5,_),(4,_),(1,_)]) ⟨rfl,rfl,rfl,rfl,rfl,trivial⟩<|ag<| ?_
 refine cC rfl (fun h=> ?_) (fun h=> ?_)
 ·refine aD<|ag<|ah<|aK<|aj<|hy (fun _=>aa rfl)<|hy (fun _=>ra (b:=2) (by decide) rfl rfl)<|hy (fun _=>aa rfl)<|hy (fun _=>zM (b:=2) (by decide) rfl rfl)<|hy (fun _=>qW (b:=2147483648) rfl rfl)<|hy (fun _=>yV (da rfl rfl) ((rfl:_=Wd (s4 y))))<|hy (fun _=>ab rfl)<|ai<|al (ρ' :=[(0,_),(8,_),(5,_),(4,_),(1,_)]) ⟨rfl,rfl,rfl,rfl,rfl,trivial⟩<|aS<|ag<|aj<|hy (fun _=>aa rfl)<|hy (fun _=>aN rfl rfl (bE (by omega) (by omega)))<|hy (fun _=>ab rfl)<|ai<|al (ρ' :=[(5,_),(0,_),(8,_),(4,_),(1,_)]) ⟨rfl,rfl,rfl,rfl,rfl,trivial⟩<| ?_
  refine uB (i+1) (s4 y) ⟨rfl,rfl,rfl,rfl,trivial⟩ [] rfl [] rfl (⟨by omega,by rw[hyv,wB (by omega)]⟩) (by omega)
 ·obtain rfl:i=n:=by omega
  subst hyv
  refine bL<|ao<|ao<|aC<|ag<|ah<|aj<|hy (fun _=>aa rfl)<|hy (fun _=>ab rfl)<|ai<|al (ρ' :=[(4,_),(8,_),(0,_),(5,_),(1,_)]) ⟨rfl,rfl,rfl,rfl,rfl,trivial⟩<|ag<|aV<| ?_
  exact bh trivial rfl rfl [] rfl [] rfl ⟨rfl,rfl,rfl⟩
theorem C5{A:Option Addr}{n c:Nat}{l:List UInt8}{i:Nat}(hi:i+4≤n)(hn:n≤1000000000000):cf Tryz.prog 203 [.slice A n c,.int .i64 (i:Int)] [] [c6 1 A n (aQ l)] (fun v_ X_ S_=>v_=(Wd (j0 l i))∧X_=[]∧S_=[]):=by
 refine aO (N:=34) Tryz.func203 rfl rfl (by simp) fun b=> ?_
 refine a6 (fun m=>gz (m.rd 0 rfl)) ?_
 rintro⟨hl_r,hA_r⟩
 have hl:l.length=n:=hl_r
 refine ah<|aj<|hy (fun _=>ab rfl)<|ai<|ag<|ah<|cT [] [(0,some 0),(1,some 0),(2,some 0),(3,some 0),(4,some 0),(5,some 0),(6,some 0),(7,some 0),(8,some 0),(9,some 0),(10,some 0),(11,some 0),(12,some 0),(13,some 0),(14,some 0),(15,some 0),(16,some 0),(17,some 0),(18,some 0),(19,some 0),(20,some 0),(21,some 0),(22,some 0),(23,some 0),(24,some 0),(25,some 0),(26,some 0),(27,some 0),(28,some 0),(29,some 0)] (by kernel_rfl) (by kernel_rfl) rfl 99<|an (aa rfl)<|an (aa rfl)<|an (aM rfl rfl Tryz.underlying27 dW hA_r rfl (by omega))<|cm (fun m=>aw rfl jn ((m.rd 0 rfl).cell (bH (by omega))))<|an (xL rfl Tryz.underlying5 Tryz.underlying166)<|an (qW (b:=16777216) rfl rfl)<|an (aa rfl)<|an (aa rfl)<|an (aN rfl rfl (bE (by omega) (by omega)))<|an (aM rfl rfl Tryz.underlying27 dW hA_r (show((i+1:Nat):Int)=_ by omega) (by omega))<|cm (fun m=>aw rfl jn ((m.rd 0 rfl).cell (bH (by omega))))<|an (xL rfl Tryz.underlying5 Tryz.underlying166)<|an (qW (b:=65536) rfl rfl)<|an (da rfl rfl)<|an (aa rfl)<|an (aa rfl)<|an (aN rfl rfl (bE (by omega) (by omega)))<|an (aM rfl rfl Tryz.underlying27 dW hA_r (show((i+2:Nat):Int)=_ by omega) (by omega))<|cm (fun m=>aw rfl jn ((m.rd 0 rfl).cell (bH (by omega))))<|an (xL rfl Tryz.underlying5 Tryz.underlying166)<|an (qW (b:=256) rfl rfl)<|an (da rfl rfl)<|an (aa rfl)<|an (aa rfl)<|an (aN rfl rfl (bE (by omega) (by omega)))<|an (aM rfl rfl Tryz.underlying27 dW hA_r (show((i+3:Nat):Int)=_ by omega) (by omega))<|cm (fun m=>aw rfl jn ((m.rd 0 rfl).cell (bH (by omega))))<|an (xL rfl Tryz.underlying5 Tryz.underlying166)<|an (yV (da rfl rfl) ((show Wd ((l.getD i 0).toUInt32*16777216+(l.getD (i+1) 0).toUInt32*65536+(l.getD (i+2) 0).toUInt32*256+(l.getD (i+3) 0).toUInt32)=Wd (j0 l i) by rw[wE])))<|an (ab rfl)<|bF<|al (ρ' :=[(4,_),(0,_),(1,_)]) ⟨rfl,rfl,rfl,trivial⟩<|ag<|aV<| ?_
 exact bh trivial rfl rfl [] rfl [] rfl ⟨rfl,rfl,rfl⟩
theorem Ad:cf Tryz.prog 202 [] [] [] (fun v_ X_ S_=>∃v,v_=v∧X_=[aG 166 1 v 64 (dS fj)]∧S_=[]):=by
 refine aO (N:=2) Tryz.func202 rfl rfl (by simp) fun b=> ?_
 refine ah<|aj<|hy (fun _=>ab rfl)<|ai<|ag<|ah<|aj<| ?_
 refine hx (b4 Tryz.underlying215 nB rfl rfl rfl (by decide) (by decide) (by decide) (fun g1=> ?_))
 have hA_b1:0<64→(some (⟨g1,0,none⟩:Addr))≠none:=fun _ h=>by cases h
 refine hy (fun _=>ab rfl)<|ai<|al (ρ' :=[(0,_)]) ⟨rfl,trivial⟩<|ak (X' :=[_]) (S' :=[]) (fun _ m=>m)<|ag<|aV<| ?_
 refine ak (fun w m=>m.bU 0 rfl (show _=aG 166 1 (.slice (some ⟨g1,0,none⟩) 64 64) 64 (dS fj)from rfl)) ?_
 exact bh trivial rfl rfl [0] rfl [] rfl ⟨_,rfl,rfl,rfl⟩
theorem AA{H:Option Addr}{hc:Nat}{A:Option Addr}{c:Nat}{l:List UInt8}{h:List UInt32}(hcc:64≤c)(hh:h.length=8):cf Tryz.prog 142 [.slice H 8 hc,.slice A 64 c] [] [c6 1 H 8 (dS h),c6 1 A 64 (aQ l)] (fun v_ X_ S_=>∃u,v_=u∧X_=[aG 166 1 u 8 (dS (ea h l))]∧S_=[]):=by
 refine aO (N:=230) Tryz.func142 rfl rfl (by simp) fun b=> ?_
 refine a6 (fun m=>ki (m.rd 0 rfl)) ?_
 rintro⟨hl_q,hA_q⟩
 refine a6 (fun m=>gz (m.rd 1 rfl)) ?_
 rintro⟨hl_r,hA_r⟩
 have hl:l.length=64:=hl_r
 refine ah<|aj<|hy (fun _=>ab rfl)<|ai<|ag<|ah<|aj<| ?_
 refine hx (aq rfl Tryz.call202 (Ad) [] rfl [] rfl ?_)
 rintro _ _ _ ⟨v,rfl,rfl,rfl⟩
 refine aB (fun m=>(m.own 0 rfl).slice) ?_
 rintro⟨A_x,c_x,rfl,hc_x⟩
 refine aB (fun m=>(m.ord 0 rfl).2.1) fun hA_x=> ?_
 refine hy (fun _=>ab rfl)<|ai<|al (ρ' :=[(5,_),(4,_),(0,_),(1,_)]) ⟨rfl,rfl,rfl,rfl,trivial⟩<|ak (X' :=[_]) (S' :=[_,_]) (fun _ m=>m)<|ag<|ah<|aj<|hy (fun _=>ab rfl)<|ai<|ag<|ah<|ah<|aj<|hy (fun _=>ab rfl)<|ai<|ag<|aK<| ?_
 refine bw (fun w m=>m.dy (r' :=aG 166 1 (.slice none 0 0) 0 []) (.refl _ _) (Own.nil _ _ _ _) (fun k hk=>hk.elim)) ?_
 refine bw (fun w m=>m.bU 0 rfl (show _=aG 166 1 (.slice none 0 0) 0 (dS (wl l 0))from rfl)) ?_
 refine fm (fun i A1 c1=>16-i) (fun i A1 c1=>[(6,.slice A1 i c1),(7,.int .i64 (i:Nat))]) (fun i A1 c1=>[aG 166 1 (.slice A1 i c1) i (dS (wl l i))]) (fun i A1 c1=>[]) (fun i A1 c1=>i≤16) 0 none 0 [(5,_),(4,_),(0,_),(1,_)] ⟨rfl,rfl,rfl,rfl,trivial⟩ [0] rfl [] rfl (Nat.zero_le _) ⟨rfl,rfl,trivial⟩ (fun i A1 c1 hI=> ?_)
 refine ah<|ah<|aj<|hy (fun _=>aa rfl)<|hy (fun _=>bA rfl rfl)<|ai<|al (ρ' :=[(21,_),(6,_),(7,_),(5,_),(4,_),(0,_),(1,_)]) ⟨rfl,rfl,rfl,rfl,rfl,rfl,rfl,trivial⟩<|ag<| ?_
 refine cC rfl (fun hlt=> ?_) (fun hlt=> ?_)
 ·have hws:wl l (i+1)=wl l i++[j0 l (4*i)]:=by rw[wl,if_pos (by omega)]
  refine aD<|ag<|ah<|aK<|aj<|hy (fun _=>aa rfl)<|hy (fun _=>aa rfl)<|hy (fun _=>aa rfl)<|hy (fun _=>fk rfl rfl (bE (by omega) (by omega)))<| ?_
  rw[show(4:Int)*(i:Int)=((4*i:Nat):Int) by omega]
  refine hx (aq rfl Tryz.call203 (C5 (by omega) (by omega) (i:=4*i)) [] rfl [1] rfl ?_)
  rintro _ _ _ ⟨rfl,rfl,rfl⟩
  refine hx (b4 Tryz.underlying215 nB rfl rfl rfl (by simp[Value.cells,B8]) (by decide) (by decide) (fun g29=> ?_))
  have hA_b29:0<1→(some (⟨g29,0,none⟩:Addr))≠none:=fun _ h=>by cases h
  refine aU (fun w m=>m.bU 0 rfl (show _=aG 166 1 (.slice (some ⟨g29,0,none⟩) 1 1) 1 (dS [j0 l (4*i)])from rfl)) ?_
  refine hx (bI 1 rfl rfl rfl Tryz.underlying215 Tryz.underlying215 (by exact .inl rfl) nB rfl (fun m=>Src.bZ (m.ord 0 rfl)) gH (by unfold maxLen;omega) (by omega) (fun u=> ?_))
  refine aB (fun m=>(m.own 0 rfl).slice) ?_
  rintro⟨A_o,c_o,rfl,hc_o⟩
  refine aB (fun m=>(m.ord 0 rfl).2.1) fun hA_o=> ?_
  refine aU (fun w m=>m.bU 0 rfl (show _=aG 166 1 (.slice A_o (i+1) c_o) (i+1) (dS (wl l (i+1)))from by rw[hws,oY])) ?_
  refine hy (fun _=>ab rfl)<|ai<|al (ρ' :=[(6,_),(21,_),(7,_),(5,_),(4,_),(0,_),(1,_)]) ⟨rfl,rfl,rfl,rfl,rfl,rfl,rfl,trivial⟩<|ak (X' :=[_,_,_]) (S' :=[_,_]) (fun _ m=>m)<|aS<|ag<|aj<|hy (fun _=>aa rfl)<|hy (fun _=>aN rfl rfl (bE (by omega) (by omega)))<|hy (fun _=>ab rfl)<|ai<|al (ρ' :=[(7,_),(6,_),(21,_),(5,_),(4,_),(0,_),(1,_)]) ⟨rfl,rfl,rfl,rfl,rfl,rfl,rfl,trivial⟩<| ?_
  refine eZ (i+1) A_o c_o ⟨rfl,rfl,rfl,rfl,rfl,rfl,trivial⟩ [0,1] rfl [0,1] rfl (by omega) (by omega)
 ·obtain rfl:i=16:=by omega
  refine bL<|ao<|ao<|aC<|ag<|ah<|ah<|aj<|hy (fun _=>ab rfl)<|ai<|ag<|aK<| ?_
  refine fm (fun i A1 c1=>64-i) (fun i A1 c1=>[(6,.slice A1 i c1),(8,.int .i64 (i:Nat))]) (fun i A1 c1=>[aG 166 1 (.slice A1 i c1) i (dS (wl l i))]) (fun i A1 c1=>[]) (fun i A1 c1=>16≤i∧i≤64) 16 A1 c1 [(21,_),(7,_),(5,_),(4,_),(0,_),(1,_)] ⟨rfl,rfl,rfl,rfl,rfl,rfl,trivial⟩ [0] rfl [] rfl (⟨Nat.le_refl _,by decide⟩) ⟨rfl,rfl,trivial⟩ (fun i A1 c1 ⟨hi16,hi64⟩=> ?_)
  have hwl:=fh l i
  refine a6 (fun m=>(m.ord 0 rfl).2.1) fun hA_o=> ?_
  refine ah<|ah<|aj<|hy (fun _=>aa rfl)<|hy (fun _=>bA rfl rfl)<|ai<|al (ρ' :=[(32,_),(6,_),(8,_),(21,_),(7,_),(5,_),(4,_),(0,_),(1,_)]) ⟨rfl,rfl,rfl,rfl,rfl,rfl,rfl,rfl,rfl,trivial⟩<|ag<| ?_
  refine cC rfl (fun hlt=> ?_) (fun hlt=> ?_)
  ·have hws:wl l (i+1)=wl l i++[mr (wl l i) i]:=by rw[wl,if_neg (by omega)]
   refine aD<|ag<|ah<|aK<|ah<|cT [5,11] [(0,some 0),(1,some 2),(2,some 0),(3,some 0),(4,some 0),(6,some 1),(7,some 1),(8,some 1),(9,some 1),(10,some 1),(13,some 2),(14,some 2),(15,some 2),(16,some 2),(17,some 2),(18,some 2),(5,none),(11,none),(12,some 2),(19,some 2),(20,some 2)] (by kernel_rfl) (by kernel_rfl) rfl 99<|an (aa rfl)<|an (aa rfl)<|an (cg rfl rfl (bE (by omega) (by omega)))<|an (aM rfl rfl Tryz.underlying215 bG hA_o (show((i-15:Nat):Int)=_ by omega) (by omega))<|cm (fun m=>aw rfl bM ((m.ord 0 rfl).cell (j:=i-15) (bf (by omega))))<|an (aa rfl)<|an (aa rfl)<|an (cg rfl rfl (bE (by omega) (by omega)))<|an (aM rfl rfl Tryz.underlying215 bG hA_o (show((i-15:Nat):Int)=_ by omega) (by omega))<|cm (fun m=>aw rfl bM ((m.ord 0 rfl).cell (j:=i-15) (bf (by omega))))<|an (aa rfl)<|an (aa rfl)<|an (cg rfl rfl (bE (by omega) (by omega)))<|an (aM rfl rfl Tryz.underlying215 bG hA_o (show((i-15:Nat):Int)=_ by omega) (by omega))<|cm (fun m=>aw rfl bM ((m.ord 0 rfl).cell (j:=i-15) (bf (by omega))))<|an (ra (b:=8) (by decide) rfl rfl)<| ?_
   refine eb (aq rfl Tryz.call204 (iG (by omega) (n:=7)) [] rfl [] rfl ?_)
   rintro _ _ _ ⟨rfl,rfl,rfl⟩
   refine⟨(fun _=>wk [0,0] [0,1] rfl rfl), ?_⟩
   refine eb (aq rfl Tryz.call204 (iG (by omega) (n:=18)) [] rfl [] rfl ?_)
   rintro _ _ _ ⟨rfl,rfl,rfl⟩
   refine⟨(fun _=>wk [0,0] [0,1] rfl rfl), ?_⟩
   refine an (dT rfl rfl)<|an (dT rfl rfl)<|an (ab rfl)<|bF<|al (ρ' :=[(9,_),(32,_),(6,_),(8,_),(21,_),(7,_),(5,_),(4,_),(0,_),(1,_)]) ⟨rfl,rfl,rfl,rfl,rfl,rfl,rfl,rfl,rfl,rfl,trivial⟩<|ak (X' :=[_,_]) (S' :=[_,_]) (fun _ m=>m)<|ag<|ah<|cT [5,11] [(0,some 0),(1,some 2),(2,some 0),(3,some 0),(4,some 0),(6,some 1),(7,some 1),(8,some 1),(9,some 1),(10,some 1),(13,some 2),(14,some 2),(15,some 2),(16,some 2),(17,some 2),(18,some 2),(5,none),(11,none),(12,some 2),(19,some 2),(20,some 2)] (by kernel_rfl) (by kernel_rfl) rfl 99<|an (aa rfl)<|an (aa rfl)<|an (cg rfl rfl (bE (by omega) (by omega)))<|an (aM rfl rfl Tryz.underlying215 bG hA_o (show((i-2:Nat):Int)=_ by omega) (by omega))<|cm (fun m=>aw rfl bM ((m.ord 0 rfl).cell (j:=i-2) (bf (by omega))))<|an (aa rfl)<|an (aa rfl)<|an (cg rfl rfl (bE (by omega) (by omega)))<|an (aM rfl rfl Tryz.underlying215 bG hA_o (show((i-2:Nat):Int)=_ by omega) (by omega))<|cm (fun m=>aw rfl bM ((m.ord 0 rfl).cell (j:=i-2) (bf (by omega))))<|an (aa rfl)<|an (aa rfl)<|an (cg rfl rfl (bE (by omega) (by omega)))<|an (aM rfl rfl Tryz.underlying215 bG hA_o (show((i-2:Nat):Int)=_ by omega) (by omega))<|cm (fun m=>aw rfl bM ((m.ord 0 rfl).cell (j:=i-2) (bf (by omega))))<|an (ra (b:=1024) (by decide) rfl rfl)<| ?_
   refine eb (aq rfl Tryz.call204 (iG (by omega) (n:=17)) [] rfl [] rfl ?_)
   rintro _ _ _ ⟨rfl,rfl,rfl⟩
   refine⟨(fun _=>wk [0,0] [0,1] rfl rfl), ?_⟩
   refine eb (aq rfl Tryz.call204 (iG (by omega) (n:=19)) [] rfl [] rfl ?_)
   rintro _ _ _ ⟨rfl,rfl,rfl⟩
   refine⟨(fun _=>wk [0,0] [0,1] rfl rfl), ?_⟩
   refine an (dT rfl rfl)<|an (dT rfl rfl)<|an (ab rfl)<|bF<|al (ρ' :=[(10,_),(9,_),(32,_),(6,_),(8,_),(21,_),(7,_),(5,_),(4,_),(0,_),(1,_)]) ⟨rfl,rfl,rfl,rfl,rfl,rfl,rfl,rfl,rfl,rfl,rfl,trivial⟩<|ak (X' :=[_,_]) (S' :=[_,_]) (fun _ m=>m)<|ag<|cT [5,16,17] [(0,some 2),(1,some 3),(2,some 3),(3,some 3),(4,some 3),(6,some 3),(8,some 3),(9,some 3),(10,some 3),(11,some 3),(12,some 1),(14,some 1),(5,none),(7,some 1),(13,some 1),(15,some 1),(16,none),(17,none),(18,some 3)] (by kernel_rfl) (by kernel_rfl) rfl 2<|an (aa rfl)<|an (aa rfl)<|an (aa rfl)<|an (cg rfl rfl (bE (by omega) (by omega)))<|an (aM rfl rfl Tryz.underlying215 bG hA_o (show((i-16:Nat):Int)=_ by omega) (by omega))<|an (aa rfl)<|an (aa rfl)<|an (aa rfl)<|an (cg rfl rfl (bE (by omega) (by omega)))<|an (aM rfl rfl Tryz.underlying215 bG hA_o (show((i-7:Nat):Int)=_ by omega) (by omega))<|cm (fun m=>aw rfl bM ((m.ord 0 rfl).cell (j:=i-7) (bf (by omega))))<|an (aa rfl)<|Dn (fun _=>wk [0,0] [0,1] rfl rfl) (fun m=>aw rfl bM ((m.ord 0 rfl).cell (j:=i-16) (bf (by omega))))<|an (da rfl rfl)<|an (da rfl rfl)<|an (yV (da rfl rfl) ((rfl:_=Wd (mr (wl l i) i))))<| ?_
   refine eb (b4 Tryz.underlying215 nB rfl rfl rfl (by exact tp (l:=[_])) (by decide) (by decide) (fun g91=>⟨(fun _=>wk [1,1] [0,1] rfl rfl), ?_⟩))
   have hA_b91:0<1→(some (⟨g91,0,none⟩:Addr))≠none:=fun _ h=>by cases h
   refine gb (fun w m=>m.bU 0 rfl (show _=aG 166 1 (.slice (some ⟨g91,0,none⟩) 1 1) 1 (dS [mr (wl l i) i])from rfl)) ?_
   refine eb (bI 1 rfl rfl rfl Tryz.underlying215 Tryz.underlying215 (by exact .inl rfl) nB rfl (fun m=>Src.bZ (m.ord 0 rfl)) gH (by unfold maxLen;omega) (by omega) (fun u=>⟨(fun h=>absurd h (by decide)), ?_⟩))
   refine cd (fun m=>(m.own 0 rfl).slice) ?_
   rintro⟨A_o,c_o,rfl,hc_o⟩
   refine cd (fun m=>(m.ord 0 rfl).2.1) fun hA_o=> ?_
   refine gb (fun w m=>m.bU 0 rfl (show _=aG 166 1 (.slice A_o (i+1) c_o) (i+1) (dS (wl l (i+1)))from by rw[hws,oY])) ?_
   refine an (ab rfl)<|bF<|al (ρ' :=[(6,_),(10,_),(9,_),(32,_),(8,_),(21,_),(7,_),(5,_),(4,_),(0,_),(1,_)]) ⟨rfl,rfl,rfl,rfl,rfl,rfl,rfl,rfl,rfl,rfl,rfl,trivial⟩<|ak (X' :=[_,_,_]) (S' :=[_,_]) (fun _ m=>m)<|aS<|ag<|aj<|hy (fun _=>aa rfl)<|hy (fun _=>aN rfl rfl (bE (by omega) (by omega)))<|hy (fun _=>ab rfl)<|ai<|al (ρ' :=[(8,_),(6,_),(10,_),(9,_),(32,_),(21,_),(7,_),(5,_),(4,_),(0,_),(1,_)]) ⟨rfl,rfl,rfl,rfl,rfl,rfl,rfl,rfl,rfl,rfl,rfl,trivial⟩<| ?_
   refine eZ (i+1) A_o c_o ⟨rfl,rfl,rfl,rfl,rfl,rfl,rfl,rfl,trivial⟩ [0,1] rfl [0,1] rfl (⟨by omega,by omega⟩) (by omega)
  ·obtain rfl:i=64:=by omega
   obtain⟨W,hW⟩:∃W,wl l 64=W:=⟨_,rfl⟩
   have hw64:W.length=64:=by rw[←hW];exact fh l 64
   rw[hW]
   refine bL<|ao<|ao<|aC<|ag<|ah<|aj<|hy (fun _=>ab rfl)<|ai<|ag<|ah<|aj<|hy (fun _=>aa rfl)<|hy (fun _=>aa rfl)<| ?_
   refine aU (fun w m=>m.dy (r' :=aG 166 1 (.slice none 0 0) 0 []) (.refl _ _) (Own.nil _ _ _ _) (fun k hk=>hk.elim)) ?_
   refine hx (bI 0 rfl rfl rfl Tryz.underlying215 Tryz.underlying215 (by exact .inl rfl) nB rfl (fun m=>Src.bZ (m.rd 0 rfl)) gH (by unfold maxLen;omega) (by omega) (fun u=> ?_))
   refine aB (fun m=>(m.own 0 rfl).slice) ?_
   rintro⟨A_v,c_v,rfl,hc_v⟩
   refine aB (fun m=>(m.ord 0 rfl).2.1) fun hA_v=> ?_
   refine aU (fun w m=>m.bU 0 rfl (show _=aG 166 1 (.slice A_v 8 c_v) 8 (dS (kq W h 0))from rfl)) ?_
   refine hy (fun _=>ab rfl)<|ai<|al (ρ' :=[(11,_),(32,_),(6,_),(8,_),(21,_),(7,_),(5,_),(4,_),(0,_),(1,_)]) ⟨rfl,rfl,rfl,rfl,rfl,rfl,rfl,rfl,rfl,rfl,trivial⟩<|ak (X' :=[_,_,_]) (S' :=[_,_]) (fun _ m=>m)<|ag<|ah<|ah<|aj<|hy (fun _=>ab rfl)<|ai<|ag<|aK<| ?_
   refine fm (fun i A2 c2=>64-i) (fun i A2 c2=>[(11,.slice A2 8 c2),(12,.int .i64 (i:Nat))]) (fun i A2 c2=>[aG 166 1 (.slice A2 8 c2) 8 (dS (kq W h i))]) (fun i A2 c2=>[]) (fun i A2 c2=>i≤64) 0 A_v c_v [(32,_),(6,_),(8,_),(21,_),(7,_),(5,_),(4,_),(0,_),(1,_)] ⟨rfl,rfl,rfl,rfl,rfl,rfl,rfl,rfl,rfl,trivial⟩ [0] rfl [] rfl (Nat.zero_le _) ⟨rfl,rfl,trivial⟩ (fun i A2 c2 hi64=> ?_)
   have hv:=kg (w:=W) hh i
   have hro:fj.length=64:=rfl
   refine a6 (fun m=>(m.ord 0 rfl).2.1) fun hA_v=> ?_
   refine a6 (fun m=>(m.ord 2 rfl).2.1) fun hA_x=> ?_
   refine a6 (fun m=>(m.ord 1 rfl).2.1) fun hA_o=> ?_
   refine ah<|ah<|aj<|hy (fun _=>aa rfl)<|hy (fun _=>bA rfl rfl)<|ai<|al (ρ' :=[(97,_),(11,_),(12,_),(32,_),(6,_),(8,_),(21,_),(7,_),(5,_),(4,_),(0,_),(1,_)]) ⟨rfl,rfl,rfl,rfl,rfl,rfl,rfl,rfl,rfl,rfl,rfl,rfl,trivial⟩<|ag<| ?_
   refine cC rfl (fun hlt=> ?_) (fun hlt=> ?_)
   ·generalize hvd:kq W h i=v at hv ⊢
    refine aD<|ag<|ah<|aK<|ah<|cT [3,7,12] [(0,some 3),(1,some 0),(2,some 0),(4,some 1),(5,some 1),(6,some 1),(9,some 2),(10,some 2),(11,some 2),(3,none),(7,none),(8,some 3),(12,none),(13,some 3),(14,some 3)] (by kernel_rfl) (by kernel_rfl) rfl 99<|an (aa rfl)<|an (aM rfl rfl Tryz.underlying215 bG hA_v (show((4:Nat):Int)=4 from rfl) (by omega))<|cm (fun m=>aw rfl bM ((m.ord 0 rfl).cell (j:=4) (bf (by omega))))<|an (aa rfl)<|an (aM rfl rfl Tryz.underlying215 bG hA_v (show((4:Nat):Int)=4 from rfl) (by omega))<|cm (fun m=>aw rfl bM ((m.ord 0 rfl).cell (j:=4) (bf (by omega))))<|an (aa rfl)<|an (aM rfl rfl Tryz.underlying215 bG hA_v (show((4:Nat):Int)=4 from rfl) (by omega))<|cm (fun m=>aw rfl bM ((m.ord 0 rfl).cell (j:=4) (bf (by omega))))<| ?_
    refine eb (aq rfl Tryz.call204 (iG (by omega) (n:=6)) [] rfl [] rfl ?_)
    rintro _ _ _ ⟨rfl,rfl,rfl⟩
    refine⟨(fun _=>wk [0,0,0] [0,1] rfl rfl), ?_⟩
    refine eb (aq rfl Tryz.call204 (iG (by omega) (n:=11)) [] rfl [] rfl ?_)
    rintro _ _ _ ⟨rfl,rfl,rfl⟩
    refine⟨(fun _=>wk [0,0,0] [0,1] rfl rfl), ?_⟩
    refine an (dT rfl rfl)<| ?_
    refine eb (aq rfl Tryz.call204 (iG (by omega) (n:=25)) [] rfl [] rfl ?_)
    rintro _ _ _ ⟨rfl,rfl,rfl⟩
    refine⟨(fun _=>wk [0,0,0] [0,1] rfl rfl), ?_⟩
    refine an (yV (dT rfl rfl) ((rfl:_=Wd (turns 6 11 25 (v_ v 4)))))<|an (ab rfl)<|bF<|al (ρ' :=[(13,_),(97,_),(11,_),(12,_),(32,_),(6,_),(8,_),(21,_),(7,_),(5,_),(4,_),(0,_),(1,_)]) ⟨rfl,rfl,rfl,rfl,rfl,rfl,rfl,rfl,rfl,rfl,rfl,rfl,rfl,trivial⟩<|ak (X' :=[_,_,_]) (S' :=[_,_]) (fun _ m=>m)<|ag<|ah<|cT [] [(0,some 0),(1,some 0),(2,some 0),(3,some 0),(4,some 0),(5,some 0),(6,some 0),(7,some 0),(8,some 0),(9,some 0),(10,some 0),(11,some 0),(12,some 0),(13,some 0),(14,some 0),(15,some 0),(16,some 0)] (by kernel_rfl) (by kernel_rfl) rfl 99<|an (aa rfl)<|an (aM rfl rfl Tryz.underlying215 bG hA_v (show((4:Nat):Int)=4 from rfl) (by omega))<|cm (fun m=>aw rfl bM ((m.ord 0 rfl).cell (j:=4) (bf (by omega))))<|an (aa rfl)<|an (aM rfl rfl Tryz.underlying215 bG hA_v (show((5:Nat):Int)=5 from rfl) (by omega))<|cm (fun m=>aw rfl bM ((m.ord 0 rfl).cell (j:=5) (bf (by omega))))<|an (iR rfl rfl)<|an (aa rfl)<|an (aM rfl rfl Tryz.underlying215 bG hA_v (show((4:Nat):Int)=4 from rfl) (by omega))<|cm (fun m=>aw rfl bM ((m.ord 0 rfl).cell (j:=4) (bf (by omega))))<|an (B6 rfl rfl)<|an (aa rfl)<|an (aM rfl rfl Tryz.underlying215 bG hA_v (show((6:Nat):Int)=6 from rfl) (by omega))<|cm (fun m=>aw rfl bM ((m.ord 0 rfl).cell (j:=6) (bf (by omega))))<|an (iR rfl rfl)<|an (dT rfl rfl)<|an (ab rfl)<|bF<|al (ρ' :=[(14,_),(13,_),(97,_),(11,_),(12,_),(32,_),(6,_),(8,_),(21,_),(7,_),(5,_),(4,_),(0,_),(1,_)]) ⟨rfl,rfl,rfl,rfl,rfl,rfl,rfl,rfl,rfl,rfl,rfl,rfl,rfl,rfl,trivial⟩<|ag<|ah<|cT [] [(0,some 0),(1,some 0),(2,some 0),(3,some 0),(4,some 0),(5,some 0),(6,some 0),(7,some 0),(8,some 0),(9,some 0),(10,some 0),(11,some 0),(12,some 0),(13,some 0),(14,some 0),(15,some 0),(16,some 0),(17,some 0)] (by kernel_rfl) (by kernel_rfl) rfl 99<|an (aa rfl)<|an (aM rfl rfl Tryz.underlying215 bG hA_v (show((7:Nat):Int)=7 from rfl) (by omega))<|cm (fun m=>aw rfl bM ((m.ord 0 rfl).cell (j:=7) (bf (by omega))))<|an (aa rfl)<|an (da rfl rfl)<|an (aa rfl)<|an (da rfl rfl)<|an (aa rfl)<|an (aa rfl)<|an (aM rfl rfl Tryz.underlying215 bG hA_x rfl (by omega))<|cm (fun m=>aw rfl bM ((m.ord 2 rfl).cell (j:=i) (bf (by omega))))<| ?_
    generalize hk:fj.getD i 0=k
    refine an (da rfl rfl)<|an (aa rfl)<|an (aa rfl)<|an (aM rfl rfl Tryz.underlying215 bG hA_o rfl (by omega))<|cm (fun m=>aw rfl bM ((m.ord 1 rfl).cell (j:=i) (bf (by omega))))<|an (yV (da rfl rfl) ((rfl:_=Wd (rt v k (W.getD i 0)))))<|an (ab rfl)<|bF<|al (ρ' :=[(15,_),(14,_),(13,_),(97,_),(11,_),(12,_),(32,_),(6,_),(8,_),(21,_),(7,_),(5,_),(4,_),(0,_),(1,_)]) ⟨rfl,rfl,rfl,rfl,rfl,rfl,rfl,rfl,rfl,rfl,rfl,rfl,rfl,rfl,rfl,trivial⟩<|ag<|ah<|cT [3,7,12] [(0,some 3),(1,some 0),(2,some 0),(4,some 1),(5,some 1),(6,some 1),(9,some 2),(10,some 2),(11,some 2),(3,none),(7,none),(8,some 3),(12,none),(13,some 3),(14,some 3)] (by kernel_rfl) (by kernel_rfl) rfl 99<|an (aa rfl)<|an (aM rfl rfl Tryz.underlying215 bG hA_v (show((0:Nat):Int)=0 from rfl) (by omega))<|cm (fun m=>aw rfl bM ((m.ord 0 rfl).cell (j:=0) (bf (by omega))))<|an (aa rfl)<|an (aM rfl rfl Tryz.underlying215 bG hA_v (show((0:Nat):Int)=0 from rfl) (by omega))<|cm (fun m=>aw rfl bM ((m.ord 0 rfl).cell (j:=0) (bf (by omega))))<|an (aa rfl)<|an (aM rfl rfl Tryz.underlying215 bG hA_v (show((0:Nat):Int)=0 from rfl) (by omega))<|cm (fun m=>aw rfl bM ((m.ord 0 rfl).cell (j:=0) (bf (by omega))))<| ?_
    refine eb (aq rfl Tryz.call204 (iG (by omega) (n:=2)) [] rfl [] rfl ?_)
    rintro _ _ _ ⟨rfl,rfl,rfl⟩
    refine⟨(fun _=>wk [0,0,0] [0,1] rfl rfl), ?_⟩
    refine eb (aq rfl Tryz.call204 (iG (by omega) (n:=13)) [] rfl [] rfl ?_)
    rintro _ _ _ ⟨rfl,rfl,rfl⟩
    refine⟨(fun _=>wk [0,0,0] [0,1] rfl rfl), ?_⟩
    refine an (dT rfl rfl)<| ?_
    refine eb (aq rfl Tryz.call204 (iG (by omega) (n:=22)) [] rfl [] rfl ?_)
    rintro _ _ _ ⟨rfl,rfl,rfl⟩
    refine⟨(fun _=>wk [0,0,0] [0,1] rfl rfl), ?_⟩
    refine an (yV (dT rfl rfl) ((rfl:_=Wd (turns 2 13 22 (v_ v 0)))))<|an (ab rfl)<|bF<|al (ρ' :=[(16,_),(15,_),(14,_),(13,_),(97,_),(11,_),(12,_),(32,_),(6,_),(8,_),(21,_),(7,_),(5,_),(4,_),(0,_),(1,_)]) ⟨rfl,rfl,rfl,rfl,rfl,rfl,rfl,rfl,rfl,rfl,rfl,rfl,rfl,rfl,rfl,rfl,trivial⟩<|ak (X' :=[_,_,_]) (S' :=[_,_]) (fun _ m=>m)<|ag<|ah<|cT [] [(0,some 0),(1,some 0),(2,some 0),(3,some 0),(4,some 0),(5,some 0),(6,some 0),(7,some 0),(8,some 0),(9,some 0),(10,some 0),(11,some 0),(12,some 0),(13,some 0),(14,some 0),(15,some 0),(16,some 0),(17,some 0),(18,some 0),(19,some 0),(20,some 0),(21,some 0),(22,some 0),(23,some 0)] (by kernel_rfl) (by kernel_rfl) rfl 99<|an (aa rfl)<|an (aM rfl rfl Tryz.underlying215 bG hA_v (show((0:Nat):Int)=0 from rfl) (by omega))<|cm (fun m=>aw rfl bM ((m.ord 0 rfl).cell (j:=0) (bf (by omega))))<|an (aa rfl)<|an (aM rfl rfl Tryz.underlying215 bG hA_v (show((1:Nat):Int)=1 from rfl) (by omega))<|cm (fun m=>aw rfl bM ((m.ord 0 rfl).cell (j:=1) (bf (by omega))))<|an (iR rfl rfl)<|an (aa rfl)<|an (aM rfl rfl Tryz.underlying215 bG hA_v (show((0:Nat):Int)=0 from rfl) (by omega))<|cm (fun m=>aw rfl bM ((m.ord 0 rfl).cell (j:=0) (bf (by omega))))<|an (aa rfl)<|an (aM rfl rfl Tryz.underlying215 bG hA_v (show((2:Nat):Int)=2 from rfl) (by omega))<|cm (fun m=>aw rfl bM ((m.ord 0 rfl).cell (j:=2) (bf (by omega))))<|an (iR rfl rfl)<|an (dT rfl rfl)<|an (aa rfl)<|an (aM rfl rfl Tryz.underlying215 bG hA_v (show((1:Nat):Int)=1 from rfl) (by omega))<|cm (fun m=>aw rfl bM ((m.ord 0 rfl).cell (j:=1) (bf (by omega))))<|an (aa rfl)<|an (aM rfl rfl Tryz.underlying215 bG hA_v (show((2:Nat):Int)=2 from rfl) (by omega))<|cm (fun m=>aw rfl bM ((m.ord 0 rfl).cell (j:=2) (bf (by omega))))<|an (iR rfl rfl)<|an (dT rfl rfl)<|an (ab rfl)<|bF<|al (ρ' :=[(17,_),(16,_),(15,_),(14,_),(13,_),(97,_),(11,_),(12,_),(32,_),(6,_),(8,_),(21,_),(7,_),(5,_),(4,_),(0,_),(1,_)]) ⟨rfl,rfl,rfl,rfl,rfl,rfl,rfl,rfl,rfl,rfl,rfl,rfl,rfl,rfl,rfl,rfl,rfl,trivial⟩<|ag<|cT [28] [(0,some 0),(1,some 0),(2,some 0),(3,some 0),(4,some 0),(5,some 0),(6,some 0),(7,some 0),(8,some 0),(9,some 0),(10,some 0),(11,some 0),(12,some 0),(13,some 0),(14,some 0),(15,some 0),(16,some 0),(17,some 0),(18,some 0),(19,some 0),(20,some 0),(21,some 0),(22,some 0),(23,some 0),(24,some 0),(25,some 0),(26,some 0),(27,some 0),(28,none),(29,some 1)] (by kernel_rfl) (by kernel_rfl) rfl 99<|an (aa rfl)<|an (aa rfl)<|an (da rfl rfl)<|an (aa rfl)<|an (yV (da rfl rfl) ((show Wd (rt v k (W.getD i 0)+turns 2 13 22 (v_ v 0)+((v_ v 0 &&& v_ v 1) ^^^ (v_ v 0 &&& v_ v 2) ^^^ (v_ v 1 &&& v_ v 2)))=Wd (rt v k (W.getD i 0)+ru v) by rw[UInt32.add_assoc];rfl)))<|an (aa rfl)<|an (aM rfl rfl Tryz.underlying215 bG hA_v (show((0:Nat):Int)=0 from rfl) (by omega))<|cm (fun m=>aw rfl bM ((m.ord 0 rfl).cell (j:=0) (bf (by omega))))<|an (aa rfl)<|an (aM rfl rfl Tryz.underlying215 bG hA_v (show((1:Nat):Int)=1 from rfl) (by omega))<|cm (fun m=>aw rfl bM ((m.ord 0 rfl).cell (j:=1) (bf (by omega))))<|an (aa rfl)<|an (aM rfl rfl Tryz.underlying215 bG hA_v (show((2:Nat):Int)=2 from rfl) (by omega))<|cm (fun m=>aw rfl bM ((m.ord 0 rfl).cell (j:=2) (bf (by omega))))<|an (aa rfl)<|an (aM rfl rfl Tryz.underlying215 bG hA_v (show((3:Nat):Int)=3 from rfl) (by omega))<|cm (fun m=>aw rfl bM ((m.ord 0 rfl).cell (j:=3) (bf (by omega))))<|an (aa rfl)<|an (da rfl rfl)<|an (aa rfl)<|an (aM rfl rfl Tryz.underlying215 bG hA_v (show((4:Nat):Int)=4 from rfl) (by omega))<|cm (fun m=>aw rfl bM ((m.ord 0 rfl).cell (j:=4) (bf (by omega))))<|an (aa rfl)<|an (aM rfl rfl Tryz.underlying215 bG hA_v (show((5:Nat):Int)=5 from rfl) (by omega))<|cm (fun m=>aw rfl bM ((m.ord 0 rfl).cell (j:=5) (bf (by omega))))<|an (aa rfl)<|an (aM rfl rfl Tryz.underlying215 bG hA_v (show((6:Nat):Int)=6 from rfl) (by omega))<|cm (fun m=>aw rfl bM ((m.ord 0 rfl).cell (j:=6) (bf (by omega))))<| ?_
    refine eb (b4 Tryz.underlying215 nB rfl rfl rfl (by exact tp (l:=[_,_,_,_,_,_,_,_])) (by decide) (by decide) (fun g212=>⟨(fun _=>wk [1,1,1] [0,1] rfl rfl), ?_⟩))
    have hA_b212:0<8→(some (⟨g212,0,none⟩:Addr))≠none:=fun _ h=>by cases h
    refine an (ab rfl)<|bF<|al (ρ' :=[(11,_),(17,_),(16,_),(15,_),(14,_),(13,_),(97,_),(12,_),(32,_),(6,_),(8,_),(21,_),(7,_),(5,_),(4,_),(0,_),(1,_)]) ⟨rfl,rfl,rfl,rfl,rfl,rfl,rfl,rfl,rfl,rfl,rfl,rfl,rfl,rfl,rfl,rfl,rfl,trivial⟩<|ak (X' :=[_,_,_,_]) (S' :=[_,_]) (fun _ m=>m)<|aS<|ag<|aj<|hy (fun _=>aa rfl)<|hy (fun _=>aN rfl rfl (bE (by omega) (by omega)))<|hy (fun _=>ab rfl)<|ai<|al (ρ' :=[(12,_),(11,_),(17,_),(16,_),(15,_),(14,_),(13,_),(97,_),(32,_),(6,_),(8,_),(21,_),(7,_),(5,_),(4,_),(0,_),(1,_)]) ⟨rfl,rfl,rfl,rfl,rfl,rfl,rfl,rfl,rfl,rfl,rfl,rfl,rfl,rfl,rfl,rfl,rfl,trivial⟩<| ?_
    refine ak (fun w m=>m.bU 0 rfl (show _=aG 166 1 (.slice (some ⟨g212,0,none⟩) 8 8) 8 (dS (kq W h (i+1)))from by rw[kq,hvd,hk];rfl)) ?_
    refine eZ (i+1) (some ⟨g212,0,none⟩) 8 ⟨rfl,rfl,rfl,rfl,rfl,rfl,rfl,rfl,rfl,rfl,rfl,trivial⟩ [0,1,1] rfl [0,1] rfl (by omega) (by omega)
   ·obtain rfl:i=64:=by omega
    generalize hvv:kq W h 64=v at hv ⊢
    refine bw (fun w m=>m.bU 0 rfl (show _=aG 166 1 (.slice A2 8 c2) 8 (dS (fz v h 0))from by rw[p4])) ?_
    refine bL<|ao<|ao<|aC<|ag<|ah<|ah<|aj<|hy (fun _=>ab rfl)<|ai<|ag<|aK<| ?_
    refine dD (fun j=>8-j) (fun j=>[(18,.int .i64 (j:Nat))]) (fun j=>[aG 166 1 (.slice A2 8 c2) 8 (dS (fz v h j))]) (fun j=>[]) (fun j=>j≤8) 0 [(97,_),(11,_),(12,_),(32,_),(6,_),(8,_),(21,_),(7,_),(5,_),(4,_),(0,_),(1,_)] ⟨rfl,rfl,rfl,rfl,rfl,rfl,rfl,rfl,rfl,rfl,rfl,rfl,trivial⟩ [0] rfl [] rfl (Nat.zero_le _) ⟨rfl,trivial⟩ (fun j hj8=> ?_)
    have hsl:(fz v h j).length=v.length:=by simp[fz]
    refine ah<|ah<|aj<|hy (fun _=>aa rfl)<|hy (fun _=>bA rfl rfl)<|ai<|al (ρ' :=[(214,_),(18,_),(97,_),(11,_),(12,_),(32,_),(6,_),(8,_),(21,_),(7,_),(5,_),(4,_),(0,_),(1,_)]) ⟨rfl,rfl,rfl,rfl,rfl,rfl,rfl,rfl,rfl,rfl,rfl,rfl,rfl,rfl,trivial⟩<|ag<| ?_
    refine cC rfl (fun hj=> ?_) (fun hj=> ?_)
    ·refine aD<|ag<|ah<|aK<|cT [12] [(0,some 0),(1,some 0),(2,some 0),(3,some 0),(4,some 0),(5,some 0),(6,some 0),(7,some 0),(8,some 0),(9,some 0),(10,some 0),(11,some 0),(12,none)] (by kernel_rfl) (by kernel_rfl) rfl 0<|an (aa rfl)<|an (aa rfl)<|an (aa rfl)<|an (aa rfl)<|an (aM rfl rfl Tryz.underlying215 bG hA_v rfl (by omega))<|cm (fun m=>aw rfl bM ((m.ord 0 rfl).cell (j:=j) (bf (by omega))))<|an (aa rfl)<|an (aa rfl)<|an (aM rfl rfl Tryz.underlying215 bG hA_q rfl (by omega))<|cm (fun m=>aw rfl bM ((m.rd 0 rfl).cell (j:=j) (bf (by omega))))<|an (yV (da rfl rfl) ((rfl:_=Wd (v_ (fz v h j) j+v_ h j))))<|an (aM rfl rfl Tryz.underlying215 bG hA_v rfl (by omega))<| ?_
     refine jY (yz 0 rfl rfl rfl bG rfl (by omega) ⟨(fun h=>absurd h (by decide)), ?_⟩)
     refine bF<|al (ρ' :=[(214,_),(18,_),(97,_),(11,_),(12,_),(32,_),(6,_),(8,_),(21,_),(7,_),(5,_),(4,_),(0,_),(1,_)]) ⟨rfl,rfl,rfl,rfl,rfl,rfl,rfl,rfl,rfl,rfl,rfl,rfl,rfl,rfl,trivial⟩<|ak (X' :=[_,_,_]) (S' :=[_,_]) (fun _ m=>m)<|aS<|ag<|aj<|hy (fun _=>aa rfl)<|hy (fun _=>aN rfl rfl (bE (by omega) (by omega)))<|hy (fun _=>ab rfl)<|ai<|al (ρ' :=[(18,_),(214,_),(97,_),(11,_),(12,_),(32,_),(6,_),(8,_),(21,_),(7,_),(5,_),(4,_),(0,_),(1,_)]) ⟨rfl,rfl,rfl,rfl,rfl,rfl,rfl,rfl,rfl,rfl,rfl,rfl,rfl,rfl,trivial⟩<| ?_
     refine ak (fun w m=>m.bU 0 rfl (show _=aG 166 1 (.slice A2 8 c2) 8 (dS (fz v h (j+1)))from by rw[uU,p7 (by omega)])) ?_
     refine cM (j+1) ⟨rfl,rfl,rfl,rfl,rfl,rfl,rfl,rfl,rfl,rfl,rfl,rfl,rfl,trivial⟩ [0,0,0] rfl [0,1] rfl (by omega) (by omega)
    ·obtain rfl:j=8:=by omega
     have hB:fz v h 8=ea h l:=by rw[ea,hW,hvv]
     rw[hB]
     refine bL<|ao<|ao<|aC<|ag<|ah<|aj<|hy (fun _=>aa rfl)<|hy (fun _=>ab rfl)<|ai<|al (ρ' :=[(4,_),(214,_),(18,_),(97,_),(11,_),(12,_),(32,_),(6,_),(8,_),(21,_),(7,_),(5,_),(0,_),(1,_)]) ⟨rfl,rfl,rfl,rfl,rfl,rfl,rfl,rfl,rfl,rfl,rfl,rfl,rfl,rfl,trivial⟩<|ag<|aV<| ?_
     exact bh trivial rfl rfl [0] rfl [] rfl ⟨_,rfl,rfl,rfl⟩
end Go.Proofs.YtmibdabdlgmafaaGreatDoor
end
section
set_option maxRecDepth 20000
namespace Go.Proofs.YtmibdabdlgmafaaGreatDoor
open Go.Eng Go.Hx
def lC(n:Nat):Nat→Nat
 |0=>n
 |i+1=>lC n i/256
theorem oW(n:Nat):∀i,lC n i=n/256 ^ i
 |0=>by simp[lC]
 |i+1=>by rw[lC,oW n i,Nat.div_div_eq_div_mul,Nat.pow_succ]
def pK(n i:Nat):List UInt8:=List.replicate (8-i) 0++(r3 n).drop (8-i)
theorem kN(n:Nat):(r3 n).length=8:=by simp[r3]
theorem yu(n i:Nat)(h:i≤8):(pK n i).length=8:=by
 rw[pK,List.length_append,List.length_replicate,List.length_drop,kN];omega
theorem wS{n i:Nat}(hi:i<8):(pK n i).set (7-i) (UInt8.ofNat (lC n i % 256))=pK n (i+1):=by
 have e:UInt8.ofNat (lC n i % 256)=UInt8.ofNat (n/256 ^ i):=by
  rw[oW];apply UInt8.toNat_inj.1;simp
 rw[e]
 obtain⟨k,hk⟩:∃k,8-i=k+1:=⟨7-i,by omega⟩
 have h7:7-i=k:=by omega
 have hd:(r3 n).drop k=UInt8.ofNat (n/256 ^ i)::(r3 n).drop (k+1):=by
  rw[List.drop_eq_getElem_cons (by rw[kN];omega)]
  congr 1
  simp only[r3,List.getElem_map,List.getElem_range]
  congr 3;omega
 rw[pK,pK,hk,h7,show 8-(i+1)=k by omega,hd,List.replicate_succ',List.append_assoc,List.set_append_right _ _ (by simp)]
 simp
theorem Af{A:Option Addr}{n c:Nat}{l:List UInt8}(hn:n≤140737488351232):cf Tryz.prog 141 [.slice A n c] [] [c6 1 A n (aQ l)] (fun v_ X_ S_=>∃v,v_=v∧X_=[aG 5 1 v (iQ l).length (aQ (iQ l))]∧S_=[]):=by
 have hz64:gV n<64:=Nat.mod_lt _ (by decide)
 have hzp:(n+(1+gV n)) % 64=56:=by unfold gV;omega
 have hzm:∀j,j<gV n→(n+(1+j)) % 64≠56:=fun j hj=>by unfold gV at hj;omega
 refine aO (N:=39) Tryz.func141 rfl rfl (by simp) fun b=> ?_
 refine a6 (fun m=>gz (m.rd 0 rfl)) ?_
 rintro⟨hl_r,hA_r⟩
 have hl:l.length=n:=hl_r
 refine ah<|aj<|hy (fun _=>ab rfl)<|ai<|ag<|ah<|aj<|hy (fun _=>ab rfl)<|ai<|ag<|ah<|aj<|hy (fun _=>aa rfl)<|hy (fun _=>aa rfl)<| ?_
 refine aU (fun w m=>m.dy (r' :=aG 5 1 (.slice none 0 0) 0 []) (.refl _ _) (Own.nil _ _ _ _) (fun k hk=>hk.elim)) ?_
 refine hx (bI 0 rfl rfl rfl Tryz.underlying27 Tryz.underlying27 (by exact .inl rfl) eO rfl (fun m=>Src.bZ (m.rd 0 rfl)) aR (by unfold maxLen;omega) (by omega) (fun u=> ?_))
 refine aB (fun m=>(m.own 0 rfl).slice) ?_
 rintro⟨A_o,c_o,rfl,hc_o⟩
 refine aB (fun m=>(m.ord 0 rfl).2.1) fun hA_o=> ?_
 rw[Nat.zero_add]
 refine hy (fun _=>ab rfl)<|ai<|al (ρ' :=[(3,_),(2,_),(0,_)]) ⟨rfl,rfl,rfl,trivial⟩<|ak (X' :=[_]) (S' :=[_]) (fun _ m=>m)<|ag<|ah<|aj<|hy (fun _=>aa rfl)<| ?_
 refine hx (b4 Tryz.underlying27 eO rfl rfl rfl (by simp[Value.cells,B8]) (by decide) (by decide) (fun g11=> ?_))
 have hA_b11:0<1→(some (⟨g11,0,none⟩:Addr))≠none:=fun _ h=>by cases h
 refine aU (fun w m=>m.bU 0 rfl (show _=aG 5 1 (.slice (some ⟨g11,0,none⟩) 1 1) 1 (aQ [128])from rfl)) ?_
 refine hx (bI 1 rfl rfl rfl Tryz.underlying27 Tryz.underlying27 (by exact .inl rfl) eO rfl (fun m=>Src.bZ (m.ord 0 rfl)) aR (by unfold maxLen;omega) (by omega) (fun u2=> ?_))
 refine aB (fun m=>(m.own 0 rfl).slice) ?_
 rintro⟨A_o2,c_o2,rfl,hc_o⟩
 refine aB (fun m=>(m.ord 0 rfl).2.1) fun hA_o=> ?_
 refine aU (fun w m=>m.bU 0 rfl (show _=aG 5 1 (.slice A_o2 (n+1+0) c_o2) (n+1+0) (aQ (l++128::List.replicate 0 0))from by simp[aQ])) ?_
 refine hy (fun _=>ab rfl)<|ai<|al (ρ' :=[(3,_),(2,_),(0,_)]) ⟨rfl,rfl,rfl,trivial⟩<|ak (X' :=[_,_]) (S' :=[_]) (fun _ m=>m)<|ag<|ah<|aK<| ?_
 refine fm (fun j A1 cc=>gV n-j) (fun j A1 cc=>[(3,.slice A1 (n+1+j) cc)]) (fun j A1 cc=>[aG 5 1 (.slice A1 (n+1+j) cc) (n+1+j) (aQ (l++128::List.replicate j 0))]) (fun j A1 cc=>[]) (fun j A1 cc=>j≤gV n) 0 A_o2 c_o2 [(2,_),(0,_)] ⟨rfl,rfl,trivial⟩ [0] rfl [] rfl (Nat.zero_le _) ⟨rfl,trivial⟩ (fun j A1 cc hjz=> ?_)
 refine ah<|ah<|aj<|hy (fun _=>aa rfl)<|hy (fun _=>aW rfl Tryz.underlying27)<|hy (fun _=>gC rfl rfl (by omega) (by omega))<|hy (fun _=>dL rfl rfl)<|ai<|al (ρ' :=[(16,_),(3,_),(2,_),(0,_)]) ⟨rfl,rfl,rfl,rfl,trivial⟩<|ag<| ?_
 refine cC rfl (fun hne=> ?_) (fun hne=> ?_)
 ·have hj:j<gV n:=by
   rcases Nat.lt_or_eq_of_le hjz with h|h
   ·exact h
   ·rw[←h]at hzp;omega
  refine aD<|ag<|aK<|aj<|hy (fun _=>aa rfl)<| ?_
  refine hx (b4 Tryz.underlying27 eO rfl rfl rfl (by simp[Value.cells,B8]) (by decide) (by decide) (fun g18=> ?_))
  have hA_b18:0<1→(some (⟨g18,0,none⟩:Addr))≠none:=fun _ h=>by cases h
  refine aU (fun w m=>m.bU 0 rfl (show _=aG 5 1 (.slice (some ⟨g18,0,none⟩) 1 1) 1 (aQ [0])from rfl)) ?_
  refine hx (bI 1 rfl rfl rfl Tryz.underlying27 Tryz.underlying27 (by exact .inl rfl) eO rfl (fun m=>Src.bZ (m.ord 0 rfl)) aR (by unfold maxLen;omega) (by omega) (fun u3=> ?_))
  refine aB (fun m=>(m.own 0 rfl).slice) ?_
  rintro⟨A_o3,c_o3,rfl,hc_o⟩
  refine aB (fun m=>(m.ord 0 rfl).2.1) fun hA_o=> ?_
  refine hy (fun _=>ab rfl)<|ai<|al (ρ' :=[(3,_),(16,_),(2,_),(0,_)]) ⟨rfl,rfl,rfl,rfl,trivial⟩<|ak (X' :=[_,_,_]) (S' :=[_]) (fun _ m=>m)<|aS<| ?_
  refine ak (fun w m=>m.bU 0 rfl (show _=aG 5 1 (.slice A_o3 (n+1+(j+1)) c_o3) (n+1+(j+1)) (aQ (l++128::List.replicate (j+1) 0))from by rw[List.replicate_succ'];simp[aQ,Nat.add_assoc])) ?_
  refine eZ (j+1) A_o3 c_o3 ⟨rfl,rfl,rfl,trivial⟩ [0,1] rfl [0] rfl (by omega) (by omega)
 ·have hj:j=gV n:=by
   refine Decidable.byContradiction fun hn=> ?_
   have:=hzm j (by omega)
   omega
  subst hj
  refine bL<|ao<|ao<|aC<|ag<|ah<|aj<|hy (fun _=>aa rfl)<|hy (fun _=>aW rfl Tryz.underlying27)<|hy (fun _=>yV (fk rfl rfl (bE (by omega) (by omega))) ((show Value.int .i64 (8*(n:Int))= .int .i64 ((lC (8*n) 0:Nat):Int) by rw[lC];congr 1)))<|hy (fun _=>ab rfl)<|ai<|al (ρ' :=[(4,_),(16,_),(3,_),(2,_),(0,_)]) ⟨rfl,rfl,rfl,rfl,rfl,trivial⟩<|ag<|ah<|aj<| ?_
  refine hx (Aq (n:=8) Tryz.underlying27 eO rfl rfl rfl (by decide) (by decide) (fun g23=> ?_))
  have hA_b23:∀{n:Nat},0<n→(some (⟨g23,0,none⟩:Addr))≠none:=fun _ h=>by cases h
  refine hy (fun _=>ab rfl)<|ai<|al (ρ' :=[(5,_),(4,_),(16,_),(3,_),(2,_),(0,_)]) ⟨rfl,rfl,rfl,rfl,rfl,rfl,trivial⟩<|ak (X' :=[_,_,_]) (S' :=[_]) (fun _ m=>m)<|ag<|ah<|ah<|aj<| ?_
  refine aU (fun w m=>m.bU 0 rfl (show _=aJ g23 5 (aQ (pK (8*n) 0))from by rw[pK,List.drop_of_length_le (by rw[kN];decide),List.append_nil];rfl)) ?_
  refine hy (fun _=>ab rfl)<|ai<|ag<|aK<| ?_
  refine dD (fun i=>8-i) (fun i=>[(4,.int .i64 ((lC (8*n) i:Nat):Int)),(6,.int .i64 (7-(i:Int)))]) (fun i=>[aJ g23 5 (aQ (pK (8*n) i))]) (fun i=>[]) (fun i=>i≤8) 0 [(5,_),(16,_),(3,_),(2,_),(0,_)] ⟨rfl,rfl,rfl,rfl,rfl,trivial⟩ [0] rfl [] rfl (Nat.zero_le _) ⟨rfl,rfl,trivial⟩ (fun i hi8=> ?_)
  have hq:lC (8*n) i≤8*n:=by rw[oW];exact Nat.div_le_self ..
  have hbl:=yu (8*n) i hi8
  refine ah<|ah<|aj<|hy (fun _=>aa rfl)<|hy (fun _=>jS rfl rfl)<|ai<|al (ρ' :=[(25,_),(4,_),(6,_),(5,_),(16,_),(3,_),(2,_),(0,_)]) ⟨rfl,rfl,rfl,rfl,rfl,rfl,rfl,rfl,trivial⟩<|ag<| ?_
  refine cC rfl (fun hi=> ?_) (fun hi=> ?_)
  ·refine aD<|ag<|ah<|aK<|ah<|aj<|hy (fun _=>aa rfl)<|hy (fun _=>aa rfl)<|hy (fun _=>aa rfl)<|hy (fun _=>gC rfl rfl (by omega) (by omega))<|hy (fun _=>bT rfl Tryz.underlying3 Tryz.underlying5 (show IntKind.u8.wrap (((lC (8*n) i:Nat):Int) % 256)=((UInt8.ofNat (lC (8*n) i % 256)).toNat:Int)from gA (lC (8*n) i % 256)))<|hy (fun _=>aM rfl rfl Tryz.underlying27 dW hA_b23 (show((7-i:Nat):Int)=_ by omega) (by omega))<| ?_
   refine cH (cA 0 rfl rfl rfl dW rfl (by rw[ay,hbl];omega) ?_)
   refine ai<|al (ρ' :=[(25,_),(4,_),(6,_),(5,_),(16,_),(3,_),(2,_),(0,_)]) ⟨rfl,rfl,rfl,rfl,rfl,rfl,rfl,rfl,trivial⟩<|ak (X' :=[_,_,_]) (S' :=[_]) (fun _ m=>m)<|ag<|aj<|hy (fun _=>aa rfl)<|hy (fun _=>yV (jU rfl rfl (by omega) (by omega) (bE (by omega) (by omega))) ((show Value.int .i64 (((lC (8*n) i:Nat):Int)/256)= .int .i64 ((lC (8*n) (i+1):Nat):Int)from rfl)))<|hy (fun _=>ab rfl)<|ai<|al (ρ' :=[(4,_),(25,_),(6,_),(5,_),(16,_),(3,_),(2,_),(0,_)]) ⟨rfl,rfl,rfl,rfl,rfl,rfl,rfl,rfl,trivial⟩<|aS<|ag<|aj<|hy (fun _=>aa rfl)<|hy (fun _=>yV (cg rfl rfl (bE (by omega) (by omega))) ((show Value.int .i64 (7-(i:Int)-1)= .int .i64 (7-((i+1:Nat):Int))from congrArg (Value.int .i64) (by omega))))<|hy (fun _=>ab rfl)<|ai<|al (ρ' :=[(6,_),(4,_),(25,_),(5,_),(16,_),(3,_),(2,_),(0,_)]) ⟨rfl,rfl,rfl,rfl,rfl,rfl,rfl,rfl,trivial⟩<| ?_
   refine ak (fun w m=>m.bU 0 rfl (show _=aJ g23 5 (aQ (pK (8*n) (i+1)))from by rw[Nat.zero_add,←wS (by omega),Be];rfl)) ?_
   refine cM (i+1) ⟨rfl,rfl,rfl,rfl,rfl,rfl,rfl,trivial⟩ [0,0,0] rfl [0] rfl (by omega) (by omega)
  ·obtain rfl:i=8:=by omega
   have hpl:(iQ l).length=n+1+gV n+8:=by
    simp only[iQ,List.length_append,List.length_cons,List.length_replicate,kN,hl];omega
   refine bw (fun w m=>m.bU 0 rfl (show _=aJ g23 5 (aQ (r3 (8*n)))from by simp[pK])) ?_
   refine bL<|ao<|ao<|aC<|ag<|ah<|aj<|hy (fun _=>aa rfl)<|hy (fun _=>aa rfl)<| ?_
   refine hx (bI 1 rfl rfl rfl Tryz.underlying27 Tryz.underlying27 (by exact .inl rfl) eO rfl (fun m=>Src.bZ (Rd.gu (m.aX 0 rfl) (by rw[ay,kN]))) aR (by unfold maxLen;omega) (by omega) (fun u3=> ?_))
   refine aB (fun m=>(m.own 0 rfl).slice) ?_
   rintro⟨A_o3,c_o3,rfl,hc_o⟩
   refine aB (fun m=>(m.ord 0 rfl).2.1) fun hA_o=> ?_
   refine aU (fun w m=>m.bU 0 rfl (show _=aG 5 1 (.slice A_o3 (iQ l).length c_o3) (iQ l).length (aQ (iQ l))from by rw[hpl,iQ,hl];simp[aQ])) ?_
   refine hy (fun _=>ab rfl)<|ai<|al (ρ' :=[(2,_),(25,_),(4,_),(6,_),(5,_),(16,_),(3,_),(0,_)]) ⟨rfl,rfl,rfl,rfl,rfl,rfl,rfl,rfl,trivial⟩<|ak (X' :=[_,_,_]) (S' :=[_]) (fun _ m=>m)<|ag<|aV<| ?_
   exact bh trivial rfl rfl [0] rfl [] rfl ⟨_,(by rw[hpl]),rfl,rfl⟩
theorem yS{p r:List UInt8}{k:Nat}{a x:UInt8}(hp:p.length=k):(aQ (p++x::r)).set k (B8 a)=aQ (p++[a]++r):=by
 subst hp
 simp[aQ,List.set_append]
def qw(x:UInt32):Nat→UInt32
 |0=>x
 |j+1=>qw x j/256
theorem sH(x:UInt32):∀j,(qw x j).toNat=x.toNat/256 ^ j
 |0=>by simp[qw]
 |j+1=>by
  rw[qw,UInt32.toNat_div,sH x j,Nat.pow_succ,←Nat.div_div_eq_div_mul];rfl
theorem D5(x:UInt32){r:Nat}(hr:r<4):(z7 x)[r]? =some (UInt8.ofNat (qw x (3-r) % 256).toNat):=by
 have h256:(256:UInt32).toNat=256:=rfl
 have e:∀k,UInt8.ofNat ((qw x k % 256).toNat)=UInt8.ofNat (x.toNat/256 ^ k):=fun k=>by
  rw[UInt32.toNat_mod,sH,h256]
  apply UInt8.toNat_inj.1;simp
 rw[e]
 match r,hr with
 |0,_=>simp[z7,UInt32.toNat_div]
 |1,_=>simp[z7,UInt32.toNat_div]
 |2,_=>simp[z7,UInt32.toNat_div]
 |3,_=>simp[z7]
theorem qJ:∀(h:List UInt32) (q r:Nat),q<h.length→r<4→(ek h)[4*q+r]? =(z7 (h.getD q 0))[r]?
 |a::t,0,r,hq,hr=>by
  rw[ek,List.flatMap_cons,List.getElem?_append_left (by show 4*0+r<4;omega)]
  simp
 |a::t,q+1,r,hq,hr=>by
  rw[ek,List.flatMap_cons,List.getElem?_append_right (by show 4≤_;omega),show 4*(q+1)+r-(z7 a).length=4*q+r by show 4*(q+1)+r-4=_;omega]
  have:=qJ t q r (by simpa using hq) hr
  simpa[ek]using this
theorem pc{A:Option Addr}{n c:Nat}{l:List UInt8}(hn:n≤140737488351232):cf Tryz.prog 56 [.slice A n c] [] [c6 1 A n (aQ l)] (fun v_ X_ S_=>v_=(.agg (aQ (ba l)).toArray)∧X_=[]∧S_=[]):=by
 refine aO (N:=49) Tryz.func56 rfl rfl (by simp) fun b=> ?_
 refine a6 (fun m=>gz (m.rd 0 rfl)) ?_
 rintro⟨hl_r,hA_r⟩
 refine ah<|aj<| ?_
 refine hx (aP dQ (fun g2=> ?_))
 refine ai<|ak (X' :=[_]) (S' :=[_]) (fun _ m=>m)<|ag<|ah<|aj<| ?_
 refine hx (b4 Tryz.underlying215 nB rfl rfl rfl (by decide) (by decide) (by decide) (fun g10=> ?_))
 have hA_b10:0<8→(some (⟨g10,0,none⟩:Addr))≠none:=fun _ h=>by cases h
 refine aU (fun w m=>m.bU 0 rfl (show _=aG 166 1 (.slice (some ⟨g10,0,none⟩) 8 8) 8 (dS (e8 lL ((iQ l).take (64*0))))from by rw[Nat.mul_zero,List.take_zero];rfl)) ?_
 refine hy (fun _=>ab rfl)<|ai<|al (ρ' :=[(3,_),(2,_),(0,_)]) ⟨rfl,rfl,rfl,trivial⟩<|ak (X' :=[_,_]) (S' :=[_]) (fun _ m=>m)<|ag<|ah<|aj<|hy (fun _=>aa rfl)<| ?_
 refine hx (aq rfl Tryz.call141 (Af (by omega)) [] rfl [0] rfl ?_)
 rintro _ _ _ ⟨v,rfl,rfl,rfl⟩
 refine aB (fun m=>(m.own 0 rfl).slice) ?_
 rintro⟨A_x,c_x,rfl,hc_x⟩
 refine aB (fun m=>(m.ord 0 rfl).2.1) fun hA_x=> ?_
 refine hy (fun _=>ab rfl)<|ai<|al (ρ' :=[(4,_),(3,_),(2,_),(0,_)]) ⟨rfl,rfl,rfl,rfl,trivial⟩<|ak (X' :=[_,_,_]) (S' :=[_]) (fun _ m=>m)<|ag<|ah<|ah<|aj<|hy (fun _=>ab rfl)<|ai<|ag<|aK<| ?_
 have hpl:=nu l
 have hpb:(iQ l).length≤140737488352000:=by
  have:l.length=n:=hl_r
  have hz:gV l.length<64:=Nat.mod_lt _ (by decide)
  simp only[iQ,List.length_append,List.length_cons,List.length_replicate,kN];omega
 obtain⟨K,hK⟩:∃K,(iQ l).length=64*K:=⟨(iQ l).length/64,by omega⟩
 generalize hP:iQ l=P at hpl hpb hK hc_x hA_x ⊢
 refine bw (fun w m=>(m.perm (ar [0] _ [_] _ rfl)).freeze) ?_
 refine bw (fun w m=>m.kM 0 rfl .own) ?_
 refine a6 (fun m=>gz (m.rd 0 rfl)) ?_
 rintro⟨hl_xr,hA_xr⟩
 refine fm (fun k H hc=>K-k) (fun k H hc=>[(3,.slice H 8 hc),(5,.int .i64 ((64*k:Nat):Int))]) (fun k H hc=>[aG 166 1 (.slice H 8 hc) 8 (dS (e8 lL (P.take (64*k))))]) (fun k H hc=>[]) (fun k H hc=>k≤K) 0 (some ⟨g10,0,none⟩) 8 [(4,_),(2,_),(0,_)] ⟨rfl,rfl,rfl,trivial⟩ [0] rfl [] rfl (Nat.zero_le _) ⟨rfl,rfl,trivial⟩ (fun k H hc hkK=> ?_)
 have hh:=mq (h:=lL) (P.take (64*k)) rfl
 refine ah<|ah<|aj<|hy (fun _=>aa rfl)<|hy (fun _=>aa rfl)<|hy (fun _=>aW rfl Tryz.underlying27)<|hy (fun _=>bA rfl rfl)<|ai<|al (ρ' :=[(16,_),(3,_),(5,_),(4,_),(2,_),(0,_)]) ⟨rfl,rfl,rfl,rfl,rfl,rfl,trivial⟩<|ag<| ?_
 refine cC rfl (fun hlt=> ?_) (fun hlt=> ?_)
 ·have hk:k<K:=by omega
  refine bw (fun w m=>m.kM 0 rfl (View.sub (k:=64*k) (m:=64) hc_x (by omega))) ?_
  refine a6 (fun m=>gz (m.rd 0 rfl)) ?_
  rintro⟨hl_r64,hA_r64⟩
  refine aD<|ag<|ah<|aK<|aj<|hy (fun _=>aa rfl)<|hy (fun _=>aa rfl)<|hy (fun _=>aa rfl)<|hy (fun _=>aa rfl)<|hy (fun _=>aN rfl rfl (bE (by omega) (by omega)))<|hy (fun _=>yV (eA rfl rfl rfl Tryz.underlying27 dW (show((64*k:Nat):Int)=_ by omega) (show((64*k+64:Nat):Int)=_ by omega) (by omega) (by omega)) ((show Value.slice (if c_x=64*k then A_x else A_x.map (·.add (64*k*1))) (64*k+64-64*k) (c_x-64*k)= .slice (if c_x=64*k then A_x else A_x.map (·.add (64*k*1))) 64 (c_x-64*k) by rw[Nat.add_sub_cancel_left])))<| ?_
  refine hx (cI rfl Tryz.call142 (AA (by omega) hh (h:=(e8 lL (P.take (64*k))))) [] rfl (.x 0 rfl .own (.s 0 rfl .nil)) ?_)
  rintro _ _ _ ⟨u,rfl,rfl,rfl⟩
  refine⟨rfl, ?_⟩
  refine aB (fun m=>(m.own 0 rfl).slice) ?_
  rintro⟨A_y,c_y,rfl,hc_y⟩
  refine aB (fun m=>(m.ord 0 rfl).2.1) fun hA_y=> ?_
  refine hy (fun _=>ab rfl)<|ai<|al (ρ' :=[(3,_),(16,_),(5,_),(4,_),(2,_),(0,_)]) ⟨rfl,rfl,rfl,rfl,rfl,rfl,trivial⟩<|ak (X' :=[_,_,_]) (S' :=[_,_,_,_]) (fun _ m=>m)<|aS<|ag<|aj<|hy (fun _=>aa rfl)<|hy (fun _=>yV (aN rfl rfl (bE (by omega) (by omega))) ((show Value.int .i64 (((64*k:Nat):Int)+64)= .int .i64 ((64*(k+1):Nat):Int)from congrArg (Value.int .i64) (by omega))))<|hy (fun _=>ab rfl)<|ai<|al (ρ' :=[(5,_),(3,_),(16,_),(4,_),(2,_),(0,_)]) ⟨rfl,rfl,rfl,rfl,rfl,rfl,trivial⟩<| ?_
  have hfs:ea (e8 lL (P.take (64*k))) ((P.drop (64*k)).take 64)=e8 lL (P.take (64*(k+1))):=by
   rw[←ox (by rw[List.length_take];omega) (by rw[List.length_take,List.length_drop];omega),←List.take_add]
   rfl
  rw[hfs]
  refine eZ (k+1) A_y c_y ⟨rfl,rfl,rfl,rfl,rfl,trivial⟩ [0,1] rfl [1,2,3] rfl (by omega) (by omega)
 ·obtain rfl:k=K:=by omega
  have hfl:e8 lL (P.take (64*k))=e8 lL P:=by rw[List.take_of_length_le (by omega)]
  rw[hfl]at hh ⊢
  have hsha:ba l=ek (e8 lL P):=by rw[ba,hP]
  have hdl:=mh hh
  generalize e8 lL P=F at hh hsha hdl ⊢
  refine a6 (fun m=>(m.ord 0 rfl).2.1) fun hA_b10=> ?_
  refine bL<|ao<|ao<|aC<|ag<|ah<|aj<| ?_
  refine hx (aP dQ (fun g6=> ?_))
  refine ai<|ak (X' :=[_,_,_]) (S' :=[_,_,_]) (fun _ m=>m)<|ag<|ah<|ah<|aj<|hy (fun _=>ab rfl)<|ai<|ag<|aK<| ?_
  refine bw (fun w m=>m.bU 0 rfl (show _=aJ g6 53 (aQ ((ek F).take 0++List.replicate (32-0) 0))from rfl)) ?_
  refine dD (fun i=>32-i) (fun i=>[(7,.int .i64 (i:Nat))]) (fun i=>[aJ g6 53 (aQ ((ek F).take i++List.replicate (32-i) 0))]) (fun i=>[]) (fun i=>i≤32) 0 [(6,_),(16,_),(3,_),(5,_),(4,_),(2,_),(0,_)] ⟨rfl,rfl,rfl,rfl,rfl,rfl,rfl,trivial⟩ [0] rfl [] rfl (Nat.zero_le _) ⟨rfl,trivial⟩ (fun i hi32=> ?_)
  refine ah<|ah<|aj<|hy (fun _=>aa rfl)<|hy (fun _=>bA rfl rfl)<|ai<|al (ρ' :=[(27,_),(7,_),(6,_),(16,_),(3,_),(5,_),(4,_),(2,_),(0,_)]) ⟨rfl,rfl,rfl,rfl,rfl,rfl,rfl,rfl,rfl,trivial⟩<|ag<| ?_
  refine cC rfl (fun hi=> ?_) (fun hi=> ?_)
  ·refine aD<|ag<|ah<|aK<|ah<|aj<|hy (fun _=>aa rfl)<|hy (fun _=>aa rfl)<|hy (fun _=>jU rfl rfl (by omega) (by omega) (bE (by omega) (by omega)))<|hy (fun _=>aM rfl rfl Tryz.underlying215 bG hA_b10 (show((i/4:Nat):Int)=_ by omega) (by omega))<|hy (fun m=>yV (aw rfl bM ((m.ord 1 rfl).cell (j:=i/4) (bf (by omega)))) ((rfl:_=Wd (qw (F.getD (i/4) 0) 0))))<|hy (fun _=>ab rfl)<|ai<|al (ρ' :=[(8,_),(27,_),(7,_),(6,_),(16,_),(3,_),(5,_),(4,_),(2,_),(0,_)]) ⟨rfl,rfl,rfl,rfl,rfl,rfl,rfl,rfl,rfl,rfl,trivial⟩<|ag<|ah<|ah<|aj<|hy (fun _=>aa rfl)<|hy (fun _=>yV (gC rfl rfl (by omega) (by omega)) ((show Value.int .i64 ((i:Int) % 4)= .int .i64 (((i % 4+0:Nat)):Int)from congrArg (Value.int .i64) (by omega))))<|hy (fun _=>ab rfl)<|ai<|al (ρ' :=[(9,_),(8,_),(27,_),(7,_),(6,_),(16,_),(3,_),(5,_),(4,_),(2,_),(0,_)]) ⟨rfl,rfl,rfl,rfl,rfl,rfl,rfl,rfl,rfl,rfl,rfl,trivial⟩<|ag<|aK<| ?_
   refine dD (fun j=>3-j) (fun j=>[(8,Wd (qw (F.getD (i/4) 0) j)),(9,.int .i64 ((i % 4+j:Nat):Int))]) (fun j=>[]) (fun j=>[]) (fun j=>i % 4+j≤3) 0 [(27,_),(7,_),(6,_),(16,_),(3,_),(5,_),(4,_),(2,_),(0,_)] ⟨rfl,rfl,rfl,rfl,rfl,rfl,rfl,rfl,rfl,trivial⟩ [] rfl [] rfl ((by omega)) ⟨rfl,rfl,trivial⟩ (fun j hj3=> ?_)
   refine ah<|ah<|aj<|hy (fun _=>aa rfl)<|hy (fun _=>bA rfl rfl)<|ai<|al (ρ' :=[(38,_),(8,_),(9,_),(27,_),(7,_),(6,_),(16,_),(3,_),(5,_),(4,_),(2,_),(0,_)]) ⟨rfl,rfl,rfl,rfl,rfl,rfl,rfl,rfl,rfl,rfl,rfl,rfl,trivial⟩<|ag<| ?_
   refine cC rfl (fun hj=> ?_) (fun hj=> ?_)
   ·refine aD<|ag<|ah<|aK<|aj<|hy (fun _=>aa rfl)<|hy (fun _=>yV (ra (b:=256) (by decide) rfl rfl) ((rfl:_=Wd (qw (F.getD (i/4) 0) (j+1)))))<|hy (fun _=>ab rfl)<|ai<|al (ρ' :=[(8,_),(38,_),(9,_),(27,_),(7,_),(6,_),(16,_),(3,_),(5,_),(4,_),(2,_),(0,_)]) ⟨rfl,rfl,rfl,rfl,rfl,rfl,rfl,rfl,rfl,rfl,rfl,rfl,trivial⟩<|aS<|ag<|aj<|hy (fun _=>aa rfl)<|hy (fun _=>yV (aN rfl rfl (bE (by omega) (by omega))) ((show Value.int .i64 (((i % 4+j:Nat):Int)+1)= .int .i64 ((i % 4+(j+1):Nat):Int)from congrArg (Value.int .i64) (by omega))))<|hy (fun _=>ab rfl)<|ai<|al (ρ' :=[(9,_),(8,_),(38,_),(27,_),(7,_),(6,_),(16,_),(3,_),(5,_),(4,_),(2,_),(0,_)]) ⟨rfl,rfl,rfl,rfl,rfl,rfl,rfl,rfl,rfl,rfl,rfl,rfl,trivial⟩<| ?_
    refine cM (j+1) ⟨rfl,rfl,rfl,rfl,rfl,rfl,rfl,rfl,rfl,rfl,rfl,trivial⟩ [0,0,0] rfl [0,1,2] rfl (by omega) (by omega)
   ·have hj:j=3-i % 4:=by omega
    subst hj
    have hbyte:(ek F)[i]? =some (UInt8.ofNat (qw (F.getD (i/4) 0) (3-i % 4) % 256).toNat):=by
     rw[←D5 _ (by omega),←qJ F (i/4) (i % 4) (by omega) (by omega)]
     congr 1;omega
    have hri:List.replicate (32-i) (0:UInt8)=0::List.replicate (32-(i+1)) 0:=by rw[show 32-i=(32-(i+1))+1 by omega];rfl
    have hti:(ek F).take (i+1)=(ek F).take i++[UInt8.ofNat (qw (F.getD (i/4) 0) (3-i % 4) % 256).toNat]:=by
     rw[List.take_add_one,hbyte];rfl
    refine bL<|ao<|ao<|aC<|ag<|aj<|hy (fun _=>aa rfl)<|hy (fun _=>aa rfl)<|hy (fun _=>zM (b:=256) (by decide) rfl rfl)<|hy (fun _=>zP rfl Tryz.underlying166 Tryz.underlying5)<|hy (fun _=>bX rfl rfl Tryz.underlying53 dW rfl (by omega))<| ?_
    refine cH (cA 0 rfl rfl rfl dW rfl (by rw[ay,List.length_append,List.length_take,List.length_replicate];omega) ?_)
    refine ai<|al (ρ' :=[(38,_),(8,_),(9,_),(27,_),(7,_),(6,_),(16,_),(3,_),(5,_),(4,_),(2,_),(0,_)]) ⟨rfl,rfl,rfl,rfl,rfl,rfl,rfl,rfl,rfl,rfl,rfl,rfl,trivial⟩<|ak (X' :=[_,_,_]) (S' :=[_,_,_]) (fun _ m=>m)<|aS<|ag<|aj<|hy (fun _=>aa rfl)<|hy (fun _=>aN rfl rfl (bE (by omega) (by omega)))<|hy (fun _=>ab rfl)<|ai<|al (ρ' :=[(7,_),(38,_),(8,_),(9,_),(27,_),(6,_),(16,_),(3,_),(5,_),(4,_),(2,_),(0,_)]) ⟨rfl,rfl,rfl,rfl,rfl,rfl,rfl,rfl,rfl,rfl,rfl,rfl,trivial⟩<| ?_
    refine ak (fun w m=>m.bU 0 rfl (show _=aJ g6 53 (aQ ((ek F).take (i+1)++List.replicate (32-(i+1)) 0))from by rw[hri,Nat.zero_add,hti];exact congrArg (aJ _ _) (yS (by rw[List.length_take];omega)))) ?_
    refine cM (i+1) ⟨rfl,rfl,rfl,rfl,rfl,rfl,rfl,rfl,trivial⟩ [0,0,0] rfl [0,1,2] rfl (by omega) (by omega)
  ·obtain rfl:i=32:=by omega
   refine bw (fun w m=>m.bU 0 rfl (show _=aJ g6 53 (aQ (ba l))from by rw[List.take_of_length_le (by omega),←hsha];simp)) ?_
   refine bL<|ao<|ao<|aC<|ag<|ah<|aj<|hy (fun m=>yV (a7 rfl cy bp (by rw[ay,bj]) ((m.aX 0 rfl).az)) ((rfl:_=Value.agg (aQ (ba l)).toArray)))<| ?_
   refine cH (aI 2 rfl rfl rfl bp (by rw[ay,bj]) aR rfl ?_)
   refine ai<|al (ρ' :=[(27,_),(7,_),(6,_),(16,_),(3,_),(5,_),(4,_),(2,_),(0,_)]) ⟨rfl,rfl,rfl,rfl,rfl,rfl,rfl,rfl,rfl,trivial⟩<|ak (X' :=[_,_,_]) (S' :=[_,_,_]) (fun _ m=>m)<|ag<|aV<| ?_
   exact fg trivial rfl rfl cy bp (by rw[ay,bj]) (fun m=>(m.aX 0 rfl).az) [] rfl [] rfl ⟨rfl,rfl,rfl⟩
end Go.Proofs.YtmibdabdlgmafaaGreatDoor
end
section
set_option maxRecDepth 20000
set_option maxHeartbeats 4000000
namespace Go.Proofs.YtmibdabdlgmafaaGreatDoor
open Go.Eng Go.Hx
theorem vD{nm:List UInt8}(hm:nm.length=32):cf Tryz.prog 98 [.agg (aQ nm).toArray] [] [] (fun v_ X_ S_=>v_=(.string (strOf (bJ nm)))∧X_=[]∧S_=[]):=by
 have hhl:(bV nm).length=64:=by rw[dB,hm]
 refine aO (N:=6) Tryz.func98 rfl rfl (by simp) fun b=> ?_
 refine ah<|aj<| ?_
 refine hx (cE rfl (fun g1=> ?_))
 refine aU (fun w m=>m.bU 0 rfl (show _=aJ g1 53 (aQ nm)from congrArg (aJ _ _) (bB _))) ?_
 refine hy (fun _=>ab rfl)<|ai<|ak (X' :=[_]) (S' :=[]) (fun _ m=>m)<|ag<|ah<|aj<|hy (fun m=>a7 rfl cy bp (by rw[ay];exact hm) ((m.aX 0 rfl).az))<| ?_
 refine hx (aq rfl Tryz.call111 (vM hm) [] rfl [] rfl ?_)
 rintro _ _ _ ⟨rfl,rfl,rfl⟩
 refine hy (fun _=>yV (iP rfl rfl (ix (a:=[116,47]) (b:=bV nm) (by simp[hhl]))) ((show Value.string (strOf [116,47]++strOf (bV nm))= .string (strOf (bJ nm))from congrArg Value.string (cZ _ _))))<|hy (fun _=>ab rfl)<|ai<|al (ρ' :=[(2,_),(1,_),(0,_)]) ⟨rfl,rfl,rfl,trivial⟩<|ak (X' :=[_]) (S' :=[]) (fun _ m=>m)<|ag<|aV<| ?_
 exact bh trivial rfl rfl [] rfl [] rfl ⟨rfl,rfl,rfl⟩
theorem Fa{x:RX}{kk:Nat}{nm:List UInt8}(ok:z8 x.d kk)(hkk:kk≤100000)(hm:nm.length=32)(hrd:(x.d.ct (aF nm)).length≤10000000):cf Tryz.prog 74 [.agg x.cs.toArray,.agg (aQ nm).toArray] [] [dH x,eM] (fun v_ X_ S_=>v_=(.tuple #[.string (strOf (x.d.o6 nm)),.int .i64 (x.d.eI nm)])∧X_=[]∧S_=[]):=by
 have h32:(aQ nm).length=32:=by rw[ay,hm]
 refine aO (N:=34) Tryz.func74 rfl rfl (by simp) fun b=> ?_
 refine ah<|aj<| ?_
 refine hx (cE rfl (fun g2=> ?_))
 refine aU (fun w m=>m.bU 0 rfl (show _=aJ g2 39 x.cs from congrArg (aJ _ _) (bB _))) ?_
 refine hx (cE rfl (fun g3=> ?_))
 refine aU (fun w m=>m.bU 0 rfl (show _=aJ g3 53 (aQ nm)from congrArg (aJ _ _) (bB _))) ?_
 refine hy (fun _=>ab rfl)<|hy (fun _=>ab rfl)<|ai<|ak (X' :=[_,_]) (S' :=[_,_]) (fun _ m=>m)<|ag<|ah<|cT [2,3] [(0,some 1),(1,some 0),(2,none),(3,none),(4,some 2),(5,some 2),(6,some 2),(7,some 2),(8,some 2)] (by kernel_rfl) (by kernel_rfl) rfl 99<|cm (fun m=>yV (a7 rfl cD bz rfl ((m.aX 1 rfl).az)) ((rfl:_=Value.agg x.cs.toArray)))<|cm (fun m=>a7 rfl cy bp h32 ((m.aX 0 rfl).az))<| ?_
 refine eb (aq rfl Tryz.call29 (rT hm) [] rfl [] rfl ?_)
 rintro _ _ _ ⟨rfl,rfl,rfl⟩
 refine⟨(fun _=>wk [0,0] [0,1] rfl rfl), ?_⟩
 refine eb (aq rfl Tryz.call91 (ye ok hkk (p:=(aF nm))) [] rfl [0] rfl ?_)
 rintro _ _ _ ⟨rfl,rfl,rfl⟩
 refine⟨(fun _=>wk [0,0] [0,1] rfl rfl), ?_⟩
 refine an (aa rfl)<|an (au rfl rfl)<|an (au rfl rfl)<|an (ab rfl)<|an (ab rfl)<|bF<|al (ρ' :=[(7,_),(6,_),(5,_),(4,_),(3,_),(2,_),(0,_),(1,_)]) ⟨rfl,rfl,rfl,rfl,rfl,rfl,rfl,rfl,trivial⟩<|ak (X' :=[_,_]) (S' :=[_,_]) (fun _ m=>m)<|ag<|ah<|ah<|aj<|hy (fun _=>aa rfl)<|hy (fun _=>dL rfl rfl)<|ai<|al (ρ' :=[(18,_),(7,_),(6,_),(5,_),(4,_),(3,_),(2,_),(0,_),(1,_)]) ⟨rfl,rfl,rfl,rfl,rfl,rfl,rfl,rfl,rfl,trivial⟩<|ag<| ?_
 refine cC rfl (fun h=> ?_) (fun h=> ?_)
 ·rw[iX h,kv (by rw[iX h];exact h)]
  refine ah<|aj<|hy (fun _=>aa rfl)<|hy (fun _=>ab rfl)<|hy (fun _=>ab rfl)<|ai<|al (ρ' :=[(5,_),(4,_),(18,_),(7,_),(6,_),(3,_),(2,_),(0,_),(1,_)]) ⟨rfl,rfl,rfl,rfl,rfl,rfl,rfl,rfl,rfl,trivial⟩<|ag<|aV<|ax<| ?_
  exact dh trivial rfl rfl rfl [] rfl [] rfl ⟨rfl,rfl,rfl⟩
 ·have h1:=Decidable.not_not.1 h
  have hbs:(bytesOf (strOf (x.d.ct (aF nm)))).length=(x.d.ct (aF nm)).length:=rfl
  have hol:=qx (f:=x.d.ct (aF nm)) (most:=4096) (by decide)
  refine aD<|ag<|ah<|aj<|hy (fun _=>aa rfl)<| ?_
  refine hx (Dh rfl Tryz.underlying9 Tryz.underlying27 Tryz.underlying5 (show(x.d.ct (aF nm)).length≤maxLen by unfold maxLen;omega) (fun v22=> ?_))
  refine aB (fun m=>(m.own 0 rfl).slice) ?_
  rintro⟨A_b22,c_b22,rfl,hc_b22⟩
  refine aB (fun m=>(m.ord 0 rfl).2.1) fun hA_b22=> ?_
  refine aU (fun w m=>m.bU 0 rfl (show _=aG 5 1 (.slice A_b22 (x.d.ct (aF nm)).length c_b22) (x.d.ct (aF nm)).length (aQ (x.d.ct (aF nm)))from rfl)) ?_
  refine aU (fun w m=>(m.perm (ar [0] _ [_] _ rfl)).freeze) ?_
  refine aU (fun w m=>m.kM 0 rfl .own) ?_
  refine hx (aq rfl Tryz.call156 (DI hc_b22 rfl hrd (show(4096:Int)≤1000000 by decide) (f:=(x.d.ct (aF nm)))) [] rfl [0] rfl ?_)
  rintro _ _ _ ⟨A1,c1,rfl,rfl,rfl,hp⟩
  refine aB (fun m=>gz (m.rd 0 rfl)) ?_
  rintro⟨hl_q,hA_q⟩
  refine hy (fun _=>aa rfl)<|hy (fun _=>au rfl rfl)<|hy (fun _=>au rfl rfl)<|hy (fun _=>ab rfl)<|hy (fun _=>ab rfl)<|ai<|al (ρ' :=[(9,_),(8,_),(18,_),(7,_),(6,_),(5,_),(4,_),(3,_),(2,_),(0,_),(1,_)]) ⟨rfl,rfl,rfl,rfl,rfl,rfl,rfl,rfl,rfl,rfl,rfl,trivial⟩<|ak (X' :=[_,_]) (S' :=[_,_,_,_,_]) (fun _ m=>m)<|ag<|ah<|ah<|aj<|hy (fun _=>aa rfl)<|hy (fun _=>dL rfl rfl)<|ai<|al (ρ' :=[(27,_),(9,_),(8,_),(18,_),(7,_),(6,_),(5,_),(4,_),(3,_),(2,_),(0,_),(1,_)]) ⟨rfl,rfl,rfl,rfl,rfl,rfl,rfl,rfl,rfl,rfl,rfl,rfl,trivial⟩<|ag<| ?_
  refine cC rfl (fun h2=> ?_) (fun h2=> ?_)
  ·have hE:=lP (d:=x.d) (nm:=nm) h1 (.inl h2)
   rw[hE,kv (by rw[hE];decide)]
   refine ah<|aj<|hy (fun _=>ab rfl)<|hy (fun _=>ab rfl)<|ai<|ag<|aV<|ax<| ?_
   exact dh trivial rfl rfl rfl [] rfl [] rfl ⟨rfl,rfl,rfl⟩
  ·have h2:=Decidable.not_not.1 h2
   refine aD<|ag<|ah<|ah<|cT [1] [(0,some 0),(2,some 1),(1,none),(3,some 1)] (by kernel_rfl) (by kernel_rfl) rfl 99<|an (aa rfl)<|cm (fun m=>a7 rfl cy bp h32 ((m.aX 0 rfl).az))<| ?_
   refine eb (aq rfl Tryz.call56 (pc (by omega)) [] rfl [0] rfl ?_)
   rintro _ _ _ ⟨rfl,rfl,rfl⟩
   refine⟨(fun _=>wk [0,0] [0,1,2,3,4] rfl rfl), ?_⟩
   refine an (rG rfl rfl (bj _) hm)<|bF<|al (ρ' :=[(31,_),(27,_),(9,_),(8,_),(18,_),(7,_),(6,_),(5,_),(4,_),(3,_),(2,_),(0,_),(1,_)]) ⟨rfl,rfl,rfl,rfl,rfl,rfl,rfl,rfl,rfl,rfl,rfl,rfl,rfl,trivial⟩<|ak (X' :=[_,_]) (S' :=[_,_,_,_,_]) (fun _ m=>m)<|ag<| ?_
   refine cC rfl (fun h3=> ?_) (fun h3=> ?_)
   ·have hE:=lP (d:=x.d) (nm:=nm) h1 (.inr h3)
    rw[hE,kv (by rw[hE];decide)]
    refine ah<|aj<|hy (fun _=>ab rfl)<|hy (fun _=>ab rfl)<|ai<|ag<|aV<|ax<| ?_
    exact dh trivial rfl rfl rfl [] rfl [] rfl ⟨rfl,rfl,rfl⟩
   ·have hE:=rJ (d:=x.d) (nm:=nm) h1 (fun q=>q.elim (fun q=>q h2) h3)
    rw[hE,rl hE]
    refine aD<|ag<|ah<|aj<|hy (fun _=>aa rfl)<|hy (fun m=>jW rfl Tryz.underlying27 Tryz.underlying5 Tryz.underlying9 (m.rd 0 rfl))<|hy (fun _=>ab rfl)<|hy (fun _=>ab rfl)<|ai<|al (ρ' :=[(5,_),(4,_),(31,_),(27,_),(9,_),(8,_),(18,_),(7,_),(6,_),(3,_),(2,_),(0,_),(1,_)]) ⟨rfl,rfl,rfl,rfl,rfl,rfl,rfl,rfl,rfl,rfl,rfl,rfl,rfl,trivial⟩<|ag<|aV<| ?_
    exact dh trivial rfl rfl rfl [] rfl [] rfl ⟨rfl,rfl,rfl⟩
theorem CH{d:RD}{bb:List UInt8}(h:d.bD (bJ (ba bb)) (bx bb)≠0):d.gQ bb=(d.write (bJ (ba bb)) (bx bb),d.bD (bJ (ba bb)) (bx bb)):=by
 unfold RD.gQ
 rw[b6]
 exact if_pos h
theorem DE{d:RD}{bb:List UInt8}(h:d.bD (bJ (ba bb)) (bx bb)=0)(h2:(d.write (bJ (ba bb)) (bx bb)).cR≠0):d.gQ bb=((d.write (bJ (ba bb)) (bx bb)).sync,(d.write (bJ (ba bb)) (bx bb)).cR):=by
 unfold RD.gQ
 rw[b6,if_neg (by show¬d.bD _ _≠0;rw[h];decide),b6]
 exact if_pos h2
theorem Da{d:RD}{bb:List UInt8}(h:d.bD (bJ (ba bb)) (bx bb)=0)(h2:(d.write (bJ (ba bb)) (bx bb)).cR=0)(h3:(d.write (bJ (ba bb)) (bx bb)).sync.bQ (bJ (ba bb)) (aF (ba bb))≠0):d.gQ bb=((d.write (bJ (ba bb)) (bx bb)).sync.rename (bJ (ba bb)) (aF (ba bb)),(d.write (bJ (ba bb)) (bx bb)).sync.bQ (bJ (ba bb)) (aF (ba bb))):=by
 unfold RD.gQ
 rw[b6,if_neg (by show¬d.bD _ _≠0;rw[h];decide),b6,if_neg (by show¬(d.write _ _).cR≠0;rw[h2];decide),b6]
 exact if_pos h3
theorem D9{d:RD}{bb:List UInt8}(h:d.bD (bJ (ba bb)) (bx bb)=0)(h2:(d.write (bJ (ba bb)) (bx bb)).cR=0)(h3:(d.write (bJ (ba bb)) (bx bb)).sync.bQ (bJ (ba bb)) (aF (ba bb))=0):d.gQ bb=(((d.write (bJ (ba bb)) (bx bb)).sync.rename (bJ (ba bb)) (aF (ba bb))).sync,((d.write (bJ (ba bb)) (bx bb)).sync.rename (bJ (ba bb)) (aF (ba bb))).cR):=by
 unfold RD.gQ
 rw[b6,if_neg (by show¬d.bD _ _≠0;rw[h];decide),b6,if_neg (by show¬(d.write _ _).cR≠0;rw[h2];decide),b6,if_neg (by show¬((d.write _ _).sync).bQ _ _≠0;rw[h3];decide),b6]
 by_cases h4:(cq (rp (bJ (ba bb)) (aF (ba bb)) (cq (re (bJ (ba bb)) (bx bb) d).1).1).1).2=0
 ·rw[if_neg (fun q=>q h4)]
  exact Prod.ext rfl h4.symm
 ·rw[if_pos h4];rfl
theorem lQ{d:RD}{bb:List UInt8}(hn:¬4096<bb.length)(h6:d.eI (ba bb)≠6)(h0:d.eI (ba bb)≠0){d' :RD}{e:Int}(h:d.gQ bb=(d',e)):d.put bb=(d',if e=0 then ba bb else dN,e):=by
 unfold RD.put;rw[if_neg hn,if_neg h6,if_neg h0,h]
theorem kd{x:RX}{kk:Nat}{A:Option Addr}{n c:Nat}{bb:List UInt8}(hD:x.d.ok kk)(hkk:kk≤90000)(hc:n≤c)(hl:bb.length=n)(hn:n≤100000):cf Tryz.prog 26 [.agg x.cs.toArray,.slice A n c] [] [dH x,c6 1 A n (aQ bb),eM] (fun v_ X_ S_=>∃y,v_=(.tuple #[.agg y.cs.toArray,.agg (aQ (x.d.put bb).2.1).toArray,.int .i64 (x.d.put bb).2.2])∧X_=[]∧S_=[dH y]∧(y.d=(x.d.put bb).1)):=by
 have hm:=bj bb
 have h32:(aQ (ba bb)).length=32:=by rw[ay,hm]
 have z32:(aQ dN).length=32:=by rw[ay,eQ]
 obtain⟨s0,s1⟩:=kj bb
 have hrd:(x.d.ct (aF (ba bb))).length≤10000000:=by
  obtain⟨st,hst⟩:=hD
  have:=hst.zI (aF (ba bb))
  omega
 have ok1:=hD.write (p:=bJ (ba bb)) (l:=bx bb) (by omega)
 have okr:=hD.ug
 have okr1:=ok1.ug
 have okr2:=ok1.sync.ug
 have okr3:=ok1.sync.rename (a:=bJ (ba bb)) (c:=aF (ba bb))|>.ug
 refine aO (N:=74) Tryz.func26 rfl rfl (by simp) fun b=> ?_
 refine a6 (fun m=>gz (m.rd 1 rfl)) ?_
 rintro⟨hl_rb,hA_rb⟩
 refine ah<|aj<| ?_
 refine hx (cE rfl (fun g2=> ?_))
 refine aU (fun w m=>m.bU 0 rfl (show _=aJ g2 39 x.cs from congrArg (aJ _ _) (bB _))) ?_
 refine hx (aP iJ (fun g4=> ?_))
 refine hx (aP dQ (fun g5=> ?_))
 refine hy (fun _=>ab rfl)<|ai<|ak (X' :=[_,_,_]) (S' :=[_,_,_]) (fun _ m=>m)<|ag<|ah<|ah<|aj<|hy (fun _=>aa rfl)<|hy (fun _=>aW rfl Tryz.underlying27)<|hy (fun _=>cQ rfl rfl)<|ai<|al (ρ' :=[(12,_),(6,_),(5,_),(4,_),(2,_),(0,_),(1,_)]) ⟨rfl,rfl,rfl,rfl,rfl,rfl,rfl,trivial⟩<|ag<| ?_
 refine cC rfl (fun hbig=> ?_) (fun hbig=> ?_)
 ·have e0:x.d.put bb=(x.d,dN,3):=uS (by omega)
  rw[e0]
  refine ah<|aj<|hy (fun m=>yV (a7 rfl cD bz rfl ((m.aX 2 rfl).az)) ((rfl:_=Value.agg x.cs.toArray)))<|hy (fun _=>yV (ep dQ rfl (by kernel_rfl)) ((rfl:_=Value.agg (aQ dN).toArray)))<| ?_
  refine cH (aI 1 rfl rfl rfl bz rfl bO rfl ?_)
  refine cH (aI 1 rfl rfl rfl bp z32 aR rfl ?_)
  refine hy (fun _=>ab rfl)<|ai<|al (ρ' :=[(6,_),(12,_),(5,_),(4,_),(2,_),(0,_),(1,_)]) ⟨rfl,rfl,rfl,rfl,rfl,rfl,rfl,trivial⟩<|ak (X' :=[_,_,_]) (S' :=[_,_,_]) (fun _ m=>m)<|ag<|aV<|ax<| ?_
  exact eV trivial rfl rfl rfl rfl cD bz rfl (fun m=>(m.aX 1 rfl).az) cy bp z32 (fun m=>(m.aX 0 rfl).az) [] rfl [0] rfl ⟨x,rfl,rfl,rfl,rfl⟩
 ·have hbg:¬4096<bb.length:=by omega
  refine aD<|ag<|ah<|aj<|hy (fun _=>aa rfl)<| ?_
  refine hx (aq rfl Tryz.call56 (pc (by omega)) [] rfl [1] rfl ?_)
  rintro _ _ _ ⟨rfl,rfl,rfl⟩
  refine hx (aP dQ (fun g7=> ?_))
  refine cH (aI 0 rfl rfl rfl bp h32 aR rfl ?_)
  refine ai<|al (ρ' :=[(7,_),(12,_),(6,_),(5,_),(4,_),(2,_),(0,_),(1,_)]) ⟨rfl,rfl,rfl,rfl,rfl,rfl,rfl,rfl,trivial⟩<|ak (X' :=[_,_,_,_]) (S' :=[_,_,_]) (fun _ m=>m)<|ag<|ah<|aj<|hy (fun m=>yV (a7 rfl cD bz rfl ((m.aX 3 rfl).az)) ((rfl:_=Value.agg x.cs.toArray)))<|hy (fun m=>a7 rfl cy bp h32 ((m.aX 0 rfl).az))<| ?_
  refine hx (aq rfl Tryz.call74 (Fa okr (by omega) hm hrd) [] rfl [0,2] rfl ?_)
  rintro _ _ _ ⟨rfl,rfl,rfl⟩
  refine hy (fun _=>aa rfl)<|hy (fun _=>au rfl rfl)<|hy (fun _=>au rfl rfl)<|hy (fun _=>ab rfl)<|hy (fun _=>ab rfl)<|ai<|al (ρ' :=[(9,_),(7,_),(12,_),(6,_),(5,_),(4,_),(2,_),(0,_),(1,_)]) ⟨rfl,rfl,rfl,rfl,rfl,rfl,rfl,rfl,rfl,trivial⟩<|ak (X' :=[_,_,_,_]) (S' :=[_,_,_]) (fun _ m=>m)<|ag<|ah<|ah<|aj<|hy (fun _=>aa rfl)<|hy (fun _=>cx rfl rfl)<|ai<|al (ρ' :=[(24,_),(9,_),(7,_),(12,_),(6,_),(5,_),(4,_),(2,_),(0,_),(1,_)]) ⟨rfl,rfl,rfl,rfl,rfl,rfl,rfl,rfl,rfl,rfl,trivial⟩<|ag<| ?_
  refine cC rfl (fun h0=> ?_) (fun h0=> ?_)
  ·have e0:x.d.put bb=(x.d,ba bb,0):=by unfold RD.put;rw[if_neg hbg,if_neg (by rw[h0];decide),if_pos h0]
   rw[e0]
   refine ah<|wb [0,1,2,3] (.alt 0 (.alt 1 (.alt 2 (.alt 3 (.take 4 4<|.done) (.stop)) (.stop)) (.alt 2 (.alt 1 (.alt 3 (.take 4 4<|.done) (.stop)) (.stop)) (.stop))) (.alt 1 (.alt 0 (.alt 2 (.alt 3 (.take 4 4<|.done) (.stop)) (.stop)) (.stop)) (.stop))) (by kernel_rfl) (by kernel_rfl) rfl 1<| ?_
   refine eh ?_ ?_
   ·refine fA<|mC (fun m=>yV (a7 rfl cD bz rfl ((m.aX 3 rfl).az)) ((rfl:_=Value.agg x.cs.toArray)))<|And.intro (fun _=>wk [0,0,0,0] [0,1,2] rfl rfl)<| ?_
    refine eh ?_ ?_
    ·refine fA<|mC (fun m=>a7 rfl cy bp h32 ((m.aX 0 rfl).az))<|And.intro (fun h=>absurd h (by decide))<| ?_
     refine dV (aI 2 rfl rfl rfl bz rfl bO rfl ⟨(fun h=>absurd h (by decide)), ?_⟩)
     refine dV (aI 2 rfl rfl rfl bp h32 aR rfl ⟨(fun h=>absurd h (by decide)), ?_⟩)
     refine bW (ab rfl)<|eH<|al (ρ' :=[(6,_),(24,_),(9,_),(7,_),(12,_),(5,_),(4,_),(2,_),(0,_),(1,_)]) ⟨rfl,rfl,rfl,rfl,rfl,rfl,rfl,rfl,rfl,rfl,trivial⟩<|ak (X' :=[_,_,_,_]) (S' :=[_,_,_]) (fun _ m=>m)<|ag<|aV<|ax<| ?_
     exact eV trivial rfl rfl rfl rfl cD bz rfl (fun m=>(m.aX 1 rfl).az) cy bp h32 (fun m=>(m.aX 0 rfl).az) [] rfl [0] rfl ⟨x,rfl,rfl,rfl,rfl⟩
    ·refine dV (aI 2 rfl rfl rfl bz rfl bO rfl ⟨(fun h=>absurd h (by decide)), ?_⟩)
     refine fA<|mC (fun m=>a7 rfl cy bp h32 ((m.aX 1 rfl).az))<|And.intro (fun h=>absurd h (by decide))<| ?_
     refine dV (aI 2 rfl rfl rfl bp h32 aR rfl ⟨(fun h=>absurd h (by decide)), ?_⟩)
     refine bW (ab rfl)<|eH<|al (ρ' :=[(6,_),(24,_),(9,_),(7,_),(12,_),(5,_),(4,_),(2,_),(0,_),(1,_)]) ⟨rfl,rfl,rfl,rfl,rfl,rfl,rfl,rfl,rfl,rfl,trivial⟩<|ak (X' :=[_,_,_,_]) (S' :=[_,_,_]) (fun _ m=>m)<|ag<|aV<|ax<| ?_
     exact eV trivial rfl rfl rfl rfl cD bz rfl (fun m=>(m.aX 1 rfl).az) cy bp h32 (fun m=>(m.aX 0 rfl).az) [] rfl [0] rfl ⟨x,rfl,rfl,rfl,rfl⟩
   ·refine fA<|mC (fun m=>a7 rfl cy bp h32 ((m.aX 0 rfl).az))<|And.intro (fun _=>wk [0,0,0,0] [0,1,2] rfl rfl)<|fA<|mC (fun m=>yV (a7 rfl cD bz rfl ((m.aX 3 rfl).az)) ((rfl:_=Value.agg x.cs.toArray)))<|And.intro (fun h=>absurd h (by decide))<| ?_
    refine dV (aI 2 rfl rfl rfl bz rfl bO rfl ⟨(fun h=>absurd h (by decide)), ?_⟩)
    refine dV (aI 2 rfl rfl rfl bp h32 aR rfl ⟨(fun h=>absurd h (by decide)), ?_⟩)
    refine bW (ab rfl)<|eH<|al (ρ' :=[(6,_),(24,_),(9,_),(7,_),(12,_),(5,_),(4,_),(2,_),(0,_),(1,_)]) ⟨rfl,rfl,rfl,rfl,rfl,rfl,rfl,rfl,rfl,rfl,trivial⟩<|ak (X' :=[_,_,_,_]) (S' :=[_,_,_]) (fun _ m=>m)<|ag<|aV<|ax<| ?_
    exact eV trivial rfl rfl rfl rfl cD bz rfl (fun m=>(m.aX 1 rfl).az) cy bp h32 (fun m=>(m.aX 0 rfl).az) [] rfl [0] rfl ⟨x,rfl,rfl,rfl,rfl⟩
  ·refine aD<|ag<|ah<|ah<|aj<|hy (fun _=>aa rfl)<|hy (fun _=>cx rfl rfl)<|ai<|al (ρ' :=[(28,_),(24,_),(9,_),(7,_),(12,_),(6,_),(5,_),(4,_),(2,_),(0,_),(1,_)]) ⟨rfl,rfl,rfl,rfl,rfl,rfl,rfl,rfl,rfl,rfl,rfl,trivial⟩<|ag<| ?_
   refine cC rfl (fun h6=> ?_) (fun h6=> ?_)
   ·have e0:x.d.put bb=(x.d,dN,6):=by unfold RD.put;rw[if_neg hbg,if_pos h6]
    rw[e0,h6]
    refine ah<|aj<|hy (fun m=>yV (a7 rfl cD bz rfl ((m.aX 3 rfl).az)) ((rfl:_=Value.agg x.cs.toArray)))<|hy (fun _=>yV (ep dQ rfl (by kernel_rfl)) ((rfl:_=Value.agg (aQ dN).toArray)))<|hy (fun _=>aa rfl)<| ?_
    refine cH (aI 2 rfl rfl rfl bz rfl bO rfl ?_)
    refine cH (aI 2 rfl rfl rfl bp z32 aR rfl ?_)
    refine hy (fun _=>ab rfl)<|ai<|al (ρ' :=[(6,_),(28,_),(24,_),(9,_),(7,_),(12,_),(5,_),(4,_),(2,_),(0,_),(1,_)]) ⟨rfl,rfl,rfl,rfl,rfl,rfl,rfl,rfl,rfl,rfl,rfl,trivial⟩<|ak (X' :=[_,_,_,_]) (S' :=[_,_,_]) (fun _ m=>m)<|ag<|aV<|ax<| ?_
    exact eV trivial rfl rfl rfl rfl cD bz rfl (fun m=>(m.aX 1 rfl).az) cy bp z32 (fun m=>(m.aX 0 rfl).az) [] rfl [0] rfl ⟨x,rfl,rfl,rfl,rfl⟩
   ·refine aD<|ag<|ah<|cT [2,4,5,6,10] [(0,some 3),(1,some 0),(3,some 1),(2,none),(4,none),(5,none),(6,none),(7,some 4),(8,some 4),(9,some 5),(10,none),(11,some 5)] (by kernel_rfl) (by kernel_rfl) rfl 4<|cm (fun m=>yV (a7 rfl cD bz rfl ((m.aX 3 rfl).az)) ((rfl:_=Value.agg x.cs.toArray)))<|cm (fun m=>a7 rfl cy bp h32 ((m.aX 0 rfl).az))<|an (aa rfl)<| ?_
    refine eb (aq rfl Tryz.call98 (vD hm) [] rfl [] rfl ?_)
    rintro _ _ _ ⟨rfl,rfl,rfl⟩
    refine⟨(fun _=>wk [0,0,0,0] [0,1,2] rfl rfl), ?_⟩
    refine eb (aq rfl Tryz.call81 (CR hc (by omega) hl) [] rfl [1] rfl ?_)
    rintro _ _ _ ⟨v,rfl,rfl,rfl⟩
    refine⟨(fun _=>wk [1,1,1,1] [0,1,2] rfl rfl), ?_⟩
    refine cd (fun m=>(m.own 0 rfl).slice) ?_
    rintro⟨A_x,c_x,rfl,hc_x⟩
    refine cd (fun m=>(m.ord 0 rfl).2.1) fun hA_x=> ?_
    refine Dn (fun _=>wk [1,1,1,1] [0,1,2] rfl rfl) (fun m=>jW rfl Tryz.underlying27 Tryz.underlying5 Tryz.underlying9 (m.ord 0 rfl))<| ?_
    refine eb (aq rfl Tryz.call31 (mg okr (by omega) (by rw[iC hm];decide) (by omega) (p:=(bJ (ba bb))) (bb:=(bx bb))) [] rfl [0] rfl ?_)
    rintro _ _ _ ⟨y,rfl,rfl,rfl,hd1⟩
    refine⟨(fun _=>wk [1,1,1,1] [1,2,3] rfl rfl), ?_⟩
    refine an (aa rfl)<|an (au rfl rfl)<|an (au rfl rfl)<| ?_
    refine jY (aI 4 rfl rfl rfl bz rfl bO rfl ⟨(fun h=>absurd h (by decide)), ?_⟩)
    refine an (ab rfl)<|bF<|al (ρ' :=[(9,_),(28,_),(24,_),(7,_),(12,_),(6,_),(5,_),(4,_),(2,_),(0,_),(1,_)]) ⟨rfl,rfl,rfl,rfl,rfl,rfl,rfl,rfl,rfl,rfl,rfl,trivial⟩<|ak (X' :=[_,_,_,_,_]) (S' :=[_,_,_,_]) (fun _ m=>m)<|ag<|ah<|ah<|aj<|hy (fun _=>aa rfl)<|hy (fun _=>cx rfl rfl)<|ai<|al (ρ' :=[(43,_),(9,_),(28,_),(24,_),(7,_),(12,_),(6,_),(5,_),(4,_),(2,_),(0,_),(1,_)]) ⟨rfl,rfl,rfl,rfl,rfl,rfl,rfl,rfl,rfl,rfl,rfl,rfl,trivial⟩<|ag<| ?_
    refine cC rfl (fun h1=> ?_) (fun h1=> ?_)
    ·refine aj<|hy (fun m=>yV (a7 rfl cD bz rfl ((m.aX 0 rfl).az)) ((rfl:_=Value.agg y.cs.toArray)))<| ?_
     refine hx (aq rfl Tryz.call99 (uj (by rw[hd1];exact okr1)) [] rfl [0] rfl ?_)
     rintro _ _ _ ⟨y2,rfl,rfl,rfl,hd2⟩
     refine hy (fun _=>aa rfl)<|hy (fun _=>au rfl rfl)<|hy (fun _=>au rfl rfl)<| ?_
     refine cH (aI 0 rfl rfl rfl bz rfl bO rfl ?_)
     refine hy (fun _=>ab rfl)<|ai<|al (ρ' :=[(9,_),(43,_),(28,_),(24,_),(7,_),(12,_),(6,_),(5,_),(4,_),(2,_),(0,_),(1,_)]) ⟨rfl,rfl,rfl,rfl,rfl,rfl,rfl,rfl,rfl,rfl,rfl,rfl,trivial⟩<|ak (X' :=[_,_,_,_,_]) (S' :=[_,_,_,_,_]) (fun _ m=>m)<|ag<|ah<|ah<|aj<|hy (fun _=>aa rfl)<|hy (fun _=>cx rfl rfl)<|ai<|al (ρ' :=[(50,_),(9,_),(43,_),(28,_),(24,_),(7,_),(12,_),(6,_),(5,_),(4,_),(2,_),(0,_),(1,_)]) ⟨rfl,rfl,rfl,rfl,rfl,rfl,rfl,rfl,rfl,rfl,rfl,rfl,rfl,trivial⟩<|ag<| ?_
     refine cC rfl (fun h2=> ?_) (fun h2=> ?_)
     ·refine cT [2,4,5,9] [(0,some 2),(1,some 0),(3,some 1),(2,none),(4,none),(5,none),(6,some 3),(7,some 3),(8,some 4),(9,none),(10,some 4)] (by kernel_rfl) (by kernel_rfl) rfl 3<|cm (fun m=>yV (a7 rfl cD bz rfl ((m.aX 0 rfl).az)) ((rfl:_=Value.agg y2.cs.toArray)))<|cm (fun m=>a7 rfl cy bp h32 ((m.aX 2 rfl).az))<|cm (fun m=>a7 rfl cy bp h32 ((m.aX 2 rfl).az))<| ?_
      refine eb (aq rfl Tryz.call98 (vD hm) [] rfl [] rfl ?_)
      rintro _ _ _ ⟨rfl,rfl,rfl⟩
      refine⟨(fun _=>wk [0,0,0,0,0] [0,1,2,3,4] rfl rfl), ?_⟩
      refine eb (aq rfl Tryz.call29 (rT hm) [] rfl [] rfl ?_)
      rintro _ _ _ ⟨rfl,rfl,rfl⟩
      refine⟨(fun _=>wk [0,0,0,0,0] [0,1,2,3,4] rfl rfl), ?_⟩
      refine eb (aq rfl Tryz.call100 (yI (by rw[hd2,hd1];exact okr2) (show kk+1≤100000 by omega) (by rw[dP hm];decide) (a:=(bJ (ba bb))) (c:=(aF (ba bb)))) [] rfl [0] rfl ?_)
      rintro _ _ _ ⟨y3,rfl,rfl,rfl,hd3⟩
      refine⟨(fun _=>wk [0,0,0,0,0] [1,2,3,4,5] rfl rfl), ?_⟩
      refine an (aa rfl)<|an (au rfl rfl)<|an (au rfl rfl)<| ?_
      refine jY (aI 0 rfl rfl rfl bz rfl bO rfl ⟨(fun h=>absurd h (by decide)), ?_⟩)
      refine an (ab rfl)<|bF<|al (ρ' :=[(9,_),(50,_),(43,_),(28,_),(24,_),(7,_),(12,_),(6,_),(5,_),(4,_),(2,_),(0,_),(1,_)]) ⟨rfl,rfl,rfl,rfl,rfl,rfl,rfl,rfl,rfl,rfl,rfl,rfl,rfl,trivial⟩<|ak (X' :=[_,_,_,_,_]) (S' :=[_,_,_,_,_,_]) (fun _ m=>m)<|ag<|ah<|ah<|aj<|hy (fun _=>aa rfl)<|hy (fun _=>cx rfl rfl)<|ai<|al (ρ' :=[(61,_),(9,_),(50,_),(43,_),(28,_),(24,_),(7,_),(12,_),(6,_),(5,_),(4,_),(2,_),(0,_),(1,_)]) ⟨rfl,rfl,rfl,rfl,rfl,rfl,rfl,rfl,rfl,rfl,rfl,rfl,rfl,rfl,trivial⟩<|ag<| ?_
      refine cC rfl (fun h3=> ?_) (fun h3=> ?_)
      ·have hP:=D9 (d:=x.d) (bb:=bb) h1 (by rw[←hd1];exact h2) (by rw[←hd1,←hd2];exact h3)
       rw[←hd1,←hd2,←hd3]at hP
       have e0:=lQ hbg h6 h0 hP
       refine aj<|hy (fun m=>yV (a7 rfl cD bz rfl ((m.aX 0 rfl).az)) ((rfl:_=Value.agg y3.cs.toArray)))<| ?_
       refine hx (aq rfl Tryz.call99 (uj (by rw[hd3,hd2,hd1];exact okr3)) [] rfl [0] rfl ?_)
       rintro _ _ _ ⟨y4,rfl,rfl,rfl,hd4⟩
       refine hy (fun _=>aa rfl)<|hy (fun _=>au rfl rfl)<|hy (fun _=>au rfl rfl)<| ?_
       refine cH (aI 0 rfl rfl rfl bz rfl bO rfl ?_)
       refine hy (fun _=>ab rfl)<|ai<|al (ρ' :=[(9,_),(61,_),(50,_),(43,_),(28,_),(24,_),(7,_),(12,_),(6,_),(5,_),(4,_),(2,_),(0,_),(1,_)]) ⟨rfl,rfl,rfl,rfl,rfl,rfl,rfl,rfl,rfl,rfl,rfl,rfl,rfl,rfl,trivial⟩<|ak (X' :=[_,_,_,_,_]) (S' :=[_,_,_,_,_,_,_]) (fun _ m=>m)<|ag<|ah<|ah<|aj<|hy (fun _=>aa rfl)<|hy (fun _=>dL rfl rfl)<|ai<|al (ρ' :=[(68,_),(9,_),(61,_),(50,_),(43,_),(28,_),(24,_),(7,_),(12,_),(6,_),(5,_),(4,_),(2,_),(0,_),(1,_)]) ⟨rfl,rfl,rfl,rfl,rfl,rfl,rfl,rfl,rfl,rfl,rfl,rfl,rfl,rfl,rfl,trivial⟩<|ag<| ?_
       rw[←hd4]at e0
       refine cC rfl (fun h4=> ?_) (fun h4=> ?_)
       ·rw[if_neg h4]at e0
        rw[e0]
        refine ah<|aj<|hy (fun m=>yV (a7 rfl cD bz rfl ((m.aX 0 rfl).az)) ((rfl:_=Value.agg y4.cs.toArray)))<|hy (fun _=>yV (ep dQ rfl (by kernel_rfl)) ((rfl:_=Value.agg (aQ dN).toArray)))<|hy (fun _=>aa rfl)<| ?_
        refine cH (aI 4 rfl rfl rfl bz rfl bO rfl ?_)
        refine cH (aI 4 rfl rfl rfl bp z32 aR rfl ?_)
        refine hy (fun _=>ab rfl)<|ai<|al (ρ' :=[(6,_),(68,_),(9,_),(61,_),(50,_),(43,_),(28,_),(24,_),(7,_),(12,_),(5,_),(4,_),(2,_),(0,_),(1,_)]) ⟨rfl,rfl,rfl,rfl,rfl,rfl,rfl,rfl,rfl,rfl,rfl,rfl,rfl,rfl,rfl,trivial⟩<|ak (X' :=[_,_,_,_,_]) (S' :=[_,_,_,_,_,_,_]) (fun _ m=>m)<|ag<|aV<|ax<| ?_
        exact eV trivial rfl rfl rfl rfl cD bz rfl (fun m=>(m.aX 1 rfl).az) cy bp z32 (fun m=>(m.aX 0 rfl).az) [] rfl [0] rfl ⟨y4,rfl,rfl,rfl,rfl⟩
       ·have h4:=Decidable.not_not.1 h4
        rw[if_pos h4,h4]at e0
        rw[e0]
        refine aD<|ag<|ah<|wb [0,1,2,3] (.alt 0 (.alt 1 (.alt 2 (.alt 3 (.take 4 4<|.done) (.stop)) (.stop)) (.alt 2 (.alt 1 (.alt 3 (.take 4 4<|.done) (.stop)) (.stop)) (.stop))) (.alt 1 (.alt 0 (.alt 2 (.alt 3 (.take 4 4<|.done) (.stop)) (.stop)) (.stop)) (.stop))) (by kernel_rfl) (by kernel_rfl) rfl 1<| ?_
        refine eh ?_ ?_
        ·refine fA<|mC (fun m=>yV (a7 rfl cD bz rfl ((m.aX 0 rfl).az)) ((rfl:_=Value.agg y4.cs.toArray)))<|And.intro (fun _=>wk [0,0,0,0,0] [0,1,2,3,4,5,6] rfl rfl)<| ?_
         refine eh ?_ ?_
         ·refine fA<|mC (fun m=>a7 rfl cy bp h32 ((m.aX 2 rfl).az))<|And.intro (fun h=>absurd h (by decide))<| ?_
          refine dV (aI 4 rfl rfl rfl bz rfl bO rfl ⟨(fun h=>absurd h (by decide)), ?_⟩)
          refine dV (aI 4 rfl rfl rfl bp h32 aR rfl ⟨(fun h=>absurd h (by decide)), ?_⟩)
          refine bW (ab rfl)<|eH<|al (ρ' :=[(6,_),(68,_),(9,_),(61,_),(50,_),(43,_),(28,_),(24,_),(7,_),(12,_),(5,_),(4,_),(2,_),(0,_),(1,_)]) ⟨rfl,rfl,rfl,rfl,rfl,rfl,rfl,rfl,rfl,rfl,rfl,rfl,rfl,rfl,rfl,trivial⟩<|ak (X' :=[_,_,_,_,_]) (S' :=[_,_,_,_,_,_,_]) (fun _ m=>m)<|ag<|aV<| ?_
          exact eV trivial rfl rfl rfl rfl cD bz rfl (fun m=>(m.aX 1 rfl).az) cy bp h32 (fun m=>(m.aX 0 rfl).az) [] rfl [0] rfl ⟨y4,rfl,rfl,rfl,rfl⟩
         ·refine dV (aI 4 rfl rfl rfl bz rfl bO rfl ⟨(fun h=>absurd h (by decide)), ?_⟩)
          refine fA<|mC (fun m=>a7 rfl cy bp h32 ((m.aX 3 rfl).az))<|And.intro (fun h=>absurd h (by decide))<| ?_
          refine dV (aI 4 rfl rfl rfl bp h32 aR rfl ⟨(fun h=>absurd h (by decide)), ?_⟩)
          refine bW (ab rfl)<|eH<|al (ρ' :=[(6,_),(68,_),(9,_),(61,_),(50,_),(43,_),(28,_),(24,_),(7,_),(12,_),(5,_),(4,_),(2,_),(0,_),(1,_)]) ⟨rfl,rfl,rfl,rfl,rfl,rfl,rfl,rfl,rfl,rfl,rfl,rfl,rfl,rfl,rfl,trivial⟩<|ak (X' :=[_,_,_,_,_]) (S' :=[_,_,_,_,_,_,_]) (fun _ m=>m)<|ag<|aV<| ?_
          exact eV trivial rfl rfl rfl rfl cD bz rfl (fun m=>(m.aX 1 rfl).az) cy bp h32 (fun m=>(m.aX 0 rfl).az) [] rfl [0] rfl ⟨y4,rfl,rfl,rfl,rfl⟩
        ·refine fA<|mC (fun m=>a7 rfl cy bp h32 ((m.aX 2 rfl).az))<|And.intro (fun _=>wk [0,0,0,0,0] [0,1,2,3,4,5,6] rfl rfl)<|fA<|mC (fun m=>yV (a7 rfl cD bz rfl ((m.aX 0 rfl).az)) ((rfl:_=Value.agg y4.cs.toArray)))<|And.intro (fun h=>absurd h (by decide))<| ?_
         refine dV (aI 4 rfl rfl rfl bz rfl bO rfl ⟨(fun h=>absurd h (by decide)), ?_⟩)
         refine dV (aI 4 rfl rfl rfl bp h32 aR rfl ⟨(fun h=>absurd h (by decide)), ?_⟩)
         refine bW (ab rfl)<|eH<|al (ρ' :=[(6,_),(68,_),(9,_),(61,_),(50,_),(43,_),(28,_),(24,_),(7,_),(12,_),(5,_),(4,_),(2,_),(0,_),(1,_)]) ⟨rfl,rfl,rfl,rfl,rfl,rfl,rfl,rfl,rfl,rfl,rfl,rfl,rfl,rfl,rfl,trivial⟩<|ak (X' :=[_,_,_,_,_]) (S' :=[_,_,_,_,_,_,_]) (fun _ m=>m)<|ag<|aV<| ?_
         exact eV trivial rfl rfl rfl rfl cD bz rfl (fun m=>(m.aX 1 rfl).az) cy bp h32 (fun m=>(m.aX 0 rfl).az) [] rfl [0] rfl ⟨y4,rfl,rfl,rfl,rfl⟩
      ·have hP:=Da (d:=x.d) (bb:=bb) h1 (by rw[←hd1];exact h2) (by rw[←hd1,←hd2];exact h3)
       rw[←hd1,←hd2,←hd3]at hP
       have e0:=lQ hbg h6 h0 hP
       rw[if_neg h3]at e0
       rw[e0]
       refine aD<|ag<|ah<|ah<|aj<|hy (fun _=>aa rfl)<|hy (fun _=>dL rfl rfl)<|ai<|al (ρ' :=[(68,_),(61,_),(9,_),(50,_),(43,_),(28,_),(24,_),(7,_),(12,_),(6,_),(5,_),(4,_),(2,_),(0,_),(1,_)]) ⟨rfl,rfl,rfl,rfl,rfl,rfl,rfl,rfl,rfl,rfl,rfl,rfl,rfl,rfl,rfl,trivial⟩<|ag<| ?_
       refine gY rfl ((decide_eq_true h3)) ?_
       refine ah<|aj<|hy (fun m=>yV (a7 rfl cD bz rfl ((m.aX 0 rfl).az)) ((rfl:_=Value.agg y3.cs.toArray)))<|hy (fun _=>yV (ep dQ rfl (by kernel_rfl)) ((rfl:_=Value.agg (aQ dN).toArray)))<|hy (fun _=>aa rfl)<| ?_
       refine cH (aI 4 rfl rfl rfl bz rfl bO rfl ?_)
       refine cH (aI 4 rfl rfl rfl bp z32 aR rfl ?_)
       refine hy (fun _=>ab rfl)<|ai<|al (ρ' :=[(6,_),(68,_),(61,_),(9,_),(50,_),(43,_),(28,_),(24,_),(7,_),(12,_),(5,_),(4,_),(2,_),(0,_),(1,_)]) ⟨rfl,rfl,rfl,rfl,rfl,rfl,rfl,rfl,rfl,rfl,rfl,rfl,rfl,rfl,rfl,trivial⟩<|ak (X' :=[_,_,_,_,_]) (S' :=[_,_,_,_,_,_]) (fun _ m=>m)<|ag<|aV<|ax<| ?_
       exact eV trivial rfl rfl rfl rfl cD bz rfl (fun m=>(m.aX 1 rfl).az) cy bp z32 (fun m=>(m.aX 0 rfl).az) [] rfl [0] rfl ⟨y3,rfl,rfl,rfl,rfl⟩
     ·have hP:=DE (d:=x.d) (bb:=bb) h1 (by rw[←hd1];exact h2)
      rw[←hd1,←hd2]at hP
      have e0:=lQ hbg h6 h0 hP
      rw[if_neg h2]at e0
      rw[e0]
      refine aD<|ag<|ah<|ah<|aj<|hy (fun _=>aa rfl)<|hy (fun _=>cx rfl rfl)<|ai<|al (ρ' :=[(61,_),(50,_),(9,_),(43,_),(28,_),(24,_),(7,_),(12,_),(6,_),(5,_),(4,_),(2,_),(0,_),(1,_)]) ⟨rfl,rfl,rfl,rfl,rfl,rfl,rfl,rfl,rfl,rfl,rfl,rfl,rfl,rfl,trivial⟩<|ag<| ?_
      refine dO rfl ((decide_eq_false h2)) ?_
      refine aD<|ag<|ah<|ah<|aj<|hy (fun _=>aa rfl)<|hy (fun _=>dL rfl rfl)<|ai<|al (ρ' :=[(68,_),(61,_),(50,_),(9,_),(43,_),(28,_),(24,_),(7,_),(12,_),(6,_),(5,_),(4,_),(2,_),(0,_),(1,_)]) ⟨rfl,rfl,rfl,rfl,rfl,rfl,rfl,rfl,rfl,rfl,rfl,rfl,rfl,rfl,rfl,trivial⟩<|ag<| ?_
      refine gY rfl ((decide_eq_true h2)) ?_
      refine ah<|aj<|hy (fun m=>yV (a7 rfl cD bz rfl ((m.aX 0 rfl).az)) ((rfl:_=Value.agg y2.cs.toArray)))<|hy (fun _=>yV (ep dQ rfl (by kernel_rfl)) ((rfl:_=Value.agg (aQ dN).toArray)))<|hy (fun _=>aa rfl)<| ?_
      refine cH (aI 4 rfl rfl rfl bz rfl bO rfl ?_)
      refine cH (aI 4 rfl rfl rfl bp z32 aR rfl ?_)
      refine hy (fun _=>ab rfl)<|ai<|al (ρ' :=[(6,_),(68,_),(61,_),(50,_),(9,_),(43,_),(28,_),(24,_),(7,_),(12,_),(5,_),(4,_),(2,_),(0,_),(1,_)]) ⟨rfl,rfl,rfl,rfl,rfl,rfl,rfl,rfl,rfl,rfl,rfl,rfl,rfl,rfl,rfl,trivial⟩<|ak (X' :=[_,_,_,_,_]) (S' :=[_,_,_,_,_]) (fun _ m=>m)<|ag<|aV<|ax<| ?_
      exact eV trivial rfl rfl rfl rfl cD bz rfl (fun m=>(m.aX 1 rfl).az) cy bp z32 (fun m=>(m.aX 0 rfl).az) [] rfl [0] rfl ⟨y2,rfl,rfl,rfl,rfl⟩
    ·have hP:=CH (d:=x.d) (bb:=bb) h1
     have e0:=lQ hbg h6 h0 hP
     rw[if_neg h1]at e0
     rw[e0,←hd1]
     refine aD<|ag<|ah<|ah<|aj<|hy (fun _=>aa rfl)<|hy (fun _=>cx rfl rfl)<|ai<|al (ρ' :=[(50,_),(43,_),(9,_),(28,_),(24,_),(7,_),(12,_),(6,_),(5,_),(4,_),(2,_),(0,_),(1,_)]) ⟨rfl,rfl,rfl,rfl,rfl,rfl,rfl,rfl,rfl,rfl,rfl,rfl,rfl,trivial⟩<|ag<| ?_
     refine dO rfl ((decide_eq_false h1)) ?_
     refine aD<|ag<|ah<|ah<|aj<|hy (fun _=>aa rfl)<|hy (fun _=>cx rfl rfl)<|ai<|al (ρ' :=[(61,_),(50,_),(43,_),(9,_),(28,_),(24,_),(7,_),(12,_),(6,_),(5,_),(4,_),(2,_),(0,_),(1,_)]) ⟨rfl,rfl,rfl,rfl,rfl,rfl,rfl,rfl,rfl,rfl,rfl,rfl,rfl,rfl,trivial⟩<|ag<| ?_
     refine dO rfl ((decide_eq_false h1)) ?_
     refine aD<|ag<|ah<|ah<|aj<|hy (fun _=>aa rfl)<|hy (fun _=>dL rfl rfl)<|ai<|al (ρ' :=[(68,_),(61,_),(50,_),(43,_),(9,_),(28,_),(24,_),(7,_),(12,_),(6,_),(5,_),(4,_),(2,_),(0,_),(1,_)]) ⟨rfl,rfl,rfl,rfl,rfl,rfl,rfl,rfl,rfl,rfl,rfl,rfl,rfl,rfl,rfl,trivial⟩<|ag<| ?_
     refine gY rfl ((decide_eq_true h1)) ?_
     refine ah<|aj<|hy (fun m=>yV (a7 rfl cD bz rfl ((m.aX 0 rfl).az)) ((rfl:_=Value.agg y.cs.toArray)))<|hy (fun _=>yV (ep dQ rfl (by kernel_rfl)) ((rfl:_=Value.agg (aQ dN).toArray)))<|hy (fun _=>aa rfl)<| ?_
     refine cH (aI 4 rfl rfl rfl bz rfl bO rfl ?_)
     refine cH (aI 4 rfl rfl rfl bp z32 aR rfl ?_)
     refine hy (fun _=>ab rfl)<|ai<|al (ρ' :=[(6,_),(68,_),(61,_),(50,_),(43,_),(9,_),(28,_),(24,_),(7,_),(12,_),(5,_),(4,_),(2,_),(0,_),(1,_)]) ⟨rfl,rfl,rfl,rfl,rfl,rfl,rfl,rfl,rfl,rfl,rfl,rfl,rfl,rfl,rfl,trivial⟩<|ak (X' :=[_,_,_,_,_]) (S' :=[_,_,_,_]) (fun _ m=>m)<|ag<|aV<|ax<| ?_
     exact eV trivial rfl rfl rfl rfl cD bz rfl (fun m=>(m.aX 1 rfl).az) cy bp z32 (fun m=>(m.aX 0 rfl).az) [] rfl [0] rfl ⟨y,rfl,rfl,rfl,rfl⟩
end Go.Proofs.YtmibdabdlgmafaaGreatDoor
end
section
set_option maxRecDepth 20000
set_option maxHeartbeats 4000000
namespace Go.Proofs.YtmibdabdlgmafaaGreatDoor
open Go.Eng Go.Hx
def rA(acc:List (List UInt8))(p:List UInt8):List (List UInt8):=match lW p with|some nm=>ey acc nm|none=>acc
def vE(d:RD)(i:Nat):List (List UInt8):=((d.seen.take i).map (·.1)).foldl rA []
end Go.Proofs.YtmibdabdlgmafaaGreatDoor
end
section
set_option maxRecDepth 20000
set_option maxHeartbeats 4000000
namespace Go.Proofs.YtmibdabdlgmafaaGreatDoor
open Go.Eng Go.Hx
abbrev It:=od×Int
structure IX where
 mn:Int
 av:Int
 mx:Int
 uN:od
 nR:List It
 A:Option Addr
 c:Nat
def xB(t:It):List Value:=aQ t.1.b++[.int .i64 t.2]
def z6(l:List It):List Value:=l.flatMap xB
theorem mF(t:It):(xB t).length=33:=by simp[xB,ay,t.1.h]
theorem vr(t:It):∀u∈xB t,u.oneCell' =true:=by
 intro u hu
 rcases List.mem_append.1 hu with h|h
 ·exact fZ u h
 ·rw[List.mem_singleton.1 h];rfl
theorem uq(a b:List It):z6 (a++b)=z6 a++z6 b:=by simp[z6]
theorem BW{l:List It}:∀u∈z6 l,u.oneCell' =true:=by
 intro u hu
 obtain⟨t,_,h⟩:=List.mem_flatMap.1 hu
 exact vr t u h
def IX.cs(x:IX):List Value:=[.int .i64 x.mn,.int .i64 x.av,.int .i64 x.mx]++aQ x.uN.b++[.slice x.A x.nR.length x.c]
theorem IX.eL(x:IX):x.cs.length=36:=by simp[IX.cs,ay,x.uN.h]
theorem IX.bO(x:IX):∀u∈x.cs,u.oneCell' =true:=by
 intro u hu
 rcases List.mem_append.1 hu with h|h
 ·rcases List.mem_append.1 h with h|h
  ·simp only[List.mem_cons,List.not_mem_nil,or_false]at h
   rcases h with rfl|rfl|rfl <;> rfl
  ·exact fZ u h
 ·rw[List.mem_singleton.1 h];rfl
theorem IX.Dw(x:IX):x.cs[35]? =some (.slice x.A x.nR.length x.c):=by
 have:([Value.int .i64 x.mn,.int .i64 x.av,.int .i64 x.mx]++aQ x.uN.b).length=35:=by simp[ay,x.uN.h]
 unfold IX.cs
 rw[List.getElem?_append_right (by omega),this]
 rfl
def FG(L:List IX):List Value:=L.flatMap IX.cs
def IX.sg(x:IX):bg:=c6 33 x.A x.nR.length (z6 x.nR)
def IX.names(x:IX):List (List UInt8):=x.nR.map (·.1.b)
def dx(L:List IX):List (List UInt8):=L.flatMap IX.names
theorem wo(x:IX):nV x.names:=fun d hd=>by
 obtain⟨t,_,rfl⟩:=List.mem_map.1 hd
 exact t.1.h
theorem lO(L:List IX):nV (dx L):=fun d hd=>by
 obtain⟨x,_,h⟩:=List.mem_flatMap.1 hd
 exact wo x d h
theorem pY{L:List IX}{i:Nat}{x:IX}(h:L[i]? =some x):dx (L.take (i+1))=dx (L.take i)++x.names:=by
 obtain⟨hi,rfl⟩:=List.getElem?_eq_some_iff.1 h
 rw[List.take_succ_eq_append_getElem hi,dx,List.flatMap_append,List.flatMap_cons,List.flatMap_nil,List.append_nil]
 rfl
theorem tL{x:IX}{j:Nat}{t:It}(h:x.nR[j]? =some t):x.names.take (j+1)=x.names.take j++[t.1.b]:=by
 obtain⟨hj,rfl⟩:=List.getElem?_eq_some_iff.1 h
 have hj2:j<x.names.length:=by rw[IX.names,List.length_map];exact hj
 rw[List.take_succ_eq_append_getElem hj2]
 simp[IX.names]
theorem m9(x:IX):x.names.length=x.nR.length:=List.length_map ..
theorem AZ{L:List IX}{i:Nat}{x:IX}(h:L[i]? =some x):(dx (L.take i)).length+x.nR.length≤(dx L).length:=by
 have h1:=pY h
 have h2:dx L=dx (L.take (i+1))++dx (L.drop (i+1)):=by
  unfold dx
  rw[←List.flatMap_append,List.take_append_drop]
 rw[h2,h1,List.length_append,List.length_append,m9]
 omega
theorem u5{w:World}{g:Nat}{ty:TypeId}{a b:List Value}(h:fe w g ty (a++b)):∀(j:Nat) (u:Value),a[j]? =some u→w.cell? (((⟨g,0,none⟩:Addr).add 0).add j)=some u:=fun j u hu=>by
 have:=h.az j u (by rw[List.getElem?_append_left (List.getElem?_eq_some_iff.1 hu).1];exact hu)
 rw[add_add,Nat.zero_add]
 exact this
theorem w9{K:Option Addr}{n c:Nat}{L:List IX}(hL:L.length=n)(hn:n≤100000)(hs:(dx L).length≤100000):cf Tryz.prog 146 [.slice K n c] [] [c6 36 K n (FG L),mX (L.map IX.sg)] (fun v_ X_ S_=>∃A1 k c1,v_=(.slice A1 k c1)∧X_=[aG 53 32 (.slice A1 k c1) k (dc ((dx L).foldl ey []))]∧S_=[]∧(k=((dx L).foldl ey []).length∧k≤c1)):=by
 refine aO (N:=32) Tryz.func146 rfl rfl (by simp) fun b=> ?_
 refine a6 (fun m=>ki (m.rd 0 rfl)) ?_
 rintro⟨hl_r,hA_r⟩
 refine ah<|aj<|hy (fun _=>ab rfl)<|ai<|ag<|ah<|aj<|hy (fun _=>ab rfl)<|ai<|ag<|ah<|ah<|aj<|hy (fun _=>aa rfl)<|hy (fun _=>aW rfl Tryz.underlying125)<|hy (fun _=>aa rfl)<|ai<|ag<|aK<| ?_
 refine bw (fun w m=>m.dy (r' :=aG 53 32 (.slice none 0 0) 0 []) (.refl _ _) (Own.nil _ _ _ _) (fun k hk=>hk.elim)) ?_
 refine lD (fun i k A1 c1=>n-i) (fun i k A1 c1=>[(3,.slice A1 k c1),(10,.int .i64 (i:Nat))]) (fun i k A1 c1=>[aG 53 32 (.slice A1 k c1) k (dc (dx (L.take i)))]) (fun i k A1 c1=>[]) (fun i k A1 c1=>i≤n∧k=(dx (L.take i)).length) 0 0 none 0 [(9,_),(8,_),(2,_),(0,_)] ⟨rfl,rfl,rfl,rfl,trivial⟩ [0] rfl [] rfl (⟨Nat.zero_le _,rfl⟩) ⟨rfl,rfl,trivial⟩ (fun i k A1 c1 ⟨hin,hk⟩=> ?_)
 refine ah<|aj<|hy (fun _=>bA rfl rfl)<|ai<|ag<|ah<| ?_
 refine cC rfl (fun hlt=> ?_) (fun hlt=> ?_)
 ·have hi:i<L.length:=by omega
  obtain⟨x,hxi⟩:∃x,L[i]? =some x:=⟨_,List.getElem?_eq_getElem hi⟩
  have hle:=AZ hxi
  have hsu:=pY hxi
  refine bw (fun w m=>m.kM 1 rfl (View.pj i (by rw[List.getElem?_map,hxi];rfl))) ?_
  refine a6 (fun m=>ki (m.rd 0 rfl)) ?_
  rintro⟨hl_it,hA_it⟩
  refine a6 (fun m=>(m.rd 0 rfl).2.1) fun hA_it=> ?_
  refine aD<|ag<|ah<|aK<|ah<|aj<|hy (fun _=>cW rfl rfl Tryz.underlying125 za hA_r rfl (by omega))<|hy (fun m=>yV (a7 rfl Fz za x.eL (pn (f:=IX.cs) IX.eL (m.rd 1 rfl) hxi)) ((rfl:_=Value.agg x.cs.toArray)))<| ?_
  refine hx (aP BK (fun g5=> ?_))
  refine cH (aI 0 rfl rfl rfl za x.eL x.bO rfl ?_)
  refine ai<|al (ρ' :=[(5,_),(11,_),(3,_),(10,_),(9,_),(8,_),(2,_),(0,_)]) ⟨rfl,rfl,rfl,rfl,rfl,rfl,rfl,rfl,trivial⟩<|ak (X' :=[_,_]) (S' :=[_,_,_]) (fun _ m=>m)<|ag<|ah<|aj<|hy (fun _=>aL rfl C0 (by decide))<|hy (fun m=>aw rfl CY (aA (m.aX 0 rfl) (i:=35) x.Dw))<|hy (fun _=>aW rfl Tryz.underlying80)<|hy (fun _=>aa rfl)<|ai<|al (ρ' :=[(17,_),(16,_),(15,_),(5,_),(11,_),(3,_),(10,_),(9,_),(8,_),(2,_),(0,_)]) ⟨rfl,rfl,rfl,rfl,rfl,rfl,rfl,rfl,rfl,rfl,rfl,trivial⟩<|ag<|aK<| ?_
  have e0:dc (dx (L.take i))=dc (dx (L.take i)++x.names.take 0):=by rw[List.take_zero,List.append_nil]
  rw[e0]
  refine lD (fun j k2 A2 c2=>x.nR.length-j) (fun j k2 A2 c2=>[(3,.slice A2 k2 c2),(17,.int .i64 (j:Nat))]) (fun j k2 A2 c2=>[aG 53 32 (.slice A2 k2 c2) k2 (dc (dx (L.take i)++x.names.take j))]) (fun j k2 A2 c2=>[]) (fun j k2 A2 c2=>j≤x.nR.length∧k2=k+j) 0 k A1 c1 [(16,_),(15,_),(5,_),(11,_),(10,_),(9,_),(8,_),(2,_),(0,_)] ⟨rfl,rfl,rfl,rfl,rfl,rfl,rfl,rfl,rfl,trivial⟩ [1] rfl [] rfl (⟨Nat.zero_le _,rfl⟩) ⟨rfl,rfl,trivial⟩ (fun j k2 A2 c2 ⟨hj,hk2⟩=> ?_)
  refine ah<|aj<|hy (fun _=>bA rfl rfl)<|ai<|ag<|ah<| ?_
  refine cC rfl (fun hlt2=> ?_) (fun hlt2=> ?_)
  ·have hj2:j<x.nR.length:=by omega
   obtain⟨t,ht⟩:∃t,x.nR[j]? =some t:=⟨_,List.getElem?_eq_getElem hj2⟩
   have hns:=tL ht
   have h32:(aQ t.1.b).length=32:=by rw[ay,t.1.h]
   refine aD<|ag<|ah<|aK<|ah<|aj<|hy (fun _=>cW rfl rfl Tryz.underlying80 xu hA_it rfl (by omega))<|hy (fun m=>yV (a7 rfl FD xu (mF t) (pn (f:=xB) mF (m.rd 0 rfl) ht)) ((rfl:_=Value.agg (xB t).toArray)))<| ?_
   refine hx (aP uP (fun g7=> ?_))
   refine cH (aI 0 rfl rfl rfl xu (mF t) (vr t) rfl ?_)
   refine ai<|al (ρ' :=[(7,_),(18,_),(3,_),(17,_),(16,_),(15,_),(5,_),(11,_),(10,_),(9,_),(8,_),(2,_),(0,_)]) ⟨rfl,rfl,rfl,rfl,rfl,rfl,rfl,rfl,rfl,rfl,rfl,rfl,rfl,trivial⟩<|ak (X' :=[_,_,_]) (S' :=[_,_,_]) (fun _ m=>m)<|ag<|aj<|hy (fun _=>aa rfl)<|hy (fun _=>aL rfl Ac (by decide))<|hy (fun m=>a7 rfl cy bp h32 (u5 (m.aX 0 rfl)))<| ?_
   refine hx (b4 Tryz.underlying33 dQ rfl rfl rfl (by simpa[Value.cells,B8]using h32) (by decide) (by decide) (fun g24=> ?_))
   have hA_b24:0<1→(some (⟨g24,0,none⟩:Addr))≠none:=fun _ h=>by cases h
   refine aU (fun w m=>m.bU 0 rfl (show _=aG 53 32 (.slice (some ⟨g24,0,none⟩) 1 1) 1 (dc [t.1.b])from rfl)) ?_
   refine hx (bI 2 rfl rfl rfl Tryz.underlying33 Tryz.underlying33 (by exact .inl rfl) dQ rfl (fun m=>Src.bZ (m.ord 0 rfl)) lq (by unfold maxLen;omega) (by omega) (fun u=> ?_))
   refine aB (fun m=>(m.own 0 rfl).slice) ?_
   rintro⟨A_o,c_o,rfl,hc_o⟩
   refine aB (fun m=>(m.ord 0 rfl).2.1) fun hA_o=> ?_
   refine aU (fun w m=>m.bU 0 rfl (show _=aG 53 32 (.slice A_o (k2+1) c_o) (k2+1) (dc (dx (L.take i)++x.names.take (j+1)))from congrArg (aG _ _ _ _) (by rw[hns,←List.append_assoc,fR _ [t.1.b]]))) ?_
   refine hy (fun _=>ab rfl)<|ai<|al (ρ' :=[(3,_),(7,_),(18,_),(17,_),(16,_),(15,_),(5,_),(11,_),(10,_),(9,_),(8,_),(2,_),(0,_)]) ⟨rfl,rfl,rfl,rfl,rfl,rfl,rfl,rfl,rfl,rfl,rfl,rfl,rfl,trivial⟩<|ak (X' :=[_,_,_,_]) (S' :=[_,_,_]) (fun _ m=>m)<|aS<|ag<|aj<|hy (fun _=>aN rfl rfl (bE (by omega) (by omega)))<|hy (fun _=>aa rfl)<|ai<|al (ρ' :=[(17,_),(3,_),(7,_),(18,_),(16,_),(15,_),(5,_),(11,_),(10,_),(9,_),(8,_),(2,_),(0,_)]) ⟨rfl,rfl,rfl,rfl,rfl,rfl,rfl,rfl,rfl,rfl,rfl,rfl,rfl,trivial⟩<| ?_
   refine iB (j+1) (k2+1) A_o c_o ⟨rfl,rfl,rfl,rfl,rfl,rfl,rfl,rfl,rfl,rfl,rfl,trivial⟩ [0,2] rfl [0,1,2] rfl (⟨by omega,by omega⟩) (by omega)
  ·obtain rfl:j=x.nR.length:=by omega
   have e1:dx (L.take i)++x.names.take x.nR.length=dx (L.take (i+1)):=by rw[hsu,List.take_of_length_le (l:=x.names) (by rw[m9];exact Nat.le_refl _)]
   rw[e1]
   refine bL<|ao<|ao<|aC<|aS<|ag<|aj<|hy (fun _=>aN rfl rfl (bE (by omega) (by omega)))<|hy (fun _=>aa rfl)<|ai<|al (ρ' :=[(10,_),(18,_),(3,_),(17,_),(16,_),(15,_),(5,_),(11,_),(9,_),(8,_),(2,_),(0,_)]) ⟨rfl,rfl,rfl,rfl,rfl,rfl,rfl,rfl,rfl,rfl,rfl,rfl,trivial⟩<| ?_
   refine iB (i+1) k2 A2 c2 ⟨rfl,rfl,rfl,rfl,rfl,rfl,trivial⟩ [0] rfl [1,2] rfl (⟨by omega,by rw[hsu,List.length_append,m9];omega⟩) (by omega)
 ·obtain rfl:i=n:=by omega
  have e2:L.take i=L:=List.take_of_length_le (by omega)
  rw[e2]at hk
  rw[e2]
  have hsl:=sL (dx L)
  have hsD:nV (jw (dx L)):=fun d hd=>lO L d ((jg _).mem_iff.1 hd)
  refine a6 (fun m=>(Own.rd (m.own 0 rfl)).2.1) fun hcc=> ?_
  refine bL<|ao<|ao<|aC<|ag<|ah<|aj<|hy (fun _=>aa rfl)<| ?_
  refine hx (aq rfl Tryz.call147 (qN (lO L) (by omega)) [0] rfl [] rfl ?_)
  rintro _ _ _ ⟨rfl,rfl,rfl⟩
  refine ai<|al (ρ' :=[(11,_),(3,_),(10,_),(9,_),(8,_),(2,_),(0,_)]) ⟨rfl,rfl,rfl,rfl,rfl,rfl,rfl,trivial⟩<|ak (X' :=[_]) (S' :=[_,_]) (fun _ m=>m)<|ag<|ah<|aj<|hy (fun _=>aa rfl)<| ?_
  refine hx (aq rfl Tryz.call205 (yb hsD (by omega) hcc (by omega)) [0] rfl [] rfl ?_)
  rintro _ _ _ ⟨k2,rfl,rfl,rfl,hk3⟩
  refine hy (fun _=>ab rfl)<|ai<|al (ρ' :=[(2,_),(11,_),(3,_),(10,_),(9,_),(8,_),(0,_)]) ⟨rfl,rfl,rfl,rfl,rfl,rfl,rfl,trivial⟩<|ak (X' :=[_]) (S' :=[_,_]) (fun _ m=>m)<|ag<|aV<| ?_
  have hk4:=u7 (jw (dx L))
  rw[sR]at hk3 hk4
  rw[sR]
  exact bh trivial rfl rfl [0] rfl [] rfl ⟨_,_,_,rfl,rfl,rfl,⟨hk3,by omega⟩⟩
end Go.Proofs.YtmibdabdlgmafaaGreatDoor
end
section
namespace Go.Proofs.YtmibdabdlgmafaaGreatDoor
open Go.Eng Go.Hx
theorem so:∀{a b:List UInt8},a<b→cb a b<0
 | [],[],h=>absurd h (List.lt_irrefl _)
 | [],y::s,_=>by show(-1:Int)<0;decide
 |x::r,[],h=>absurd h (List.not_lt_nil _)
 |x::r,y::s,h=>by
  rw[List.cons_lt_cons_iff]at h
  rw[iz]
  rcases h with h|⟨rfl,h⟩
  ·rw[if_pos h];decide
  ·rw[if_neg (UInt8.lt_irrefl _),if_neg (UInt8.lt_irrefl _)]
   exact so h
theorem yi{a b:List UInt8}(ha:a.length=32)(hb:b.length=32)(h:aF a<aF b):cb a b<0:=by
 have er:∀{n:List UInt8},n.length=32→∃x y r,bV n=x::y::r∧aF n=99::47::x::y::47::bV n:=fun{n} hn=>by
  have h64:(bV n).length=64:=by rw[dB,hn]
  match hq:bV n with
  | []=>rw[hq]at h64;cases h64
  | [_]=>rw[hq]at h64;cases h64
  |x::y::r=>exact⟨x,y,r,rfl,by unfold aF;rw[hq];rfl⟩
 obtain⟨x,y,r,h1,h2⟩:=er ha
 obtain⟨x',y',r',h3,h4⟩:=er hb
 rw[h2,h4]at h
 rw[←vo]
 apply so
 simp only[List.cons_lt_cons_iff,UInt8.lt_irrefl,false_or,true_and]at h
 rw[h1,h3]at h ⊢
 simp only[List.cons_lt_cons_iff]at h ⊢
 rcases h with h|⟨rfl,h⟩
 ·exact .inl h
 ·rcases h with h|⟨rfl,h⟩
  ·exact .inr ⟨rfl,.inl h⟩
  ·exact h
theorem mJ:∀(l acc:List (List UInt8)),l.Pairwise (· <·)→(∀a∈acc,∀p∈l,∀nm,lW p=some nm→cb a nm<0)→l.foldl rA acc=acc++l.filterMap lW
 | [],acc,_,_=>by simp
 |p::r,acc,hs,hA=>by
  rw[List.pairwise_cons]at hs
  rw[List.foldl_cons,List.filterMap_cons]
  cases hq:lW p with
  |none=>
   have:rA acc p=acc:=by unfold rA;rw[hq]
   rw[this]
   exact mJ r acc hs.2 (fun a ha q hq2 nm h=>hA a ha q (List.mem_cons_of_mem _ hq2) nm h)
  |some nm=>
   have hp:nm.length=32∧p=aF nm:=by
    rw[←j7]at hq
    exact ew hq
   have hd:rA acc p=acc++[nm]:=by
    unfold rA
    rw[hq]
    have:=vz acc nm acc.length (Nat.le_refl _) (fun i hi=>by
     rw[List.getD,List.getElem?_eq_getElem hi]
     exact hA _ (List.getElem_mem hi) p (List.mem_cons_self ..) nm hq) (fun h=>absurd h (Nat.lt_irrefl _))
    rw[if_neg (fun h=>absurd h.1 (Nat.lt_irrefl _)),List.take_length,List.drop_length,List.append_nil]at this
    exact this
   rw[hd,mJ r (acc++[nm]) hs.2 (fun a ha q hq2 nm2 h=>by
    rcases List.mem_append.1 ha with ha|ha
    ·exact hA a ha q (List.mem_cons_of_mem _ hq2) nm2 h
    ·rw[List.mem_singleton.1 ha]
     have hp2:nm2.length=32∧q=aF nm2:=by
      rw[←j7]at h
      exact ew h
     refine yi hp.1 hp2.1 ?_
     rw[←hp.2,←hp2.2]
     exact hs.1 q hq2)]
   simp
theorem uf{d:RD}(h:jZ d.seen):vE d d.seen.length=bq d:=by
 unfold vE bq
 rw[List.take_length,mJ _ _ h (fun a ha=>(List.not_mem_nil ha).elim)]
 rfl
end Go.Proofs.YtmibdabdlgmafaaGreatDoor
end
section
set_option maxRecDepth 100000
namespace Go.Hx
def Fe(b:List UInt8)(w:List UInt32):Bool:=(List.range 64).all fun i=>w.getD i 0 == (if i<16 then j0 b (4*i)else mr w i)
theorem vZ{b:List UInt8}{w:List UInt32}(hl:w.length=64)(h:Fe b w=true):∀n,n≤64→wl b n=w.take n
 |0,_=>by simp[wl]
 |n+1,hn=>by
  have ih:=vZ hl h n (by omega)
  have hc:w.getD n 0=(if n<16 then j0 b (4*n)else mr w n):=by
   have:=List.all_eq_true.1 h n (List.mem_range.2 (by omega))
   exact eq_of_beq this
  have hg:∀j,j<n→(w.take n).getD j 0=w.getD j 0:=fun j hj=>by simp only[List.getD,List.getElem?_take,if_pos hj]
  have hw:w.take (n+1)=w.take n++[w.getD n 0]:=by
   rw[List.take_add_one,List.getElem?_eq_getElem (by omega)]
   simp[List.getD,List.getElem?_eq_getElem (show n<w.length by omega)]
  rw[wl,ih,hw,hc]
  congr 2
  split
  ·rfl
  ·unfold mr
   rw[hg _ (by omega),hg _ (by omega),hg _ (by omega),hg _ (by omega)]
def BL(w v:List UInt32):List (List UInt32)→List UInt32→List UInt32→Bool
 | [],_,_=>true
 |y::r,k,u=>y == Gs v (k.getD 0 0) (u.getD 0 0) && BL w y r k.tail u.tail
theorem tz{w v:List UInt32}:∀(t:List (List UInt32)) (n:Nat) (s:List UInt32),kq w v n=s→BL w s t (fj.drop n) (w.drop n)=true→kq w v (n+t.length)=(s::t).getLastD []
 | [],n,s,hs,_=>by simpa using hs
 |y::r,n,s,hs,h=>by
  simp only[BL,Bool.and_eq_true]at h
  have e:kq w v (n+1)=y:=by
   rw[eq_of_beq h.1,kq,hs]
   simp only[List.getD,List.getElem?_drop,Nat.add_zero]
  have:=tz r (n+1) y e (by rw[←List.tail_drop,←List.tail_drop];exact h.2)
  rw[List.length_cons,show n+(r.length+1)=n+1+r.length by omega,this]
  rfl
theorem ky{b m:List UInt8}{w:List UInt32}{t:List (List UInt32)}(hp:iQ b=m)(hm:m.length=64)(hw:w.length=64)(ht:t.length=64)(h1:Fe m w=true)(h2:BL w lL t fj w=true):
  ba b=ek (fz ((lL::t).getLastD []) lL 8):=by
 have e1:e8 lL m=ea lL m:=by
  unfold e8
  rw[hm]
  show nk 0 (ea lL (m.take 64)) (m.drop 64)=_
  rw[List.take_of_length_le (by omega)]
  rfl
 have e2:wl m 64=w:=by rw[vZ hw h1 64 (Nat.le_refl _),List.take_of_length_le (by omega)]
 have e3:=tz (w:=w) (v:=lL) t 0 lL rfl (by simpa using h2)
 rw[Nat.zero_add,ht]at e3
 unfold ba
 rw[hp,e1,ea,e2,e3]
def bc(k:Nat):List UInt8:=(List.range (3*k)).map fun i=>[UInt8.ofNat (65+k),1,UInt8.ofNat k].getD (i % 3) 0
theorem iM(k:Nat):(bc k).length=3*k:=by simp[bc]
def GP:List UInt32:=[2147483648,0,0,0,0,0,0,0,0,0,0,0,0,0,0,0,2147483648,0,2117632,0,570427392,0,84448578,2147483648,1476919296,4235264,1451269,1711282176,3592562048,337794312,3594910044,3374850048,3287351444,676112230,109604294,2742808854,1904000662,4274181962,2813755136,2165675682,2561075048,62000258,1562224585,2975250741,3286092305,614207615,3297584367,1575308336,3741240933,748767245,1008022316,30329261,369937616,195877528,907775968,3526495142,43741191,1967544444,133517113,4161330627,3704256008,1581412744,1153231965,996066459]
def GY:List (List UInt32):=[[2080933965,1779033703,3144134277,1013904242,415752866,1359893119,2600822924,528734635],[2632279248,2080933965,1779033703,3144134277,536982102,415752866,1359893119,2600822924],[3299628326,2632279248,2080933965,1779033703,1876632314,536982102,415752866,1359893119],[1277422283,3299628326,2632279248,2080933965,808968629,1876632314,536982102,415752866],[1130821424,1277422283,3299628326,2632279248,3889194014,808968629,1876632314,536982102],[690895682,1130821424,1277422283,3299628326,1332035834,3889194014,808968629,1876632314],[4028650896,690895682,1130821424,1277422283,2196627567,1332035834,3889194014,808968629],[2060825014,4028650896,690895682,1130821424,1408847307,2196627567,1332035834,3889194014],[4113392549,2060825014,4028650896,690895682,2058339864,1408847307,2196627567,1332035834],[4025007953,4113392549,2060825014,4028650896,1392976521,2058339864,1408847307,2196627567],[361478433,4025007953,4113392549,2060825014,3795207118,1392976521,2058339864,1408847307],[4114828352,361478433,4025007953,4113392549,3621813394,3795207118,1392976521,2058339864],[553833165,4114828352,361478433,4025007953,3455974994,3621813394,3795207118,1392976521],[1170215847,553833165,4114828352,361478433,725774998,3455974994,3621813394,3795207118],[3096116699,1170215847,553833165,4114828352,483372089,725774998,3455974994,3621813394],[3019933109,3096116699,1170215847,553833165,1555621987,483372089,725774998,3455974994],[1192056138,3019933109,3096116699,1170215847,1892956839,1555621987,483372089,725774998],[3717831211,1192056138,3019933109,3096116699,1619825619,1892956839,1555621987,483372089],[812095850,3717831211,1192056138,3019933109,3550010602,1619825619,1892956839,1555621987],[172493064,812095850,3717831211,1192056138,2416781228,3550010602,1619825619,1892956839],[1976037592,172493064,812095850,3717831211,966081741,2416781228,3550010602,1619825619],[2577845017,1976037592,172493064,812095850,3263666206,966081741,2416781228,3550010602],[1078820948,2577845017,1976037592,172493064,2976200464,3263666206,966081741,2416781228],[2556161365,1078820948,2577845017,1976037592,741081741,2976200464,3263666206,966081741],[2062996621,2556161365,1078820948,2577845017,4116679717,741081741,2976200464,3263666206],[3317175470,2062996621,2556161365,1078820948,3850028020,4116679717,741081741,2976200464],[747317945,3317175470,2062996621,2556161365,2677228163,3850028020,4116679717,741081741],[1837942423,747317945,3317175470,2062996621,1726829818,2677228163,3850028020,4116679717],[1690082844,1837942423,747317945,3317175470,2506713973,1726829818,2677228163,3850028020],[1926471693,1690082844,1837942423,747317945,2957685293,2506713973,1726829818,2677228163],[2696613087,1926471693,1690082844,1837942423,1447716390,2957685293,2506713973,1726829818],[300352095,2696613087,1926471693,1690082844,3151463532,1447716390,2957685293,2506713973],[3817927606,300352095,2696613087,1926471693,3436338571,3151463532,1447716390,2957685293],[2705438357,3817927606,300352095,2696613087,197416927,3436338571,3151463532,1447716390],[1151435175,2705438357,3817927606,300352095,1769188034,197416927,3436338571,3151463532],[1679812728,1151435175,2705438357,3817927606,980442793,1769188034,197416927,3436338571],[2694206301,1679812728,1151435175,2705438357,4206914285,980442793,1769188034,197416927],[1457773646,2694206301,1679812728,1151435175,3892832895,4206914285,980442793,1769188034],[2656625711,1457773646,2694206301,1679812728,2242319396,3892832895,4206914285,980442793],[1234768305,2656625711,1457773646,2694206301,1902882853,2242319396,3892832895,4206914285],[4270245939,1234768305,2656625711,1457773646,2224585183,1902882853,2242319396,3892832895],[580450446,4270245939,1234768305,2656625711,4123364073,2224585183,1902882853,2242319396],[3686090155,580450446,4270245939,1234768305,3762306745,4123364073,2224585183,1902882853],[3907209042,3686090155,580450446,4270245939,692219050,3762306745,4123364073,2224585183],[2752082644,3907209042,3686090155,580450446,2855016464,692219050,3762306745,4123364073],[855262251,2752082644,3907209042,3686090155,3531982457,2855016464,692219050,3762306745],[1419259244,855262251,2752082644,3907209042,2322236082,3531982457,2855016464,692219050],[911881421,1419259244,855262251,2752082644,3417569515,2322236082,3531982457,2855016464],[1655188062,911881421,1419259244,855262251,1286303114,3417569515,2322236082,3531982457],[2543384045,1655188062,911881421,1419259244,3909789552,1286303114,3417569515,2322236082],[3244542753,2543384045,1655188062,911881421,906398686,3909789552,1286303114,3417569515],[3579709122,3244542753,2543384045,1655188062,2710884687,906398686,3909789552,1286303114],[2981272720,3579709122,3244542753,2543384045,1134943992,2710884687,906398686,3909789552],[974034039,2981272720,3579709122,3244542753,4254700398,1134943992,2710884687,906398686],[749689034,974034039,2981272720,3579709122,3850954136,4254700398,1134943992,2710884687],[23298068,749689034,974034039,2981272720,2918796810,3850954136,4254700398,1134943992],[2126991890,23298068,749689034,974034039,2035393328,2918796810,3850954136,4254700398],[3891021244,2126991890,23298068,749689034,3802734300,2035393328,2918796810,3850954136],[3911429062,3891021244,2126991890,23298068,148956906,3802734300,2035393328,2918796810],[71572494,3911429062,3891021244,2126991890,2867830852,148956906,3802734300,2035393328],[4095722474,71572494,3911429062,3891021244,477227836,2867830852,148956906,3802734300],[1586299222,4095722474,71572494,3911429062,2232532848,477227836,2867830852,148956906],[3717492111,1586299222,4095722474,71572494,3382061760,2232532848,477227836,2867830852],[2040978907,3717492111,1586299222,4095722474,3600805733,3382061760,2232532848,477227836]]
def Gw:List UInt8:=[227,176,196,66,152,252,28,20,154,251,244,200,153,111,185,36,39,174,65,228,100,155,147,76,164,149,153,27,120,82,184,85]
theorem CK:ba (bc 0)=Gw:=(ky (m:=[128,0,0,0,0,0,0,0,0,0,0,0,0,0,0,0,0,0,0,0,0,0,0,0,0,0,0,0,0,0,0,0,0,0,0,0,0,0,0,0,0,0,0,0,0,0,0,0,0,0,0,0,0,0,0,0,0,0,0,0,0,0,0,0]) (w:=GP) (t:=GY) (by decide+kernel) rfl rfl rfl (by decide+kernel) (by decide+kernel)).trans (by decide+kernel)
def GM:List UInt32:=[1107362176,0,0,0,0,0,0,0,0,0,0,0,0,0,0,24,1107362176,983040,2699077888,1610613702,1099463750,25426944,834374402,3280036238,3036426248,1034355432,4264064947,2729372909,915670732,3716110779,2000263722,1165897113,1039646088,281299352,3980104470,3761427724,3658363895,2305949932,3028413559,1303837579,2832082812,861919844,704850085,842796679,1808702238,1428493387,355076516,262993471,3617218607,4116430181,1277468746,1831645101,997864768,3820563998,3255109888,1037898284,4233045264,807309956,415727611,2688463381,2024334792,1869650284,61815304,1221856994]
def GS:List (List UInt32):=[[1040812493,1779033703,3144134277,1013904242,3670598690,1359893119,2600822924,528734635],[2933991511,1040812493,1779033703,3144134277,2306459197,3670598690,1359893119,2600822924],[305863567,2933991511,1040812493,1779033703,1911864870,2306459197,3670598690,1359893119],[2689951969,305863567,2933991511,1040812493,3617446406,1911864870,2306459197,3670598690],[548066125,2689951969,305863567,2933991511,1099388481,3617446406,1911864870,2306459197],[4247765051,548066125,2689951969,305863567,315033534,1099388481,3617446406,1911864870],[396587438,4247765051,548066125,2689951969,1209652816,315033534,1099388481,3617446406],[3339597200,396587438,4247765051,548066125,2891510804,1209652816,315033534,1099388481],[2907775726,3339597200,396587438,4247765051,1362660984,2891510804,1209652816,315033534],[1595668996,2907775726,3339597200,396587438,3701338122,1362660984,2891510804,1209652816],[3097299680,1595668996,2907775726,3339597200,1494823656,3701338122,1362660984,2891510804],[2495058246,3097299680,1595668996,2907775726,2443417408,1494823656,3701338122,1362660984],[3937365664,2495058246,3097299680,1595668996,168074123,2443417408,1494823656,3701338122],[3094349113,3937365664,2495058246,3097299680,1823925988,168074123,2443417408,1494823656],[3837998543,3094349113,3937365664,2495058246,1558452064,1823925988,168074123,2443417408],[97767242,3837998543,3094349113,3937365664,1443849710,1558452064,1823925988,168074123],[157455394,97767242,3837998543,3094349113,2602895388,1443849710,1558452064,1823925988],[1168195621,157455394,97767242,3837998543,1328892379,2602895388,1443849710,1558452064],[3503166658,1168195621,157455394,97767242,3664420442,1328892379,2602895388,1443849710],[655817290,3503166658,1168195621,157455394,3230838127,3664420442,1328892379,2602895388],[2070899622,655817290,3503166658,1168195621,1053688013,3230838127,3664420442,1328892379],[2546074497,2070899622,655817290,3503166658,3956158565,1053688013,3230838127,3664420442],[3103291562,2546074497,2070899622,655817290,3767396667,3956158565,1053688013,3230838127],[3462026065,3103291562,2546074497,2070899622,2935844591,3767396667,3956158565,1053688013],[2864794835,3462026065,3103291562,2546074497,117490617,2935844591,3767396667,3956158565],[4287121506,2864794835,3462026065,3103291562,1666426747,117490617,2935844591,3767396667],[2520095682,4287121506,2864794835,3462026065,2190567029,1666426747,117490617,2935844591],[3566786262,2520095682,4287121506,2864794835,914031713,2190567029,1666426747,117490617],[3026728640,3566786262,2520095682,4287121506,667213488,914031713,2190567029,1666426747],[2176691638,3026728640,3566786262,2520095682,2974331702,667213488,914031713,2190567029],[276430399,2176691638,3026728640,3566786262,3599312549,2974331702,667213488,914031713],[2876947361,276430399,2176691638,3026728640,494654400,3599312549,2974331702,667213488],[3855850741,2876947361,276430399,2176691638,3146031214,494654400,3599312549,2974331702],[884922106,3855850741,2876947361,276430399,1146660805,3146031214,494654400,3599312549],[1402976943,884922106,3855850741,2876947361,4235796835,1146660805,3146031214,494654400],[754556834,1402976943,884922106,3855850741,3814518060,4235796835,1146660805,3146031214],[1550721331,754556834,1402976943,884922106,2100336359,3814518060,4235796835,1146660805],[3252933238,1550721331,754556834,1402976943,865945473,2100336359,3814518060,4235796835],[1473052570,3252933238,1550721331,754556834,2985952915,865945473,2100336359,3814518060],[1403004595,1473052570,3252933238,1550721331,3486181957,2985952915,865945473,2100336359],[3948605229,1403004595,1473052570,3252933238,2449457099,3486181957,2985952915,865945473],[2509938093,3948605229,1403004595,1473052570,2612013495,2449457099,3486181957,2985952915],[1524924783,2509938093,3948605229,1403004595,4237955955,2612013495,2449457099,3486181957],[2072908380,1524924783,2509938093,3948605229,2743951822,4237955955,2612013495,2449457099],[1574677093,2072908380,1524924783,2509938093,962518812,2743951822,4237955955,2612013495],[2949412848,1574677093,2072908380,1524924783,2124612093,962518812,2743951822,4237955955],[2150510118,2949412848,1574677093,2072908380,3046824961,2124612093,962518812,2743951822],[1129255911,2150510118,2949412848,1574677093,3347572455,3046824961,2124612093,962518812],[1598741872,1129255911,2150510118,2949412848,3325168739,3347572455,3046824961,2124612093],[3197823805,1598741872,1129255911,2150510118,1408481104,3325168739,3347572455,3046824961],[4279166295,3197823805,1598741872,1129255911,3255467814,1408481104,3325168739,3347572455],[410751663,4279166295,3197823805,1598741872,1842780739,3255467814,1408481104,3325168739],[3066744009,410751663,4279166295,3197823805,2597202916,1842780739,3255467814,1408481104],[944794031,3066744009,410751663,4279166295,399797342,2597202916,1842780739,3255467814],[1866775977,944794031,3066744009,410751663,1932359240,399797342,2597202916,1842780739],[282090807,1866775977,944794031,3066744009,1184764235,1932359240,399797342,2597202916],[1337731485,282090807,1866775977,944794031,1631464235,1184764235,1932359240,399797342],[2855027434,1337731485,282090807,1866775977,2735041572,1631464235,1184764235,1932359240],[580666429,2855027434,1337731485,282090807,2051984567,2735041572,1631464235,1184764235],[1179881486,580666429,2855027434,1337731485,336116513,2051984567,2735041572,1631464235],[2208710711,1179881486,580666429,2855027434,1369389600,336116513,2051984567,2735041572],[1993106377,2208710711,1179881486,580666429,2785874755,1369389600,336116513,2051984567],[1722319979,1993106377,2208710711,1179881486,3490118991,2785874755,1369389600,336116513],[4198305097,1722319979,1993106377,2208710711,2164499240,3490118991,2785874755,1369389600]]
def Gv:List UInt8:=[100,70,243,176,34,16,50,240,179,59,87,59,40,246,53,113,210,17,245,167,107,12,101,219,197,144,236,238,173,128,7,57]
theorem D7:ba (bc 1)=Gv:=(ky (m:=[66,1,1,128,0,0,0,0,0,0,0,0,0,0,0,0,0,0,0,0,0,0,0,0,0,0,0,0,0,0,0,0,0,0,0,0,0,0,0,0,0,0,0,0,0,0,0,0,0,0,0,0,0,0,0,0,0,0,0,0,0,0,0,24]) (w:=GM) (t:=GS) (by decide+kernel) rfl rfl rfl (by decide+kernel) (by decide+kernel)).trans (by decide+kernel)
def GU:List UInt32:=[1124139587,16941056,0,0,0,0,0,0,0,0,0,0,0,0,0,48,3810744195,18907136,3238610208,1342195860,2315533044,759996946,2584106364,2825082794,3780632534,2182307592,1680491018,1313476752,2527729170,3830452708,1381894837,3130175299,1232444601,1889327910,3182576678,3565149627,3800348971,339090578,3050780477,97854861,2781692531,4278943766,4017797749,2474762115,2255184555,1350487740,1900803956,999275052,1107640373,1446613587,4085947598,3158374171,4065327008,2330063767,1246901643,3001339339,713557620,1253248229,309444691,221893369,2859793821,2299060968,3071715676,99404356]
def GV:List (List UInt32):=[[1057589904,1779033703,3144134277,1013904242,3687376101,1359893119,2600822924,528734635],[2330236836,1057589904,1779033703,3144134277,249561725,3687376101,1359893119,2600822924],[2952625882,2330236836,1057589904,1779033703,865584597,249561725,3687376101,1359893119],[2211839873,2952625882,2330236836,1057589904,2501966966,865584597,249561725,3687376101],[1289089281,2211839873,2952625882,2330236836,887231697,2501966966,865584597,249561725],[1289192874,1289089281,2211839873,2952625882,3135962609,887231697,2501966966,865584597],[916623403,1289192874,1289089281,2211839873,3109612191,3135962609,887231697,2501966966],[2451091062,916623403,1289192874,1289089281,40197896,3109612191,3135962609,887231697],[2239294834,2451091062,916623403,1289192874,103872825,40197896,3109612191,3135962609],[601085176,2239294834,2451091062,916623403,2968703906,103872825,40197896,3109612191],[3413854578,601085176,2239294834,2451091062,2657018364,2968703906,103872825,40197896],[1650988189,3413854578,601085176,2239294834,1553445622,2657018364,2968703906,103872825],[3244664986,1650988189,3413854578,601085176,2269109542,1553445622,2657018364,2968703906],[350344466,3244664986,1650988189,3413854578,320837474,2269109542,1553445622,2657018364],[1627290034,350344466,3244664986,1650988189,1092326513,320837474,2269109542,1553445622],[1502232881,1627290034,350344466,3244664986,3468823584,1092326513,320837474,2269109542],[3457802380,1502232881,1627290034,350344466,3349716604,3468823584,1092326513,320837474],[1280799126,3457802380,1502232881,1627290034,3359418660,3349716604,3468823584,1092326513],[289125459,1280799126,3457802380,1502232881,3820807298,3359418660,3349716604,3468823584],[550473630,289125459,1280799126,3457802380,2788603820,3820807298,3359418660,3349716604],[2441531240,550473630,289125459,1280799126,2487508294,2788603820,3820807298,3359418660],[235924764,2441531240,550473630,289125459,79638958,2487508294,2788603820,3820807298],[2821390622,235924764,2441531240,550473630,1677650773,79638958,2487508294,2788603820],[2981348562,2821390622,235924764,2441531240,997690261,1677650773,79638958,2487508294],[3246309241,2981348562,2821390622,235924764,1693422423,997690261,1677650773,79638958],[2782565069,3246309241,2981348562,2821390622,2705504097,1693422423,997690261,1677650773],[3050952480,2782565069,3246309241,2981348562,649692277,2705504097,1693422423,997690261],[1231532091,3050952480,2782565069,3246309241,1645315027,649692277,2705504097,1693422423],[403846042,1231532091,3050952480,2782565069,1718752980,1645315027,649692277,2705504097],[3680510200,403846042,1231532091,3050952480,365747316,1718752980,1645315027,649692277],[2850954302,3680510200,403846042,1231532091,1422430802,365747316,1718752980,1645315027],[1551427412,2850954302,3680510200,403846042,411055101,1422430802,365747316,1718752980],[1624128134,1551427412,2850954302,3680510200,3512122945,411055101,1422430802,365747316],[184953684,1624128134,1551427412,2850954302,143490275,3512122945,411055101,1422430802],[1338214341,184953684,1624128134,1551427412,1888941543,143490275,3512122945,411055101],[3688828661,1338214341,184953684,1624128134,2295087027,1888941543,143490275,3512122945],[1088629599,3688828661,1338214341,184953684,3632761830,2295087027,1888941543,143490275],[846324263,1088629599,3688828661,1338214341,3947187417,3632761830,2295087027,1888941543],[1008002537,846324263,1088629599,3688828661,515361640,3947187417,3632761830,2295087027],[3858954506,1008002537,846324263,1088629599,1570023267,515361640,3947187417,3632761830],[998071185,3858954506,1008002537,846324263,3424387064,1570023267,515361640,3947187417],[2823007980,998071185,3858954506,1008002537,895995303,3424387064,1570023267,515361640],[3069835281,2823007980,998071185,3858954506,4110206827,895995303,3424387064,1570023267],[923220316,3069835281,2823007980,998071185,398239941,4110206827,895995303,3424387064],[3184211690,923220316,3069835281,2823007980,1732236141,398239941,4110206827,895995303],[689804862,3184211690,923220316,3069835281,3835265982,1732236141,398239941,4110206827],[488756834,689804862,3184211690,923220316,1226687022,3835265982,1732236141,398239941],[738821552,488756834,689804862,3184211690,1929778112,1226687022,3835265982,1732236141],[2968668012,738821552,488756834,689804862,1092494996,1929778112,1226687022,3835265982],[3373777451,2968668012,738821552,488756834,3620662399,1092494996,1929778112,1226687022],[3237603739,3373777451,2968668012,738821552,2046091717,3620662399,1092494996,1929778112],[2839057249,3237603739,3373777451,2968668012,3104326460,2046091717,3620662399,1092494996],[3656148329,2839057249,3237603739,3373777451,2929065458,3104326460,2046091717,3620662399],[2677316219,3656148329,2839057249,3237603739,2987592159,2929065458,3104326460,2046091717],[398776029,2677316219,3656148329,2839057249,3635542219,2987592159,2929065458,3104326460],[2032015724,398776029,2677316219,3656148329,2723075718,3635542219,2987592159,2929065458],[2546740428,2032015724,398776029,2677316219,2766272617,2723075718,3635542219,2987592159],[3557301658,2546740428,2032015724,398776029,3903591484,2766272617,2723075718,3635542219],[2209589700,3557301658,2546740428,2032015724,1288279647,3903591484,2766272617,2723075718],[788646974,2209589700,3557301658,2546740428,1881657852,1288279647,3903591484,2766272617],[4199117116,788646974,2209589700,3557301658,504503469,1881657852,1288279647,3903591484],[3445242612,4199117116,788646974,2209589700,1672409445,504503469,1881657852,1288279647],[3197903022,3445242612,4199117116,788646974,3337296605,1672409445,504503469,1881657852],[3373711470,3197903022,3445242612,4199117116,527439296,3337296605,1672409445,504503469]]
def Gx:List UInt8:=[51,32,166,213,122,3,207,51,9,201,46,102,159,153,102,118,112,126,104,63,97,240,131,105,131,50,203,16,121,242,233,198]
theorem C6:ba (bc 2)=Gx:=(ky (m:=[67,1,2,67,1,2,128,0,0,0,0,0,0,0,0,0,0,0,0,0,0,0,0,0,0,0,0,0,0,0,0,0,0,0,0,0,0,0,0,0,0,0,0,0,0,0,0,0,0,0,0,0,0,0,0,0,0,0,0,0,0,0,0,48]) (w:=GU) (t:=GV) (by decide+kernel) rfl rfl rfl (by decide+kernel) (by decide+kernel)).trans (by decide+kernel)
def GO:List UInt32:=[1140917060,16991233,58720256,0,0,0,0,0,0,0,0,0,0,0,0,72,388182412,27739361,41042361,1257031990,1760247271,4256126745,4183122927,1483988035,526097337,2553421177,161039318,3055628671,2269313736,3088255367,178413635,3689017700,1049657886,3020784591,1633468929,1352163298,333438537,3297703059,1691286498,3542784866,3714428513,374239595,1660205554,4294149558,4056242316,4001770671,2479578727,2825521600,47514449,2606633742,1549601676,1978401328,2839736375,1346797053,2894866791,2061679664,1396136360,1125379689,3024278158,2249711822,1047373075,2990048713,2332048730,815665083]
def G0:List (List UInt32):=[[1074367377,1779033703,3144134277,1013904242,3704153574,1359893119,2600822924,528734635],[3176516285,1074367377,1779033703,3144134277,1695868930,3704153574,1359893119,2600822924],[26902674,3176516285,1074367377,1779033703,3882218862,1695868930,3704153574,1359893119],[1293634117,26902674,3176516285,1074367377,3340157221,3882218862,1695868930,3704153574],[2940876474,1293634117,26902674,3176516285,1978812471,3340157221,3882218862,1695868930],[3962731527,2940876474,1293634117,26902674,1704011504,1978812471,3340157221,3882218862],[4163118845,3962731527,2940876474,1293634117,970999910,1704011504,1978812471,3340157221],[23667932,4163118845,3962731527,2940876474,2296707300,970999910,1704011504,1978812471],[587437523,23667932,4163118845,3962731527,1745122613,2296707300,970999910,1704011504],[2355125510,587437523,23667932,4163118845,4016243276,1745122613,2296707300,970999910],[1576112430,2355125510,587437523,23667932,2321298403,4016243276,1745122613,2296707300],[2317307709,1576112430,2355125510,587437523,2782702691,2321298403,4016243276,1745122613],[2227224665,2317307709,1576112430,2355125510,3036382177,2782702691,2321298403,4016243276],[2484213650,2227224665,2317307709,1576112430,849560408,3036382177,2782702691,2321298403],[210113958,2484213650,2227224665,2317307709,2492919959,849560408,3036382177,2782702691],[1527116642,210113958,2484213650,2227224665,710652834,2492919959,849560408,3036382177],[3368503794,1527116642,210113958,2484213650,392414478,710652834,2492919959,849560408],[4167440128,3368503794,1527116642,210113958,1668316491,392414478,710652834,2492919959],[3852417662,4167440128,3368503794,1527116642,4221286321,1668316491,392414478,710652834],[4228943466,3852417662,4167440128,3368503794,1473662058,4221286321,1668316491,392414478],[2073985712,4228943466,3852417662,4167440128,3118810442,1473662058,4221286321,1668316491],[3750929690,2073985712,4228943466,3852417662,1760261098,3118810442,1473662058,4221286321],[136781122,3750929690,2073985712,4228943466,411931353,1760261098,3118810442,1473662058],[2595776544,136781122,3750929690,2073985712,1187373872,411931353,1760261098,3118810442],[2160957157,2595776544,136781122,3750929690,3685719794,1187373872,411931353,1760261098],[415342372,2160957157,2595776544,136781122,2388800008,3685719794,1187373872,411931353],[2167988794,415342372,2160957157,2595776544,4146737074,2388800008,3685719794,1187373872],[3327806631,2167988794,415342372,2160957157,2385920854,4146737074,2388800008,3685719794],[1508940369,3327806631,2167988794,415342372,1556816942,2385920854,4146737074,2388800008],[746713584,1508940369,3327806631,2167988794,1026234986,1556816942,2385920854,4146737074],[3878429258,746713584,1508940369,3327806631,2553107154,1026234986,1556816942,2385920854],[1786591995,3878429258,746713584,1508940369,2820782819,2553107154,1026234986,1556816942],[2317605531,1786591995,3878429258,746713584,2083999988,2820782819,2553107154,1026234986],[1069545557,2317605531,1786591995,3878429258,3369461210,2083999988,2820782819,2553107154],[106680318,1069545557,2317605531,1786591995,1352704089,3369461210,2083999988,2820782819],[2522343208,106680318,1069545557,2317605531,1631587852,1352704089,3369461210,2083999988],[1735625500,2522343208,106680318,1069545557,2548665615,1631587852,1352704089,3369461210],[1172465236,1735625500,2522343208,106680318,4030391975,2548665615,1631587852,1352704089],[278953827,1172465236,1735625500,2522343208,625246388,4030391975,2548665615,1631587852],[3800549903,278953827,1172465236,1735625500,1949313866,625246388,4030391975,2548665615],[222237638,3800549903,278953827,1172465236,2082035556,1949313866,625246388,4030391975],[2007279354,222237638,3800549903,278953827,3685678282,2082035556,1949313866,625246388],[3425814698,2007279354,222237638,3800549903,1015629818,3685678282,2082035556,1949313866],[1710021656,3425814698,2007279354,222237638,3385223849,1015629818,3685678282,2082035556],[464726823,1710021656,3425814698,2007279354,2021980220,3385223849,1015629818,3685678282],[1117196338,464726823,1710021656,3425814698,420570052,2021980220,3385223849,1015629818],[246283186,1117196338,464726823,1710021656,1236374124,420570052,2021980220,3385223849],[3567535223,246283186,1117196338,464726823,1174675876,1236374124,420570052,2021980220],[599506119,3567535223,246283186,1117196338,2973969487,1174675876,1236374124,420570052],[4174349155,599506119,3567535223,246283186,1955833916,2973969487,1174675876,1236374124],[2327326573,4174349155,599506119,3567535223,3449093489,1955833916,2973969487,1174675876],[2904652266,2327326573,4174349155,599506119,3716818634,3449093489,1955833916,2973969487],[1125555086,2904652266,2327326573,4174349155,3694038821,3716818634,3449093489,1955833916],[4158895903,1125555086,2904652266,2327326573,1319728953,3694038821,3716818634,3449093489],[3163540978,4158895903,1125555086,2904652266,2487817420,1319728953,3694038821,3716818634],[2468231903,3163540978,4158895903,1125555086,1228289851,2487817420,1319728953,3694038821],[1043680106,2468231903,3163540978,4158895903,2129379087,1228289851,2487817420,1319728953],[1013009554,1043680106,2468231903,3163540978,1949609007,2129379087,1228289851,2487817420],[433104357,1013009554,1043680106,2468231903,695152670,1949609007,2129379087,1228289851],[133114063,433104357,1013009554,1043680106,852533809,695152670,1949609007,2129379087],[4131030619,133114063,433104357,1013009554,3681409961,852533809,695152670,1949609007],[2667475899,4131030619,133114063,433104357,2652675044,3681409961,852533809,695152670],[696760596,2667475899,4131030619,133114063,682407608,2652675044,3681409961,852533809],[34514896,696760596,2667475899,4131030619,1863985830,682407608,2652675044,3681409961]]
def Gz:List UInt8:=[108,24,142,55,228,239,103,153,219,109,103,45,155,138,123,149,192,40,125,37,195,178,31,68,189,160,117,143,55,78,168,194]
theorem Dp:ba (bc 3)=Gz:=(ky (m:=[68,1,3,68,1,3,68,1,3,128,0,0,0,0,0,0,0,0,0,0,0,0,0,0,0,0,0,0,0,0,0,0,0,0,0,0,0,0,0,0,0,0,0,0,0,0,0,0,0,0,0,0,0,0,0,0,0,0,0,0,0,0,0,72]) (w:=GO) (t:=G0) (by decide+kernel) rfl rfl rfl (by decide+kernel) (by decide+kernel)).trans (by decide+kernel)
def GG:List UInt32:=[1157694533,17057025,71631108,2147483648,0,0,0,0,0,0,0,0,0,0,0,96,1482933424,1241608244,2954715344,370027548,475941205,3548908109,3985062550,1556051559,3290708721,101042917,2955280308,2022566917,327733686,958622402,2411765748,921434055,4167693370,1855320601,2671403633,2899406949,1444433080,4163654709,1829314888,3950801097,2680592831,1544625443,2074687057,3590621697,597181596,1505529371,458483992,3313405381,565098904,3924790625,2215728022,1892783026,2506497494,3831278732,2458352844,2613239268,3859052678,4120955187,3687966388,369149225,4122030787,798167293,2792361242,805199733]
def GQ:List (List UInt32):=[[1091144850,1779033703,3144134277,1013904242,3720931047,1359893119,2600822924,528734635],[3401082888,1091144850,1779033703,3144134277,3376122503,3720931047,1359893119,2600822924],[3716357130,3401082888,1091144850,1779033703,3147329954,3376122503,3720931047,1359893119],[527271158,3716357130,3401082888,1091144850,1688755943,3147329954,3376122503,3720931047],[3425570780,527271158,3716357130,3401082888,387337784,1688755943,3147329954,3376122503],[1328571049,3425570780,527271158,3716357130,1189555228,387337784,1688755943,3147329954],[3408161992,1328571049,3425570780,527271158,3530472897,1189555228,387337784,1688755943],[1942557634,3408161992,1328571049,3425570780,4275423411,3530472897,1189555228,387337784],[3870601216,1942557634,3408161992,1328571049,1091799453,4275423411,3530472897,1189555228],[1247752676,3870601216,1942557634,3408161992,1249986958,1091799453,4275423411,3530472897],[2005704911,1247752676,3870601216,1942557634,4267822126,1249986958,1091799453,4275423411],[4251862743,2005704911,1247752676,3870601216,561971277,4267822126,1249986958,1091799453],[2443340809,4251862743,2005704911,1247752676,2282346000,561971277,4267822126,1249986958],[1239795462,2443340809,4251862743,2005704911,285369284,2282346000,561971277,4267822126],[3153088120,1239795462,2443340809,4251862743,473923960,285369284,2282346000,561971277],[2041678935,3153088120,1239795462,2443340809,1094669875,473923960,285369284,2282346000],[1592306524,2041678935,3153088120,1239795462,4222768528,1094669875,473923960,285369284],[616800924,1592306524,2041678935,3153088120,46345821,4222768528,1094669875,473923960],[2388047650,616800924,1592306524,2041678935,3121192213,46345821,4222768528,1094669875],[4273952426,2388047650,616800924,1592306524,693168801,3121192213,46345821,4222768528],[2414662440,4273952426,2388047650,616800924,1213938736,693168801,3121192213,46345821],[3736708841,2414662440,4273952426,2388047650,1787463880,1213938736,693168801,3121192213],[1354243236,3736708841,2414662440,4273952426,1507181073,1787463880,1213938736,693168801],[595113329,1354243236,3736708841,2414662440,838951368,1507181073,1787463880,1213938736],[1795414298,595113329,1354243236,3736708841,2796881229,838951368,1507181073,1787463880],[442558204,1795414298,595113329,1354243236,946481345,2796881229,838951368,1507181073],[3828809881,442558204,1795414298,595113329,1454050548,946481345,2796881229,838951368],[1080107388,3828809881,442558204,1795414298,1475711047,1454050548,946481345,2796881229],[3475436133,1080107388,3828809881,442558204,1514795052,1475711047,1454050548,946481345],[1837673856,3475436133,1080107388,3828809881,1217667437,1514795052,1475711047,1454050548],[3257638147,1837673856,3475436133,1080107388,57324965,1217667437,1514795052,1475711047],[386850232,3257638147,1837673856,3475436133,3513010463,57324965,1217667437,1514795052],[2373373785,386850232,3257638147,1837673856,1109210362,3513010463,57324965,1217667437],[3915488159,2373373785,386850232,3257638147,219065777,1109210362,3513010463,57324965],[3820052636,3915488159,2373373785,386850232,2007813048,219065777,1109210362,3513010463],[4198244564,3820052636,3915488159,2373373785,776993997,2007813048,219065777,1109210362],[1661729329,4198244564,3820052636,3915488159,1017519794,776993997,2007813048,219065777],[3259548611,1661729329,4198244564,3820052636,567270255,1017519794,776993997,2007813048],[2065282662,3259548611,1661729329,4198244564,2940143218,567270255,1017519794,776993997],[661518022,2065282662,3259548611,1661729329,1936980095,2940143218,567270255,1017519794],[3662059444,661518022,2065282662,3259548611,1373060316,1936980095,2940143218,567270255],[864091437,3662059444,661518022,2065282662,3910296922,1373060316,1936980095,2940143218],[1681218179,864091437,3662059444,661518022,93127107,3910296922,1373060316,1936980095],[2679033829,1681218179,864091437,3662059444,2090560620,93127107,3910296922,1373060316],[435481691,2679033829,1681218179,864091437,412994425,2090560620,93127107,3910296922],[2440004148,435481691,2679033829,1681218179,807868360,412994425,2090560620,93127107],[1640009882,2440004148,435481691,2679033829,2685362932,807868360,412994425,2090560620],[1200042080,1640009882,2440004148,435481691,3060808838,2685362932,807868360,412994425],[1978906896,1200042080,1640009882,2440004148,3221136380,3060808838,2685362932,807868360],[3789036759,1978906896,1200042080,1640009882,4066963181,3221136380,3060808838,2685362932],[1148192741,3789036759,1978906896,1200042080,3248687549,4066963181,3221136380,3060808838],[2143515582,1148192741,3789036759,1978906896,3006320353,3248687549,4066963181,3221136380],[2284109871,2143515582,1148192741,3789036759,2289731133,3006320353,3248687549,4066963181],[2969166764,2284109871,2143515582,1148192741,3590057415,2289731133,3006320353,3248687549],[1012186034,2969166764,2284109871,2143515582,4044198402,3590057415,2289731133,3006320353],[382705631,1012186034,2969166764,2284109871,3719572279,4044198402,3590057415,2289731133],[1376333768,382705631,1012186034,2969166764,2686191209,3719572279,4044198402,3590057415],[3755781794,1376333768,382705631,1012186034,738776961,2686191209,3719572279,4044198402],[999002063,3755781794,1376333768,382705631,1891057029,738776961,2686191209,3719572279],[430163461,999002063,3755781794,1376333768,910537433,1891057029,738776961,2686191209],[2426673421,430163461,999002063,3755781794,3452539221,910537433,1891057029,738776961],[594512889,2426673421,430163461,999002063,2911303277,3452539221,910537433,1891057029],[3913270616,594512889,2426673421,430163461,1776725259,2911303277,3452539221,910537433],[3937322967,3913270616,594512889,2426673421,1938106743,1776725259,2911303277,3452539221]]
def GF:List UInt8:=[84,184,174,62,164,167,115,221,95,222,127,107,53,244,14,71,196,147,123,246,4,236,21,151,205,10,208,24,41,170,94,110]
theorem CL:ba (bc 4)=GF:=(ky (m:=[69,1,4,69,1,4,69,1,4,69,1,4,128,0,0,0,0,0,0,0,0,0,0,0,0,0,0,0,0,0,0,0,0,0,0,0,0,0,0,0,0,0,0,0,0,0,0,0,0,0,0,0,0,0,0,0,0,0,0,0,0,0,0,96]) (w:=GG) (t:=GQ) (by decide+kernel) rfl rfl rfl (by decide+kernel) (by decide+kernel)).trans (by decide+kernel)
def GX:List UInt32:=[1174472006,17122817,88473861,1174472064,0,0,0,0,0,0,0,0,0,0,0,120,2577655635,2350601076,3721923420,167302874,83002197,1907637238,297868991,876446517,950496787,1338589013,1690216822,3175514023,4081126744,29988691,3415685839,2143215247,2411765741,1178288788,2011265610,3498442124,2237012830,3124998028,1820871492,1626925787,2556965076,2044513611,450304145,780656460,3771677329,3404485060,1298046685,2821474260,2536625460,3503199596,4082429708,1962723328,545094747,2623036696,2798367542,3543923744,3282434516,3592258802,1041428831,3008631655,678229056,305282415,3000868737,3547768376]
def GI:List (List UInt32):=[[1107922323,1779033703,3144134277,1013904242,3737708520,1359893119,2600822924,528734635],[555264572,1107922323,1779033703,3144134277,1498394887,3737708520,1359893119,2600822924],[3854917243,555264572,1107922323,1779033703,68389883,1498394887,3737708520,1359893119],[1999072993,3854917243,555264572,1107922323,1615868138,68389883,1498394887,3737708520],[3935551999,1999072993,3854917243,555264572,270399930,1615868138,68389883,1498394887],[724912506,3935551999,1999072993,3854917243,2859092336,270399930,1615868138,68389883],[796201445,724912506,3935551999,1999072993,2512995085,2859092336,270399930,1615868138],[2062979530,796201445,724912506,3935551999,3056931648,2512995085,2859092336,270399930],[3939962445,2062979530,796201445,724912506,3746325557,3056931648,2512995085,2859092336],[188882617,3939962445,2062979530,796201445,1989981158,3746325557,3056931648,2512995085],[1705874349,188882617,3939962445,2062979530,1793740086,1989981158,3746325557,3056931648],[3945020464,1705874349,188882617,3939962445,2282009404,1793740086,1989981158,3746325557],[527303671,3945020464,1705874349,188882617,1398955530,2282009404,1793740086,1989981158],[1220875487,527303671,3945020464,1705874349,2221832179,1398955530,2282009404,1793740086],[3263204081,1220875487,527303671,3945020464,2083621739,2221832179,1398955530,2282009404],[2569529046,3263204081,1220875487,527303671,344075869,2083621739,2221832179,1398955530],[1021424452,2569529046,3263204081,1220875487,2221131126,344075869,2083621739,2221832179],[1844713340,1021424452,2569529046,3263204081,172158552,2221131126,344075869,2083621739],[3080109023,1844713340,1021424452,2569529046,3412980660,172158552,2221131126,344075869],[201567586,3080109023,1844713340,1021424452,4248794176,3412980660,172158552,2221131126],[2872749190,201567586,3080109023,1844713340,3554712791,4248794176,3412980660,172158552],[2834387455,2872749190,201567586,3080109023,1133040477,3554712791,4248794176,3412980660],[1562511574,2834387455,2872749190,201567586,3422431609,1133040477,3554712791,4248794176],[906792154,1562511574,2834387455,2872749190,1057292053,3422431609,1133040477,3554712791],[972620793,906792154,1562511574,2834387455,3484527639,1057292053,3422431609,1133040477],[1120155305,972620793,906792154,1562511574,4174713853,3484527639,1057292053,3422431609],[3138739286,1120155305,972620793,906792154,4031356851,4174713853,3484527639,1057292053],[769529145,3138739286,1120155305,972620793,252949959,4031356851,4174713853,3484527639],[1851641733,769529145,3138739286,1120155305,3784880188,252949959,4031356851,4174713853],[2579086735,1851641733,769529145,3138739286,1553891949,3784880188,252949959,4031356851],[3634367821,2579086735,1851641733,769529145,2029203278,1553891949,3784880188,252949959],[2608809179,3634367821,2579086735,1851641733,1412422486,2029203278,1553891949,3784880188],[3976489545,2608809179,3634367821,2579086735,2224605022,1412422486,2029203278,1553891949],[1020121636,3976489545,2608809179,3634367821,3300650597,2224605022,1412422486,2029203278],[1067613549,1020121636,3976489545,2608809179,2979743325,3300650597,2224605022,1412422486],[3629543176,1067613549,1020121636,3976489545,148660928,2979743325,3300650597,2224605022],[3195938740,3629543176,1067613549,1020121636,1456249025,148660928,2979743325,3300650597],[3147928308,3195938740,3629543176,1067613549,1330924807,1456249025,148660928,2979743325],[4162932925,3147928308,3195938740,3629543176,1044855575,1330924807,1456249025,148660928],[2707282164,4162932925,3147928308,3195938740,1089327747,1044855575,1330924807,1456249025],[511720407,2707282164,4162932925,3147928308,2336941121,1089327747,1044855575,1330924807],[2734734655,511720407,2707282164,4162932925,2359906480,2336941121,1089327747,1044855575],[185371910,2734734655,511720407,2707282164,1550014982,2359906480,2336941121,1089327747],[300620288,185371910,2734734655,511720407,3481326292,1550014982,2359906480,2336941121],[3468679402,300620288,185371910,2734734655,1915039260,3481326292,1550014982,2359906480],[3029113298,3468679402,300620288,185371910,3225654801,1915039260,3481326292,1550014982],[2026169738,3029113298,3468679402,300620288,2639270156,3225654801,1915039260,3481326292],[3303871904,2026169738,3029113298,3468679402,945192752,2639270156,3225654801,1915039260],[643798827,3303871904,2026169738,3029113298,3622238592,945192752,2639270156,3225654801],[4214868284,643798827,3303871904,2026169738,1013338549,3622238592,945192752,2639270156],[342733707,4214868284,643798827,3303871904,380087168,1013338549,3622238592,945192752],[16996030,342733707,4214868284,643798827,2682582357,380087168,1013338549,3622238592],[3237077793,16996030,342733707,4214868284,2638053597,2682582357,380087168,1013338549],[1768304600,3237077793,16996030,342733707,3045002533,2638053597,2682582357,380087168],[2218582915,1768304600,3237077793,16996030,1528925684,3045002533,2638053597,2682582357],[1052737880,2218582915,1768304600,3237077793,1890639230,1528925684,3045002533,2638053597],[3773763218,1052737880,2218582915,1768304600,2050414731,1890639230,1528925684,3045002533],[2998255097,3773763218,1052737880,2218582915,113629920,2050414731,1890639230,1528925684],[1467956937,2998255097,3773763218,1052737880,3546642523,113629920,2050414731,1890639230],[69021763,1467956937,2998255097,3773763218,4033814956,3546642523,113629920,2050414731],[171166681,69021763,1467956937,2998255097,2634497209,4033814956,3546642523,113629920],[1546963208,171166681,69021763,1467956937,893355256,2634497209,4033814956,3546642523],[2469774181,1546963208,171166681,69021763,1376994897,893355256,2634497209,4033814956],[1901195306,2469774181,1546963208,171166681,2991379945,1376994897,893355256,2634497209]]
def GA:List UInt8:=[219,91,214,145,78,157,113,234,152,163,188,122,175,131,193,19,3,91,40,104,237,24,174,221,84,195,94,163,248,232,9,210]
theorem CZ:ba (bc 5)=GA:=(ky (m:=[70,1,5,70,1,5,70,1,5,70,1,5,70,1,5,128,0,0,0,0,0,0,0,0,0,0,0,0,0,0,0,0,0,0,0,0,0,0,0,0,0,0,0,0,0,0,0,0,0,0,0,0,0,0,0,0,0,0,0,0,0,0,0,120]) (w:=GX) (t:=GI) (by decide+kernel) rfl rfl rfl (by decide+kernel) (by decide+kernel)).trans (by decide+kernel)
def Gd:List (List UInt8):=[Gw,Gv,Gx,Gz,GF,GA]
theorem qd{k:Nat}(h:k<6):ba (bc k)=Gd.getD k []:=by
 match k,h with
 |0,_=>exact CK
 |1,_=>exact D7
 |2,_=>exact C6
 |3,_=>exact Dp
 |4,_=>exact CL
 |5,_=>exact CZ
theorem BY:∀i<6,∀j<6,Gd.getD i []=Gd.getD j []→i=j:=by decide+kernel
theorem wu{i j:Nat}(hi:i<6)(hj:j<6)(h:ba (bc i)=ba (bc j)):i=j:=BY i hi j hj (by rw[←qd hi,←qd hj,h])
end Go.Hx
end
section
set_option maxRecDepth 20000
set_option maxHeartbeats 4000000
namespace Go.Proofs.YtmibdabdlgmafaaGreatDoor
open Go.Eng Go.Hx
theorem tR{k:Nat}(hk:k<6):fill [UInt8.ofNat (65+k),1,UInt8.ofNat k] (3*k)=bc k:=by
 match k,hk with
 |0,_=>decide
 |1,_=>decide
 |2,_=>decide
 |3,_=>decide
 |4,_=>decide
 |5,_=>decide
theorem ly{z:Int}{k:Nat}(h0:-9223372036854775808≤z∧z≤9223372036854775807)(hz:dR z 6=(k:Int))(hk:k<6):cf Tryz.prog 27 [.int .i64 z] [] [] (fun v_ X_ S_=>∃v,v_=v∧X_=[aG 5 1 v (3*k) (aQ (bc k))]∧S_=[]):=by
 refine aO (N:=15) Tryz.func27 rfl rfl (by simp) fun b=> ?_
 refine ah<|aj<|hy (fun _=>ab rfl)<|ai<|ag<|ah<|aj<|hy (fun _=>aa rfl)<| ?_
 refine hx (aq rfl Tryz.call16 (vB (by omega) (by omega) (by omega)) [] rfl [] rfl ?_)
 rintro _ _ _ ⟨rfl,rfl,rfl⟩
 rw[hz]
 refine hy (fun _=>ab rfl)<|ai<|al (ρ' :=[(3,_),(2,_),(0,_)]) ⟨rfl,rfl,rfl,trivial⟩<|ak (X' :=[]) (S' :=[]) (fun _ m=>m)<|ag<|ah<|aj<|hy (fun _=>aa rfl)<|hy (fun _=>yV (aN rfl rfl (bE (by omega) (by omega))) ((show Value.int .i64 ((65:Int)+(k:Int))= .int .i64 ((65+k:Nat):Int) by congr 1)))<|hy (fun _=>yV (bT rfl Tryz.underlying3 Tryz.underlying5 (gA (65+k))) ((show Value.int .u8 _=B8 (UInt8.ofNat (65+k))from rfl)))<|hy (fun _=>aa rfl)<|hy (fun _=>yV (bT rfl Tryz.underlying3 Tryz.underlying5 (gA k)) ((show Value.int .u8 _=B8 (UInt8.ofNat k)from rfl)))<| ?_
 refine hx (b4 Tryz.underlying27 eO rfl rfl rfl (by simp[Value.cells,B8]) (by decide) (by decide) (fun g11=> ?_))
 have hA_b11:0<3→(some (⟨g11,0,none⟩:Addr))≠none:=fun _ h=>by cases h
 refine hy (fun _=>aa rfl)<|hy (fun _=>yV (fk rfl rfl (bE (by omega) (by omega))) ((show Value.int .i64 ((3:Int)*(k:Int))= .int .i64 ((3*k:Nat):Int)from rfl)))<| ?_
 refine aU (fun w m=>m.bU 0 rfl (show _=aG 5 1 (.slice (some ⟨g11,0,none⟩) 3 3) 3 (aQ [UInt8.ofNat (65+k),1,UInt8.ofNat k])from rfl)) ?_
 refine hx (cI rfl Tryz.call101 (ES (show 3≤140737488351232 by decide) (show 3*k≤1000000 by omega) (l:=[UInt8.ofNat (65+k),1,UInt8.ofNat k])) [] rfl (.x 0 rfl .own .nil) ?_)
 rintro _ _ _ ⟨v,rfl,rfl,rfl⟩
 refine⟨rfl, ?_⟩
 refine aB (fun m=>(m.own 0 rfl).slice) ?_
 rintro⟨A_x,c_x,rfl,hc_x⟩
 refine aB (fun m=>(m.ord 0 rfl).2.1) fun hA_x=> ?_
 refine hy (fun _=>ab rfl)<|ai<|al (ρ' :=[(2,_),(3,_),(0,_)]) ⟨rfl,rfl,rfl,trivial⟩<|ak (X' :=[_,_]) (S' :=[]) (fun _ m=>m)<|ag<|aV<| ?_
 rw[tR hk]
 exact bh trivial rfl rfl [0] rfl [] rfl ⟨_,rfl,rfl,rfl⟩
theorem og{z:Int}{k:Nat}(h0:-9223372036854775808≤z∧z≤9223372036854775807)(hz:dR z 6=(k:Int))(hk:k<6):cf Tryz.prog 30 [.int .i64 z] [] [eM] (fun v_ X_ S_=>v_=(.agg (aQ (ba (bc k))).toArray)∧X_=[]∧S_=[]):=by
 have h32:(aQ (ba (bc k))).length=32:=by rw[ay,bj]
 refine aO (N:=6) Tryz.func30 rfl rfl (by simp) fun b=> ?_
 refine ah<|aj<| ?_
 refine hx (aP dQ (fun g2=> ?_))
 refine ai<|ak (X' :=[_]) (S' :=[_]) (fun _ m=>m)<|ag<|ah<|aj<|hy (fun _=>aa rfl)<| ?_
 refine hx (aq rfl Tryz.call27 (ly h0 hz hk) [] rfl [] rfl ?_)
 rintro _ _ _ ⟨v,rfl,rfl,rfl⟩
 refine aB (fun m=>(m.own 0 rfl).slice) ?_
 rintro⟨A_x,c_x,rfl,hc_x⟩
 refine aB (fun m=>(m.ord 0 rfl).2.1) fun hA_x=> ?_
 refine hx (cI rfl Tryz.call56 (pc (by omega)) [] rfl (.x 0 rfl .own .nil) ?_)
 rintro _ _ _ ⟨rfl,rfl,rfl⟩
 refine⟨rfl, ?_⟩
 refine cH (aI 1 rfl rfl rfl bp h32 aR rfl ?_)
 refine ai<|al (ρ' :=[(2,_),(0,_)]) ⟨rfl,rfl,trivial⟩<|ak (X' :=[_,_]) (S' :=[_]) (fun _ m=>m)<|ag<|aV<| ?_
 exact fg trivial rfl rfl cy bp h32 (fun m=>(m.aX 0 rfl).az) [] rfl [] rfl ⟨rfl,rfl,rfl⟩
end Go.Proofs.YtmibdabdlgmafaaGreatDoor
end
section
set_option maxRecDepth 20000
namespace Go.Proofs.YtmibdabdlgmafaaGreatDoor
open Go.Eng Go.Hx
theorem lK(d:RD):nV (bq d):=fun x hx=>by
 obtain⟨p,_,h⟩:=List.mem_filterMap.1 hx
 rw[←j7]at h
 exact(ew h).1
end Go.Proofs.YtmibdabdlgmafaaGreatDoor
end
section
set_option maxRecDepth 20000
set_option maxHeartbeats 4000000
namespace Go.Proofs.YtmibdabdlgmafaaGreatDoor
open Go.Eng Go.Hx
theorem lu(d:RD):(bq d).length≤d.seen.length:=by
 unfold bq
 have:=List.length_filterMap_le lW (d.seen.map (·.1))
 rwa [List.length_map]at this
end Go.Proofs.YtmibdabdlgmafaaGreatDoor
end
section
set_option maxRecDepth 20000
set_option maxHeartbeats 4000000
namespace Go.Proofs.YtmibdabdlgmafaaGreatDoor
open Go.Eng Go.Hx
theorem mw:∀(l1 l2:List (RD→RD×Int)) (d:RD),b6 (l1++l2) d=if(b6 l1 d).2≠0 then b6 l1 d else b6 l2 (b6 l1 d).1
 | [],l2,d=>by rw[if_neg (by show¬(0:Int)≠0;decide)];rfl
 |f::r,l2,d=>by
  rw[List.cons_append,b6,b6]
  by_cases h:(f d).2≠0
  ·rw[if_pos h,if_pos h,if_pos h]
  ·rw[if_neg h,if_neg h]
   exact mw r l2 (f d).1
end Go.Proofs.YtmibdabdlgmafaaGreatDoor
end
