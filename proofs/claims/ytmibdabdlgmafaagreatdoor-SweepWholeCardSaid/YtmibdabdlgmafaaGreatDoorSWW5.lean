/- Part. -/
import Derived.Test.YtmibdabdlgmafaaGreatDoorSWW4
import Derived.Test.YtmibdabdlgmafaaGreatDoorProg
import Derived.Conc.MuLib
import Derived.KernelRfl
set_option linter.all false
section
set_option maxRecDepth 20000
set_option maxHeartbeats 2000000
namespace Go.Proofs.YtmibdabdlgmafaaGreatDoor
open Go.Eng Go.Hx
def mv(s:Nat×Nat):List Value:=[.int .i64 (s.1:Nat),.int .i64 (s.2:Nat)]
theorem ni{s:Nat×Nat}:∀u∈mv s,u.oneCell' =true:=by
 intro u hu
 simp only[mv,List.mem_cons,List.not_mem_nil,or_false]at hu
 rcases hu with rfl|rfl <;> rfl
theorem Ay{A:Option Addr}{n c i:Nat}{l:List UInt8}(hn:n≤1000000000)(hl:l.length=n)(hi:i<n):cf Tryz.prog 218 [.slice A n c,.int .i64 (i:Nat)] [] [c6 1 A n (aQ l)] (fun v_ X_ S_=>v_=(.agg (mv (aV l i)).toArray)∧X_=[]∧S_=[]):=by
 refine aP (N:=67) Tryz.func218 rfl rfl (by simp) fun b=> ?_
 refine aZ (fun m=>gz (m.rd 0 rfl)) ?_
 rintro⟨hl_r,hA_r⟩
 refine ah<|aj<| ?_
 refine hx (aN qe (fun g4=> ?_))
 refine ai<|ak (X' :=[_]) (S' :=[_]) (fun _ m=>m)<|ag<|ah<|aj<| ?_
 refine hx (aN qe (fun g5=> ?_))
 refine ai<|ak (X' :=[_,_]) (S' :=[_]) (fun _ m=>m)<|ag<|ah<|ah<|aj<|hy (fun _=>aa rfl)<|hy (fun _=>bw rfl rfl)<|hy (fun _=>aa rfl)<| ?_
 refine eE 10 rfl (fun h0=> ?_) (fun h0=> ?_)
 ·exact absurd h0 (by omega)
 ·refine dQ (o:=_) rfl rfl rfl (fun _=>aa rfl)<|dQ (o:=_) rfl rfl rfl (fun _=>aa rfl)<|dQ (o:=_) rfl rfl rfl (fun _=>aX rfl Tryz.underlying27)<|dQ (o:=_) rfl rfl rfl (fun _=>jZ rfl rfl)<|hy (fun _=>bP rfl rfl)<|ai<|al (ρ' :=[(15,_),(5,_),(4,_),(0,_),(1,_)]) ⟨rfl,rfl,rfl,rfl,rfl,trivial⟩<|ag<| ?_
  refine dP rfl ((decide_eq_false (by omega))) ?_
  refine bB (fun w m=>m.bO 0 rfl (show _=aI g5 298 (mv (b8 l i 0))from rfl)) ?_
  refine bB (fun w m=>m.bO 1 rfl (show _=aI g4 298 (mv (0,0))from rfl)) ?_
  refine aD<|ag<|ah<|ah<|aj<|hy (fun _=>ab rfl)<|ai<|ag<|aK<| ?_
  refine dz (fun q=>2000-q) (fun q=>[(6,.int .i64 ((q+1:Nat):Int))]) (fun q=>[aI g5 298 (mv (b8 l i q))]) (fun q=>[]) (fun q=>q≤min i 1024) 0 [(15,_),(5,_),(4,_),(0,_),(1,_)] ⟨rfl,rfl,rfl,rfl,rfl,trivial⟩ [1] rfl [] rfl (Nat.zero_le _) ⟨rfl,trivial⟩ (fun q hI=> ?_)
  refine ah<|ah<|aj<|hy (fun _=>aa rfl)<|hy (fun _=>aa rfl)<|hy (fun _=>qJ rfl rfl)<|hy (fun _=>aa rfl)<| ?_
  refine eE 20 rfl (fun h1=> ?_) (fun h1=> ?_)
  ·refine dQ (o:=_) rfl rfl rfl (fun _=>aa rfl)<|dQ (o:=_) rfl rfl rfl (fun _=>qJ rfl rfl)<|hy (fun _=>bU rfl rfl)<|ai<|al (ρ' :=[(23,_),(6,_),(15,_),(5,_),(4,_),(0,_),(1,_)]) ⟨rfl,rfl,rfl,rfl,rfl,rfl,rfl,trivial⟩<|ag<| ?_
   refine cD rfl (fun h2=> ?_) (fun h2=> ?_)
   ·refine aD<|ag<|ah<|aK<|ah<|aj<|hy (fun _=>ab rfl)<|ai<|ag<|ah<|aK<| ?_
    refine dz (fun j=>131-j) (fun j=>[(7,.int .i64 (j:Nat))]) (fun j=>[]) (fun j=>[]) (fun j=>j≤131∧i+j≤n∧k9 l i (i-(q+1)) (131-j) j=lD l i (i-(q+1))) 0 [(23,_),(6,_),(15,_),(5,_),(4,_),(0,_),(1,_)] ⟨rfl,rfl,rfl,rfl,rfl,rfl,rfl,trivial⟩ [] rfl [] rfl (⟨by decide,by omega,rfl⟩) ⟨rfl,trivial⟩ (fun j ⟨hj,hij,hL⟩=> ?_)
    refine ah<|ah<|cN [] [(0,some 0),(1,some 0),(2,some 0),(3,some 0),(4,some 0),(5,some 0),(6,some 0),(7,some 0),(8,some 0),(9,some 0),(10,some 0),(11,some 0),(12,some 0),(13,some 0),(14,some 0),(15,some 0),(16,some 0),(17,some 0),(18,some 0),(19,some 0),(20,some 0),(21,some 0),(22,some 0),(23,some 0),(24,some 0),(25,some 0),(26,some 0)] (by kernel_rfl) (by kernel_rfl) rfl 99<|an (aa rfl)<|an (aa rfl)<|an (aM rfl rfl (bD (by omega) (by omega)))<|an (aa rfl)<|an (aX rfl Tryz.underlying27)<|an (bw rfl rfl)<|an (aa rfl)<| ?_
    refine kN 32 rfl (fun g1=> ?_) (fun g1=> ?_)
    ·refine bG (o:=_) rfl rfl rfl (aa rfl)<|bG (o:=_) rfl rfl rfl (bw rfl rfl)<|an (bU rfl rfl)<|an (aa rfl)<| ?_
     refine kN 36 rfl (fun g2=> ?_) (fun g2=> ?_)
     ·refine bG (o:=_) rfl rfl rfl (aa rfl)<|bG (o:=_) rfl rfl rfl (aa rfl)<|bG (o:=_) rfl rfl rfl (aa rfl)<|bG (o:=_) rfl rfl rfl (aM rfl rfl (bD (by omega) (by omega)))<|bG (o:=_) rfl rfl rfl (aO rfl rfl Tryz.underlying27 dZ hA_r (show((i+j:Nat):Int)=_ by omega) (by omega))<|lR (o:=_) rfl rfl rfl (fun m=>aw rfl jt ((m.rd 0 rfl).cell (bI (by omega))))<|bG (o:=_) rfl rfl rfl (aa rfl)<|bG (o:=_) rfl rfl rfl (aa rfl)<|bG (o:=_) rfl rfl rfl (aa rfl)<|bG (o:=_) rfl rfl rfl (aM rfl rfl (bD (by omega) (by omega)))<|bG (o:=_) rfl rfl rfl (aa rfl)<|bG (o:=_) rfl rfl rfl (yV (ck rfl rfl (bD (by omega) (by omega))) ((show Value.int .i64 ((i:Int)+(j:Int)-((q+1:Nat):Int))= .int .i64 ((i-(q+1)+j:Nat):Int) by congr 1;omega)))<|bG (o:=_) rfl rfl rfl (aO rfl rfl Tryz.underlying27 dZ hA_r rfl (by omega))<|lR (o:=_) rfl rfl rfl (fun m=>aw rfl jt ((m.rd 0 rfl).cell (bI (by omega))))<|bG (o:=_) rfl rfl rfl (cH rfl rfl)<|an (bU rfl rfl)<|bz<|al (ρ' :=[(52,_),(7,_),(23,_),(6,_),(15,_),(5,_),(4,_),(0,_),(1,_)]) ⟨rfl,rfl,rfl,rfl,rfl,rfl,rfl,rfl,rfl,trivial⟩<|ag<| ?_
      refine cD rfl (fun g3=> ?_) (fun g3=> ?_)
      ·have e3:l.getD (i+j) 0=l.getD (i-(q+1)+j) 0:=UInt8.toNat_inj.1 (by omega)
       rw[gN (by omega) ⟨by omega,e3⟩]at hL
       refine aD<|ag<|aK<|aj<|hy (fun _=>aa rfl)<|hy (fun _=>aM rfl rfl (bD (by omega) (by omega)))<|hy (fun _=>ab rfl)<|ai<|al (ρ' :=[(7,_),(52,_),(23,_),(6,_),(15,_),(5,_),(4,_),(0,_),(1,_)]) ⟨rfl,rfl,rfl,rfl,rfl,rfl,rfl,rfl,rfl,trivial⟩<|aT<| ?_
       refine cM (j+1) ⟨rfl,rfl,rfl,rfl,rfl,rfl,rfl,rfl,trivial⟩ [0,0] rfl [0] rfl (⟨by omega,by omega,by rw[←hL];rfl⟩) (by omega)
      ·refine bK<|ao<|ao<|aC<|ag<|ah<|aj<|hy (fun _=>aa rfl)<|hy (fun _=>cR rfl rfl)<|hy (fun _=>aa rfl)<| ?_
       have hL2:j=lD l i (i-(q+1)):=(by rw[←hL,kX (fun e=>g3 (by rw[e.2]))])
       subst hL2
       refine eE 57 rfl (fun h3=> ?_) (fun h3=> ?_)
       ·refine dQ (o:=_) rfl rfl rfl (fun _=>aa rfl)<|dQ (o:=_) rfl rfl rfl (fun _=>aL rfl k4 (by decide))<|dQ (o:=_) rfl rfl rfl (fun m=>aw rfl fE (aA (m.aY 0 rfl) rfl))<|dQ (o:=_) rfl rfl rfl (fun _=>cR rfl rfl)<|hy (fun _=>bU rfl rfl)<|ai<|al (ρ' :=[(62,_),(52,_),(7,_),(23,_),(6,_),(15,_),(5,_),(4,_),(0,_),(1,_)]) ⟨rfl,rfl,rfl,rfl,rfl,rfl,rfl,rfl,rfl,rfl,trivial⟩<|ag<| ?_
        refine cD rfl (fun h4=> ?_) (fun h4=> ?_)
        ·refine aj<|hy (fun _=>aa rfl)<|hy (fun _=>aa rfl)<|hy (fun _=>cn qe rfl rfl (by kernel_rfl) (.cons (o:=0) (sz:=1) (by kernel_rfl) rfl rfl (Nat.le_of_ble_eq_true rfl) (.cons (o:=1) (sz:=1) (by kernel_rfl) rfl rfl (Nat.le_of_ble_eq_true rfl) .nil)))<| ?_
         refine cI (aJ 0 rfl rfl rfl ll rfl (ni (s:=(lD l i (i-(q+1)),q+1))) rfl ?_)
         have hst:mv (lD l i (i-(q+1)),q+1)=mv (b8 l i (q+1)):=by
          rw[dC]
          unfold gg
          rw[if_pos ⟨by omega,by omega⟩]
         refine aR (fun w m=>m.bO 0 rfl (show _=aI g5 298 (mv (b8 l i (q+1)))from congrArg (aI g5 _) hst)) ?_
         refine ai<|al (ρ' :=[(62,_),(52,_),(7,_),(23,_),(6,_),(15,_),(5,_),(4,_),(0,_),(1,_)]) ⟨rfl,rfl,rfl,rfl,rfl,rfl,rfl,rfl,rfl,rfl,trivial⟩<|ak (X' :=[_,_]) (S' :=[_]) (fun _ m=>m)<|aT<|ag<|aj<|hy (fun _=>aa rfl)<|hy (fun _=>aM rfl rfl (bD (by omega) (by omega)))<|hy (fun _=>ab rfl)<|ai<|al (ρ' :=[(6,_),(62,_),(52,_),(7,_),(23,_),(15,_),(5,_),(4,_),(0,_),(1,_)]) ⟨rfl,rfl,rfl,rfl,rfl,rfl,rfl,rfl,rfl,rfl,trivial⟩<| ?_
         refine cM (q+1) ⟨rfl,rfl,rfl,rfl,rfl,rfl,trivial⟩ [0,0] rfl [0] rfl ((by omega)) (by omega)
        ·have hst:mv (b8 l i q)=mv (b8 l i (q+1)):=by
          rw[dC]
          unfold gg
          rw[if_neg (fun h=>by omega)]
         refine aD<|aT<|ag<|aj<|hy (fun _=>aa rfl)<|hy (fun _=>aM rfl rfl (bD (by omega) (by omega)))<|hy (fun _=>ab rfl)<|ai<|al (ρ' :=[(6,_),(62,_),(52,_),(7,_),(23,_),(15,_),(5,_),(4,_),(0,_),(1,_)]) ⟨rfl,rfl,rfl,rfl,rfl,rfl,rfl,rfl,rfl,rfl,trivial⟩<| ?_
         refine ak (fun w m=>m.bO 0 rfl (show _=aI g5 298 (mv (b8 l i (q+1)))from congrArg (aI g5 _) hst)) ?_
         refine cM (q+1) ⟨rfl,rfl,rfl,rfl,rfl,rfl,trivial⟩ [0,0] rfl [0] rfl ((by omega)) (by omega)
       ·have hst:mv (b8 l i q)=mv (b8 l i (q+1)):=by
         rw[dC]
         unfold gg
         rw[if_neg (fun h=>by omega)]
        refine bx rfl rfl rfl (by decide)<|bx rfl rfl rfl (by decide)<|bx rfl rfl rfl (by decide)<|bx rfl rfl rfl (by decide)<|hy (fun _=>bP rfl rfl)<|ai<|al (ρ' :=[(62,_),(52,_),(7,_),(23,_),(6,_),(15,_),(5,_),(4,_),(0,_),(1,_)]) ⟨rfl,rfl,rfl,rfl,rfl,rfl,rfl,rfl,rfl,rfl,trivial⟩<|ag<| ?_
        refine dP rfl (rfl) ?_
        refine aD<|aT<|ag<|aj<|hy (fun _=>aa rfl)<|hy (fun _=>aM rfl rfl (bD (by omega) (by omega)))<|hy (fun _=>ab rfl)<|ai<|al (ρ' :=[(6,_),(62,_),(52,_),(7,_),(23,_),(15,_),(5,_),(4,_),(0,_),(1,_)]) ⟨rfl,rfl,rfl,rfl,rfl,rfl,rfl,rfl,rfl,rfl,trivial⟩<| ?_
        refine ak (fun w m=>m.bO 0 rfl (show _=aI g5 298 (mv (b8 l i (q+1)))from congrArg (aI g5 _) hst)) ?_
        refine cM (q+1) ⟨rfl,rfl,rfl,rfl,rfl,rfl,trivial⟩ [0,0] rfl [0] rfl ((by omega)) (by omega)
     ·refine a7 rfl rfl rfl (by decide)<|a7 rfl rfl rfl (by decide)<|a7 rfl rfl rfl (by decide)<|a7 rfl rfl rfl (by decide)<|a7 rfl rfl rfl (by decide)<|a7 rfl rfl rfl (by decide)<|a7 rfl rfl rfl (by decide)<|a7 rfl rfl rfl (by decide)<|a7 rfl rfl rfl (by decide)<|a7 rfl rfl rfl (by decide)<|a7 rfl rfl rfl (by decide)<|a7 rfl rfl rfl (by decide)<|a7 rfl rfl rfl (by decide)<|a7 rfl rfl rfl (by decide)<|a7 rfl rfl rfl (by decide)<|an (bP rfl rfl)<|bz<|al (ρ' :=[(52,_),(7,_),(23,_),(6,_),(15,_),(5,_),(4,_),(0,_),(1,_)]) ⟨rfl,rfl,rfl,rfl,rfl,rfl,rfl,rfl,rfl,trivial⟩<|ag<| ?_
      refine dP rfl (rfl) ?_
      refine bK<|ao<|ao<|aC<|ag<|ah<|aj<|hy (fun _=>aa rfl)<|hy (fun _=>cR rfl rfl)<|hy (fun _=>aa rfl)<| ?_
      have hL2:j=lD l i (i-(q+1)):=(by rw[←hL,show 131-j=0 by omega];rfl)
      subst hL2
      refine eE 57 rfl (fun h3=> ?_) (fun h3=> ?_)
      ·refine dQ (o:=_) rfl rfl rfl (fun _=>aa rfl)<|dQ (o:=_) rfl rfl rfl (fun _=>aL rfl k4 (by decide))<|dQ (o:=_) rfl rfl rfl (fun m=>aw rfl fE (aA (m.aY 0 rfl) rfl))<|dQ (o:=_) rfl rfl rfl (fun _=>cR rfl rfl)<|hy (fun _=>bU rfl rfl)<|ai<|al (ρ' :=[(62,_),(52,_),(7,_),(23,_),(6,_),(15,_),(5,_),(4,_),(0,_),(1,_)]) ⟨rfl,rfl,rfl,rfl,rfl,rfl,rfl,rfl,rfl,rfl,trivial⟩<|ag<| ?_
       refine cD rfl (fun h4=> ?_) (fun h4=> ?_)
       ·refine aj<|hy (fun _=>aa rfl)<|hy (fun _=>aa rfl)<|hy (fun _=>cn qe rfl rfl (by kernel_rfl) (.cons (o:=0) (sz:=1) (by kernel_rfl) rfl rfl (Nat.le_of_ble_eq_true rfl) (.cons (o:=1) (sz:=1) (by kernel_rfl) rfl rfl (Nat.le_of_ble_eq_true rfl) .nil)))<| ?_
        refine cI (aJ 0 rfl rfl rfl ll rfl (ni (s:=(lD l i (i-(q+1)),q+1))) rfl ?_)
        have hst:mv (lD l i (i-(q+1)),q+1)=mv (b8 l i (q+1)):=by
         rw[dC]
         unfold gg
         rw[if_pos ⟨by omega,by omega⟩]
        refine aR (fun w m=>m.bO 0 rfl (show _=aI g5 298 (mv (b8 l i (q+1)))from congrArg (aI g5 _) hst)) ?_
        refine ai<|al (ρ' :=[(62,_),(52,_),(7,_),(23,_),(6,_),(15,_),(5,_),(4,_),(0,_),(1,_)]) ⟨rfl,rfl,rfl,rfl,rfl,rfl,rfl,rfl,rfl,rfl,trivial⟩<|ak (X' :=[_,_]) (S' :=[_]) (fun _ m=>m)<|aT<|ag<|aj<|hy (fun _=>aa rfl)<|hy (fun _=>aM rfl rfl (bD (by omega) (by omega)))<|hy (fun _=>ab rfl)<|ai<|al (ρ' :=[(6,_),(62,_),(52,_),(7,_),(23,_),(15,_),(5,_),(4,_),(0,_),(1,_)]) ⟨rfl,rfl,rfl,rfl,rfl,rfl,rfl,rfl,rfl,rfl,trivial⟩<| ?_
        refine cM (q+1) ⟨rfl,rfl,rfl,rfl,rfl,rfl,trivial⟩ [0,0] rfl [0] rfl ((by omega)) (by omega)
       ·have hst:mv (b8 l i q)=mv (b8 l i (q+1)):=by
         rw[dC]
         unfold gg
         rw[if_neg (fun h=>by omega)]
        refine aD<|aT<|ag<|aj<|hy (fun _=>aa rfl)<|hy (fun _=>aM rfl rfl (bD (by omega) (by omega)))<|hy (fun _=>ab rfl)<|ai<|al (ρ' :=[(6,_),(62,_),(52,_),(7,_),(23,_),(15,_),(5,_),(4,_),(0,_),(1,_)]) ⟨rfl,rfl,rfl,rfl,rfl,rfl,rfl,rfl,rfl,rfl,trivial⟩<| ?_
        refine ak (fun w m=>m.bO 0 rfl (show _=aI g5 298 (mv (b8 l i (q+1)))from congrArg (aI g5 _) hst)) ?_
        refine cM (q+1) ⟨rfl,rfl,rfl,rfl,rfl,rfl,trivial⟩ [0,0] rfl [0] rfl ((by omega)) (by omega)
      ·have hst:mv (b8 l i q)=mv (b8 l i (q+1)):=by
        rw[dC]
        unfold gg
        rw[if_neg (fun h=>by omega)]
       refine bx rfl rfl rfl (by decide)<|bx rfl rfl rfl (by decide)<|bx rfl rfl rfl (by decide)<|bx rfl rfl rfl (by decide)<|hy (fun _=>bP rfl rfl)<|ai<|al (ρ' :=[(62,_),(52,_),(7,_),(23,_),(6,_),(15,_),(5,_),(4,_),(0,_),(1,_)]) ⟨rfl,rfl,rfl,rfl,rfl,rfl,rfl,rfl,rfl,rfl,trivial⟩<|ag<| ?_
       refine dP rfl (rfl) ?_
       refine aD<|aT<|ag<|aj<|hy (fun _=>aa rfl)<|hy (fun _=>aM rfl rfl (bD (by omega) (by omega)))<|hy (fun _=>ab rfl)<|ai<|al (ρ' :=[(6,_),(62,_),(52,_),(7,_),(23,_),(15,_),(5,_),(4,_),(0,_),(1,_)]) ⟨rfl,rfl,rfl,rfl,rfl,rfl,rfl,rfl,rfl,rfl,trivial⟩<| ?_
       refine ak (fun w m=>m.bO 0 rfl (show _=aI g5 298 (mv (b8 l i (q+1)))from congrArg (aI g5 _) hst)) ?_
       refine cM (q+1) ⟨rfl,rfl,rfl,rfl,rfl,rfl,trivial⟩ [0,0] rfl [0] rfl ((by omega)) (by omega)
    ·refine a7 rfl rfl rfl (by decide)<|a7 rfl rfl rfl (by decide)<|an (bP rfl rfl)<|an (aa rfl)<| ?_
     refine a7 rfl rfl rfl (by decide)<|a7 rfl rfl rfl (by decide)<|a7 rfl rfl rfl (by decide)<|a7 rfl rfl rfl (by decide)<|a7 rfl rfl rfl (by decide)<|a7 rfl rfl rfl (by decide)<|a7 rfl rfl rfl (by decide)<|a7 rfl rfl rfl (by decide)<|a7 rfl rfl rfl (by decide)<|a7 rfl rfl rfl (by decide)<|a7 rfl rfl rfl (by decide)<|a7 rfl rfl rfl (by decide)<|a7 rfl rfl rfl (by decide)<|a7 rfl rfl rfl (by decide)<|a7 rfl rfl rfl (by decide)<|an (bP rfl rfl)<|bz<|al (ρ' :=[(52,_),(7,_),(23,_),(6,_),(15,_),(5,_),(4,_),(0,_),(1,_)]) ⟨rfl,rfl,rfl,rfl,rfl,rfl,rfl,rfl,rfl,trivial⟩<|ag<| ?_
     refine dP rfl (rfl) ?_
     refine bK<|ao<|ao<|aC<|ag<|ah<|aj<|hy (fun _=>aa rfl)<|hy (fun _=>cR rfl rfl)<|hy (fun _=>aa rfl)<| ?_
     have hL2:j=lD l i (i-(q+1)):=(by rw[←hL,kX (fun e=>g1 (by omega))])
     subst hL2
     refine eE 57 rfl (fun h3=> ?_) (fun h3=> ?_)
     ·refine dQ (o:=_) rfl rfl rfl (fun _=>aa rfl)<|dQ (o:=_) rfl rfl rfl (fun _=>aL rfl k4 (by decide))<|dQ (o:=_) rfl rfl rfl (fun m=>aw rfl fE (aA (m.aY 0 rfl) rfl))<|dQ (o:=_) rfl rfl rfl (fun _=>cR rfl rfl)<|hy (fun _=>bU rfl rfl)<|ai<|al (ρ' :=[(62,_),(52,_),(7,_),(23,_),(6,_),(15,_),(5,_),(4,_),(0,_),(1,_)]) ⟨rfl,rfl,rfl,rfl,rfl,rfl,rfl,rfl,rfl,rfl,trivial⟩<|ag<| ?_
      refine cD rfl (fun h4=> ?_) (fun h4=> ?_)
      ·refine aj<|hy (fun _=>aa rfl)<|hy (fun _=>aa rfl)<|hy (fun _=>cn qe rfl rfl (by kernel_rfl) (.cons (o:=0) (sz:=1) (by kernel_rfl) rfl rfl (Nat.le_of_ble_eq_true rfl) (.cons (o:=1) (sz:=1) (by kernel_rfl) rfl rfl (Nat.le_of_ble_eq_true rfl) .nil)))<| ?_
       refine cI (aJ 0 rfl rfl rfl ll rfl (ni (s:=(lD l i (i-(q+1)),q+1))) rfl ?_)
       have hst:mv (lD l i (i-(q+1)),q+1)=mv (b8 l i (q+1)):=by
        rw[dC]
        unfold gg
        rw[if_pos ⟨by omega,by omega⟩]
       refine aR (fun w m=>m.bO 0 rfl (show _=aI g5 298 (mv (b8 l i (q+1)))from congrArg (aI g5 _) hst)) ?_
       refine ai<|al (ρ' :=[(62,_),(52,_),(7,_),(23,_),(6,_),(15,_),(5,_),(4,_),(0,_),(1,_)]) ⟨rfl,rfl,rfl,rfl,rfl,rfl,rfl,rfl,rfl,rfl,trivial⟩<|ak (X' :=[_,_]) (S' :=[_]) (fun _ m=>m)<|aT<|ag<|aj<|hy (fun _=>aa rfl)<|hy (fun _=>aM rfl rfl (bD (by omega) (by omega)))<|hy (fun _=>ab rfl)<|ai<|al (ρ' :=[(6,_),(62,_),(52,_),(7,_),(23,_),(15,_),(5,_),(4,_),(0,_),(1,_)]) ⟨rfl,rfl,rfl,rfl,rfl,rfl,rfl,rfl,rfl,rfl,trivial⟩<| ?_
       refine cM (q+1) ⟨rfl,rfl,rfl,rfl,rfl,rfl,trivial⟩ [0,0] rfl [0] rfl ((by omega)) (by omega)
      ·have hst:mv (b8 l i q)=mv (b8 l i (q+1)):=by
        rw[dC]
        unfold gg
        rw[if_neg (fun h=>by omega)]
       refine aD<|aT<|ag<|aj<|hy (fun _=>aa rfl)<|hy (fun _=>aM rfl rfl (bD (by omega) (by omega)))<|hy (fun _=>ab rfl)<|ai<|al (ρ' :=[(6,_),(62,_),(52,_),(7,_),(23,_),(15,_),(5,_),(4,_),(0,_),(1,_)]) ⟨rfl,rfl,rfl,rfl,rfl,rfl,rfl,rfl,rfl,rfl,trivial⟩<| ?_
       refine ak (fun w m=>m.bO 0 rfl (show _=aI g5 298 (mv (b8 l i (q+1)))from congrArg (aI g5 _) hst)) ?_
       refine cM (q+1) ⟨rfl,rfl,rfl,rfl,rfl,rfl,trivial⟩ [0,0] rfl [0] rfl ((by omega)) (by omega)
     ·have hst:mv (b8 l i q)=mv (b8 l i (q+1)):=by
       rw[dC]
       unfold gg
       rw[if_neg (fun h=>by omega)]
      refine bx rfl rfl rfl (by decide)<|bx rfl rfl rfl (by decide)<|bx rfl rfl rfl (by decide)<|bx rfl rfl rfl (by decide)<|hy (fun _=>bP rfl rfl)<|ai<|al (ρ' :=[(62,_),(52,_),(7,_),(23,_),(6,_),(15,_),(5,_),(4,_),(0,_),(1,_)]) ⟨rfl,rfl,rfl,rfl,rfl,rfl,rfl,rfl,rfl,rfl,trivial⟩<|ag<| ?_
      refine dP rfl (rfl) ?_
      refine aD<|aT<|ag<|aj<|hy (fun _=>aa rfl)<|hy (fun _=>aM rfl rfl (bD (by omega) (by omega)))<|hy (fun _=>ab rfl)<|ai<|al (ρ' :=[(6,_),(62,_),(52,_),(7,_),(23,_),(15,_),(5,_),(4,_),(0,_),(1,_)]) ⟨rfl,rfl,rfl,rfl,rfl,rfl,rfl,rfl,rfl,rfl,trivial⟩<| ?_
      refine ak (fun w m=>m.bO 0 rfl (show _=aI g5 298 (mv (b8 l i (q+1)))from congrArg (aI g5 _) hst)) ?_
      refine cM (q+1) ⟨rfl,rfl,rfl,rfl,rfl,rfl,trivial⟩ [0,0] rfl [0] rfl ((by omega)) (by omega)
   ·have hq:q=min i 1024:=by omega
    subst hq
    refine bK<|ao<|ao<|aC<|ag<|ah<|aj<|hy (fun m=>a6 rfl vU ll rfl ((m.aY 0 rfl).ay))<| ?_
    refine cI (aJ 1 rfl rfl rfl ll rfl ni rfl ?_)
    refine ai<|al (ρ' :=[(23,_),(6,_),(15,_),(5,_),(4,_),(0,_),(1,_)]) ⟨rfl,rfl,rfl,rfl,rfl,rfl,rfl,trivial⟩<|ak (X' :=[_,_]) (S' :=[_]) (fun _ m=>m)<|ag<|aU<| ?_
    exact fe trivial rfl rfl vU ll rfl (fun m=>(m.aY 0 rfl).ay) [] rfl [] rfl ⟨rfl,rfl,rfl⟩
  ·refine bx rfl rfl rfl (by decide)<|bx rfl rfl rfl (by decide)<|hy (fun _=>bP rfl rfl)<|ai<|al (ρ' :=[(23,_),(6,_),(15,_),(5,_),(4,_),(0,_),(1,_)]) ⟨rfl,rfl,rfl,rfl,rfl,rfl,rfl,trivial⟩<|ag<| ?_
   refine dP rfl (rfl) ?_
   have hq:q=min i 1024:=by omega
   subst hq
   refine bK<|ao<|ao<|aC<|ag<|ah<|aj<|hy (fun m=>a6 rfl vU ll rfl ((m.aY 0 rfl).ay))<| ?_
   refine cI (aJ 1 rfl rfl rfl ll rfl ni rfl ?_)
   refine ai<|al (ρ' :=[(23,_),(6,_),(15,_),(5,_),(4,_),(0,_),(1,_)]) ⟨rfl,rfl,rfl,rfl,rfl,rfl,rfl,trivial⟩<|ak (X' :=[_,_]) (S' :=[_]) (fun _ m=>m)<|ag<|aU<| ?_
   exact fe trivial rfl rfl vU ll rfl (fun m=>(m.aY 0 rfl).ay) [] rfl [] rfl ⟨rfl,rfl,rfl⟩
theorem CG{A:Option Addr}{n c:Nat}{l:List UInt8}(hc:n≤c)(hn:n≤500000000)(hl:l.length=n):cf Tryz.prog 219 [.slice A n c] [] [c6 1 A n (aQ l)] (fun v_ X_ S_=>∃v,v_=v∧X_=[aG 5 1 v (ej l).length (aQ (ej l))]∧S_=[]):=by
 refine aP (N:=31) Tryz.func219 rfl rfl (by simp) fun b=> ?_
 refine aZ (fun m=>gz (m.rd 0 rfl)) ?_
 rintro⟨hl_r,hA_r⟩
 refine ah<|aj<|hy (fun _=>ab rfl)<|ai<|ag<|ah<|aj<|hy (fun _=>ab rfl)<|ai<|ag<|ah<|ah<|aj<|hy (fun _=>ab rfl)<|ai<|ag<|aK<| ?_
 refine bB (fun w m=>m.dx (r' :=aG 5 1 (.slice none 0 0) 0 []) (.refl _ _) (Own.nil _ _ _ _) (fun k hk=>hk.elim)) ?_
 refine kr (fun i o A3 c3=>n-i) (fun i o A3 c3=>[(3,.slice A3 o.length c3),(4,.int .i64 (i:Nat))]) (fun i o A3 c3=>[aG 5 1 (.slice A3 o.length c3) o.length (aQ o)]) (fun i o A3 c3=>[]) (fun i o A3 c3=>i≤n+128∧o.length≤2*i∧o++ej (l.drop i)=ej l) 0 [] none 0 [(2,_),(0,_)] ⟨rfl,rfl,trivial⟩ [0] rfl [] rfl (⟨by omega,by decide,rfl⟩) ⟨rfl,rfl,trivial⟩ (fun i o A3 c3 ⟨hin,hon,hE⟩=> ?_)
 refine ah<|ah<|aj<|hy (fun _=>aa rfl)<|hy (fun _=>aa rfl)<|hy (fun _=>aX rfl Tryz.underlying27)<|hy (fun _=>bw rfl rfl)<|ai<|al (ρ' :=[(9,_),(3,_),(4,_),(2,_),(0,_)]) ⟨rfl,rfl,rfl,rfl,rfl,trivial⟩<|ag<| ?_
 refine cD rfl (fun hi=> ?_) (fun hi=> ?_)
 ·obtain⟨k,hk⟩:∃k,k=min (n-i) 128:=⟨_,rfl⟩
  have hki:1≤k∧k≤128∧i+k≤n:=by omega
  have hdl:(l.drop i).length=n-i:=by rw[List.length_drop,hl]
  have hne:l.drop i≠ []:=fun e=>by rw[e]at hdl;simp at hdl;omega
  have htk:(l.drop i).take 128=(l.drop i).take k:=by
   rcases Nat.lt_or_ge (n-i) 128 with h|h
   ·rw[List.take_of_length_le (by omega),List.take_of_length_le (by omega)]
   ·rw[show k=128 by omega]
  rw[kZ hne,hdl,←hk,htk,List.drop_drop]at hE
  refine bB (fun w m=>m.j6 0 rfl (View.sub (n:=n) (c:=c) (k:=i) (m:=k) (by omega) (by omega))) ?_
  refine aZ (fun m=>gz (m.rd 0 rfl)) ?_
  rintro⟨hl_p,hA_p⟩
  refine aD<|ag<|ah<|aK<|ah<|aj<|hy (fun _=>aa rfl)<|hy (fun _=>aa rfl)<|hy (fun _=>aa rfl)<|hy (fun _=>aM rfl rfl (bD (by omega) (by omega)))<|hy (fun _=>aa rfl)<|hy (fun _=>aX rfl Tryz.underlying27)<|hy (fun _=>yV (yI rfl rfl) ((show Value.int .i64 _= .int .i64 ((i+k:Nat):Int) by congr 1;omega)))<|hy (fun _=>yV (ey rfl rfl rfl Tryz.underlying27 dZ rfl rfl (by omega) (by omega)) ((show Value.slice (if c=i then A else A.map (·.add (i*1))) (i+k-i) (c-i)= .slice (if c=i then A else A.map (·.add (i*1))) k (c-i) by congr 1;omega)))<|hy (fun _=>ab rfl)<|ai<|al (ρ' :=[(5,_),(9,_),(3,_),(4,_),(2,_),(0,_)]) ⟨rfl,rfl,rfl,rfl,rfl,rfl,trivial⟩<|ag<|ah<|aj<|hy (fun _=>aa rfl)<|hy (fun _=>aa rfl)<|hy (fun _=>aX rfl Tryz.underlying27)<|hy (fun _=>yV (ck rfl rfl (bD (by omega) (by omega))) ((show Value.int .i64 ((k:Int)-1)= .int .i64 ((k-1:Nat):Int) by congr 1;omega)))<|hy (fun _=>yV (bT rfl Tryz.underlying3 Tryz.underlying5 (gA _)) ((show Value.int .u8 _=B8 (UInt8.ofNat (k-1))from rfl)))<| ?_
  refine hx (bV Tryz.underlying27 eP rfl rfl rfl (by simp[Value.cells,B8]) (by decide) (by decide) (fun g25=> ?_))
  have hA_b25:0<1→(some (⟨g25,0,none⟩:Addr))≠none:=fun _ h=>by cases h
  refine aR (fun w m=>m.bO 0 rfl (show _=aG 5 1 (.slice (some ⟨g25,0,none⟩) 1 1) 1 (aQ [UInt8.ofNat (k-1)])from rfl)) ?_
  refine hx (bH 1 rfl rfl rfl Tryz.underlying27 Tryz.underlying27 (by exact .inl rfl) eP rfl (fun m=>Src.bY (m.ord 0 rfl)) aS (by unfold maxLen;omega) (by omega) (fun u=> ?_))
  refine aB (fun m=>(m.own 0 rfl).slice) ?_
  rintro⟨A_x,c_x,rfl,hc_x⟩
  refine aB (fun m=>(m.ord 0 rfl).2.1) fun hA_x=> ?_
  refine hy (fun _=>ab rfl)<|ai<|al (ρ' :=[(3,_),(5,_),(9,_),(4,_),(2,_),(0,_)]) ⟨rfl,rfl,rfl,rfl,rfl,rfl,trivial⟩<|ak (X' :=[_,_]) (S' :=[_,_]) (fun _ m=>m)<|ag<|aj<|hy (fun _=>aa rfl)<|hy (fun _=>aa rfl)<| ?_
  refine hx (bH 0 rfl rfl rfl Tryz.underlying27 Tryz.underlying27 (by exact .inl rfl) eP rfl (fun m=>Src.bY (m.rd 0 rfl)) aS (by unfold maxLen;omega) (by omega) (fun u2=> ?_))
  refine aB (fun m=>(m.own 0 rfl).slice) ?_
  rintro⟨A_x2,c_x2,rfl,hc_x⟩
  refine aB (fun m=>(m.ord 0 rfl).2.1) fun hA_x=> ?_
  refine hy (fun _=>ab rfl)<|ai<|al (ρ' :=[(3,_),(5,_),(9,_),(4,_),(2,_),(0,_)]) ⟨rfl,rfl,rfl,rfl,rfl,rfl,trivial⟩<|ak (X' :=[_,_]) (S' :=[_,_]) (fun _ m=>m)<|aT<|ag<|aj<|hy (fun _=>aa rfl)<|hy (fun _=>aM rfl rfl (bD (by omega) (by omega)))<|hy (fun _=>ab rfl)<|ai<|al (ρ' :=[(4,_),(3,_),(5,_),(9,_),(2,_),(0,_)]) ⟨rfl,rfl,rfl,rfl,rfl,rfl,trivial⟩<| ?_
  have hol:o.length+1+k=(o++(UInt8.ofNat (k-1)::(l.drop i).take k)).length:=by simp;omega
  rw[hol]
  refine ak (fun w m=>m.bO 0 rfl (show _=aG 5 1 (.slice A_x2 (o++(UInt8.ofNat (k-1)::(l.drop i).take k)).length c_x2) (o++(UInt8.ofNat (k-1)::(l.drop i).take k)).length (aQ (o++(UInt8.ofNat (k-1)::(l.drop i).take k)))from congrArg (aG _ _ _ _) (show aQ o++aQ [UInt8.ofNat (k-1)]++aQ ((l.drop i).take k)=_ by rw[←bs,←bs,List.append_assoc];rfl))) ?_
  refine gr (i+128) (o++(UInt8.ofNat (k-1)::(l.drop i).take k)) _ _ ⟨rfl,rfl,rfl,rfl,trivial⟩ [0] rfl [1] rfl (⟨by omega,by rw[←hol];omega,by rw[←hE];simp⟩) (by omega)
 ·rw[List.drop_of_length_le (by omega),mz,List.append_nil]at hE
  subst hE
  refine bK<|ao<|ao<|aC<|ag<|ah<|aj<|hy (fun _=>aa rfl)<|hy (fun _=>ab rfl)<|ai<|al (ρ' :=[(2,_),(9,_),(3,_),(4,_),(0,_)]) ⟨rfl,rfl,rfl,rfl,rfl,trivial⟩<|ag<|aU<| ?_
  exact bc trivial rfl rfl [0] rfl [] rfl ⟨_,rfl,rfl,rfl⟩
theorem EC{A:Option Addr}{n c:Nat}{l:List UInt8}(hc:n≤c)(hn:n≤500000000)(hl:l.length=n):cf Tryz.prog 159 [.slice A n c] [] [c6 1 A n (aQ l)] (fun v_ X_ S_=>∃v,v_=v∧X_=[aG 5 1 v (er l).length (aQ (er l))]∧S_=[]):=by
 refine aP (N:=54) Tryz.func159 rfl rfl (by simp) fun b=> ?_
 refine aZ (fun m=>gz (m.rd 0 rfl)) ?_
 rintro⟨hl_r,hA_r⟩
 refine ah<|aj<|hy (fun _=>ab rfl)<|ai<|ag<|ah<|aj<|hy (fun _=>ab rfl)<|ai<|ag<|ah<|aj<|hy (fun _=>ab rfl)<|ai<|ag<|ah<|aj<|hy (fun _=>ab rfl)<|ai<|ag<|ah<|aK<| ?_
 refine bB (fun w m=>m.dx (r' :=aG 5 1 (.slice none 0 0) 0 []) (.refl _ _) (Own.nil _ _ _ _) (fun k hk=>hk.elim)) ?_
 refine ur (fun i f o A3 c3=>n-i) (fun i f o A3 c3=>[(3,.slice A3 o.length c3),(4,.int .i64 (f:Nat)),(5,.int .i64 (i:Nat))]) (fun i f o A3 c3=>[aG 5 1 (.slice A3 o.length c3) o.length (aQ o)]) (fun i f o A3 c3=>[]) (fun i f o A3 c3=>i≤n∧f≤i∧o.length+2*(i-f)≤2*i∧gb l i ((l.drop f).take (i-f)) o=er l) 0 0 [] none 0 [(2,_),(0,_)] ⟨rfl,rfl,trivial⟩ [0] rfl [] rfl (⟨by omega,by decide,by decide,rfl⟩) ⟨rfl,rfl,rfl,trivial⟩ (fun i f o A3 c3 ⟨hin,hfi,hon,hE⟩=> ?_)
 have hown:((l.drop f).take (i-f)).length=i-f:=by rw[List.length_take,List.length_drop];omega
 refine ah<|ah<|aj<|hy (fun _=>aa rfl)<|hy (fun _=>aa rfl)<|hy (fun _=>aX rfl Tryz.underlying27)<|hy (fun _=>bw rfl rfl)<|ai<|al (ρ' :=[(10,_),(3,_),(4,_),(5,_),(2,_),(0,_)]) ⟨rfl,rfl,rfl,rfl,rfl,rfl,trivial⟩<|ag<| ?_
 refine cD rfl (fun hi=> ?_) (fun hi=> ?_)
 ·refine aD<|ag<|aK<|ah<|aj<|hy (fun _=>aa rfl)<|hy (fun _=>aa rfl)<| ?_
  refine hx (aq rfl Tryz.call218 (Ay (by omega) hl (by omega)) [] rfl [0] rfl ?_)
  rintro _ _ _ ⟨rfl,rfl,rfl⟩
  refine hx (aN qe (fun g6=> ?_))
  refine cI (aJ 0 rfl rfl rfl ll rfl ni rfl ?_)
  refine ai<|al (ρ' :=[(6,_),(10,_),(3,_),(4,_),(5,_),(2,_),(0,_)]) ⟨rfl,rfl,rfl,rfl,rfl,rfl,rfl,trivial⟩<|ak (X' :=[_,_]) (S' :=[_]) (fun _ m=>m)<|ag<|ah<|ah<|aj<|hy (fun _=>aL rfl k4 (by decide))<|hy (fun m=>aw rfl fE (aA (m.aY 0 rfl) rfl))<|hy (fun _=>cH rfl rfl)<|ai<|al (ρ' :=[(16,_),(6,_),(10,_),(3,_),(4,_),(5,_),(2,_),(0,_)]) ⟨rfl,rfl,rfl,rfl,rfl,rfl,rfl,rfl,trivial⟩<|ag<| ?_
  refine cD rfl (fun h0=> ?_) (fun h0=> ?_)
  ·rw[kM (by omega) (by omega)]at hE
   have hsn:(l.drop f).take (i-f)++[l.getD i 0]=(l.drop f).take (i+1-f):=by
    rw[show i+1-f=(i-f)+1 by omega,eI (by rw[List.length_drop];omega)]
    congr 2
    simp only[List.getD,List.getElem?_drop]
    rw[show f+(i-f)=i by omega]
   rw[hsn]at hE
   refine ah<|aj<|hy (fun _=>aa rfl)<|hy (fun _=>aM rfl rfl (bD (by omega) (by omega)))<|hy (fun _=>ab rfl)<|ai<|al (ρ' :=[(5,_),(16,_),(6,_),(10,_),(3,_),(4,_),(2,_),(0,_)]) ⟨rfl,rfl,rfl,rfl,rfl,rfl,rfl,rfl,trivial⟩<|ag<|bK<|ao<|aC<| ?_
   refine pc (i+1) f o A3 c3 ⟨rfl,rfl,rfl,rfl,rfl,trivial⟩ [1] rfl [0] rfl (⟨by omega,by omega,by omega,hE⟩) (by omega)
  ·have hm:=kS (b:=l) (i:=i) (by omega)
   rw[iy (by omega) (by omega)]at hE
   obtain⟨m1,m2,m3,m4,m5,m6⟩:=hm.resolve_left (fun e=>h0 (by rw[e];rfl))
   have hll:=fi ((l.drop f).take (i-f))
   refine bB (fun w m=>m.j6 0 rfl (View.sub (n:=n) (c:=c) (k:=f) (m:=i-f) (by omega) (by omega))) ?_
   refine aZ (fun m=>gz (m.rd 0 rfl)) ?_
   rintro⟨hl_p,hA_p⟩
   refine aD<|ag<|ah<|aj<|hy (fun _=>aa rfl)<|hy (fun _=>aa rfl)<|hy (fun _=>aa rfl)<|hy (fun _=>aa rfl)<|hy (fun _=>ey rfl rfl rfl Tryz.underlying27 dZ rfl rfl (by omega) (by omega))<| ?_
   refine hx (aq rfl Tryz.call219 (CG (by omega) (by omega) hown) [] rfl [0] rfl ?_)
   rintro _ _ _ ⟨v,rfl,rfl,rfl⟩
   refine aB (fun m=>(m.own 0 rfl).slice) ?_
   rintro⟨A_x2,c_x2,rfl,hc_x2⟩
   refine aB (fun m=>(m.ord 0 rfl).2.1) fun hA_x2=> ?_
   refine hx (bH 2 rfl rfl rfl Tryz.underlying27 Tryz.underlying27 (by exact .inl rfl) eP rfl (fun m=>Src.bY (m.ord 0 rfl)) aS (by unfold maxLen;omega) (by omega) (fun u=> ?_))
   refine aB (fun m=>(m.own 0 rfl).slice) ?_
   rintro⟨A_x,c_x,rfl,hc_x⟩
   refine aB (fun m=>(m.ord 0 rfl).2.1) fun hA_x=> ?_
   generalize hLL:ej ((l.drop f).take (i-f))=L at hE hll ⊢
   refine hy (fun _=>ab rfl)<|ai<|al (ρ' :=[(3,_),(16,_),(6,_),(10,_),(4,_),(5,_),(2,_),(0,_)]) ⟨rfl,rfl,rfl,rfl,rfl,rfl,rfl,rfl,trivial⟩<|ak (X' :=[_,_,_]) (S' :=[_,_]) (fun _ m=>m)<|ag<|ah<|aj<|hy (fun _=>aa rfl)<|hy (fun _=>aL rfl k4 (by decide))<|hy (fun m=>aw rfl fE (aA (m.aY 2 rfl) rfl))<|hy (fun _=>yV (aM rfl rfl (bD (by omega) (by omega))) ((show Value.int .i64 (124+((aV l i).1:Int))= .int .i64 ((124+(aV l i).1:Nat):Int) by congr 1)))<|hy (fun _=>yV (bT rfl Tryz.underlying3 Tryz.underlying5 (gA _)) ((show Value.int .u8 _=B8 (UInt8.ofNat (124+(aV l i).1))from rfl)))<|hy (fun _=>aL rfl vf (by decide))<|hy (fun m=>aw rfl fE (aA (m.aY 2 rfl) rfl))<|hy (fun _=>yV (ck rfl rfl (bD (by omega) (by omega))) ((show Value.int .i64 (((aV l i).2:Int)-1)= .int .i64 (((aV l i).2-1:Nat):Int) by congr 1;omega)))<|hy (fun _=>yV (gC rfl rfl (by omega) (by omega)) ((show Value.int .i64 ((((aV l i).2-1:Nat):Int) % 256)= .int .i64 ((((aV l i).2-1) % 256:Nat):Int) by congr 1)))<|hy (fun _=>yV (bT rfl Tryz.underlying3 Tryz.underlying5 (gA _)) ((show Value.int .u8 _=B8 (UInt8.ofNat (((aV l i).2-1) % 256))from rfl)))<|hy (fun _=>aL rfl vf (by decide))<|hy (fun m=>aw rfl fE (aA (m.aY 2 rfl) rfl))<|hy (fun _=>yV (ck rfl rfl (bD (by omega) (by omega))) ((show Value.int .i64 (((aV l i).2:Int)-1)= .int .i64 (((aV l i).2-1:Nat):Int) by congr 1;omega)))<|hy (fun _=>yV (j1 rfl rfl (by omega) (by omega) (bD (by omega) (by omega))) ((show Value.int .i64 ((((aV l i).2-1:Nat):Int)/256)= .int .i64 ((((aV l i).2-1)/256:Nat):Int) by congr 1)))<|hy (fun _=>yV (bT rfl Tryz.underlying3 Tryz.underlying5 (gA _)) ((show Value.int .u8 _=B8 (UInt8.ofNat (((aV l i).2-1)/256))from rfl)))<| ?_
   refine hx (bV Tryz.underlying27 eP rfl rfl rfl (by simp[Value.cells,B8]) (by decide) (by decide) (fun g41=> ?_))
   have hA_b41:0<3→(some (⟨g41,0,none⟩:Addr))≠none:=fun _ h=>by cases h
   have htm:[UInt8.ofNat (124+(aV l i).1),UInt8.ofNat (((aV l i).2-1) % 256),UInt8.ofNat (((aV l i).2-1)/256)]=fK (aV l i):=by
    unfold fK
    congr 2
    exact UInt8.toNat_inj.1 (by rw[UInt8.toNat_ofNat',UInt8.toNat_ofNat'];omega)
   refine aR (fun w m=>m.bO 0 rfl (show _=aG 5 1 (.slice (some ⟨g41,0,none⟩) 3 3) 3 (aQ (fK (aV l i)))from congrArg (aG _ _ _ _) (show aQ [UInt8.ofNat (124+(aV l i).1),UInt8.ofNat (((aV l i).2-1) % 256),UInt8.ofNat (((aV l i).2-1)/256)]=_ by rw[htm]))) ?_
   refine hx (bH 1 rfl rfl rfl Tryz.underlying27 Tryz.underlying27 (by exact .inl rfl) eP rfl (fun m=>Src.bY (m.ord 0 rfl)) aS (by unfold maxLen;omega) (by omega) (fun u2=> ?_))
   refine aB (fun m=>(m.own 0 rfl).slice) ?_
   rintro⟨A_x3,c_x3,rfl,hc_x⟩
   refine aB (fun m=>(m.ord 0 rfl).2.1) fun hA_x=> ?_
   refine hy (fun _=>ab rfl)<|ai<|al (ρ' :=[(3,_),(16,_),(6,_),(10,_),(4,_),(5,_),(2,_),(0,_)]) ⟨rfl,rfl,rfl,rfl,rfl,rfl,rfl,rfl,trivial⟩<|ak (X' :=[_,_,_,_]) (S' :=[_,_]) (fun _ m=>m)<|ag<|ah<|aj<|hy (fun _=>aa rfl)<|hy (fun _=>aL rfl k4 (by decide))<|hy (fun m=>aw rfl fE (aA (m.aY 3 rfl) rfl))<|hy (fun _=>yV (aM rfl rfl (bD (by omega) (by omega))) ((show Value.int .i64 ((i:Int)+((aV l i).1:Int))= .int .i64 ((i+(aV l i).1:Nat):Int) by congr 1)))<|hy (fun _=>ab rfl)<|ai<|al (ρ' :=[(5,_),(3,_),(16,_),(6,_),(10,_),(4,_),(2,_),(0,_)]) ⟨rfl,rfl,rfl,rfl,rfl,rfl,rfl,rfl,trivial⟩<|ag<|aj<|hy (fun _=>aa rfl)<|hy (fun _=>ab rfl)<|ai<|al (ρ' :=[(4,_),(5,_),(3,_),(16,_),(6,_),(10,_),(2,_),(0,_)]) ⟨rfl,rfl,rfl,rfl,rfl,rfl,rfl,rfl,trivial⟩<|aT<| ?_
   have hol:o.length+L.length+3=(o++L++fK (aV l i)).length:=by simp[fK];omega
   rw[hol]
   refine ak (fun w m=>m.bO 0 rfl (show _=aG 5 1 (.slice A_x3 (o++L++fK (aV l i)).length c_x3) (o++L++fK (aV l i)).length (aQ (o++L++fK (aV l i)))from congrArg (aG _ _ _ _) (show aQ o++aQ L++aQ (fK (aV l i))=aQ (o++L++fK (aV l i)) by rw[bs,bs]))) ?_
   have hE2:gb l (i+(aV l i).1) ((l.drop (i+(aV l i).1)).take (i+(aV l i).1-(i+(aV l i).1))) (o++L++fK (aV l i))=er l:=by rw[Nat.sub_self,List.take_zero];exact hE
   refine pc (i+(aV l i).1) (i+(aV l i).1) (o++L++fK (aV l i)) _ _ ⟨rfl,rfl,rfl,rfl,rfl,trivial⟩ [0] rfl [1] rfl (⟨by omega,Nat.le_refl _,by rw[←hol];omega,hE2⟩) (by omega)
 ·obtain rfl:i=n:=by omega
  rw[kL (by omega),List.take_of_length_le (by rw[List.length_drop];omega)]at hE
  have hdl:(l.drop f).length=i-f:=by rw[List.length_drop];omega
  have hll:=fi (l.drop f)
  refine bB (fun w m=>m.j6 0 rfl (View.drop (n:=i) (c:=c) (k:=f) (by omega) (by omega))) ?_
  refine aZ (fun m=>gz (m.rd 0 rfl)) ?_
  rintro⟨hl_p,hA_p⟩
  refine bK<|ao<|ao<|aC<|ag<|ah<|aj<|hy (fun _=>aa rfl)<|hy (fun _=>aa rfl)<|hy (fun _=>aa rfl)<|hy (fun _=>eh rfl rfl Tryz.underlying27 dZ rfl (by omega))<| ?_
  refine hx (aq rfl Tryz.call219 (CG (by omega) (by omega) hdl) [] rfl [0] rfl ?_)
  rintro _ _ _ ⟨v,rfl,rfl,rfl⟩
  refine aB (fun m=>(m.own 0 rfl).slice) ?_
  rintro⟨A_x2,c_x2,rfl,hc_x2⟩
  refine aB (fun m=>(m.ord 0 rfl).2.1) fun hA_x2=> ?_
  refine hx (bH 1 rfl rfl rfl Tryz.underlying27 Tryz.underlying27 (by exact .inl rfl) eP rfl (fun m=>Src.bY (m.ord 0 rfl)) aS (by unfold maxLen;omega) (by omega) (fun u=> ?_))
  refine aB (fun m=>(m.own 0 rfl).slice) ?_
  rintro⟨A_x,c_x,rfl,hc_x⟩
  refine aB (fun m=>(m.ord 0 rfl).2.1) fun hA_x=> ?_
  have hol:o.length+(ej (l.drop f)).length=(er l).length:=by rw[←hE];simp
  rw[hol]
  refine aR (fun w m=>m.bO 0 rfl (show _=aG 5 1 (.slice A_x (er l).length c_x) (er l).length (aQ (er l))from congrArg (aG _ _ _ _) (show aQ o++aQ (ej (l.drop f))=aQ (er l) by rw[←hE,bs]))) ?_
  refine hy (fun _=>ab rfl)<|ai<|al (ρ' :=[(2,_),(10,_),(3,_),(4,_),(5,_),(0,_)]) ⟨rfl,rfl,rfl,rfl,rfl,rfl,trivial⟩<|ak (X' :=[_,_]) (S' :=[_,_]) (fun _ m=>m)<|ag<|aU<| ?_
  exact bc trivial rfl rfl [0] rfl [] rfl ⟨_,rfl,rfl,rfl⟩
end Go.Proofs.YtmibdabdlgmafaaGreatDoor
end
section
set_option maxRecDepth 20000
set_option maxHeartbeats 2000000
namespace Go.Proofs.YtmibdabdlgmafaaGreatDoor
open Go.Eng Go.Hx
theorem wz{A:Option Addr}{n c:Nat}{l:List UInt8}(hc:n≤c)(hn:n≤1000000000)(hl:l.length=n):cf Tryz.prog 161 [.slice A n c] [] [c6 1 A n (aQ l)] (fun v_ X_ S_=>∃v,v_=v∧X_=[aG 5 1 v 4 (aQ (fZ (cJ l)))]∧S_=[]):=by
 have e4:n+4-n=4:=by omega
 have ed:(aQ (yb l)).drop (n*1)=aQ (fZ (cJ l)):=by rw[Nat.mul_one,←oD,yb,List.drop_append_of_le_length (by omega),List.drop_of_length_le (by omega)];rfl
 refine aP (N:=8) Tryz.func161 rfl rfl (by simp) fun b=> ?_
 refine aZ (fun m=>gz (m.rd 0 rfl)) ?_
 rintro⟨hl_r,hA_r⟩
 refine ah<|aj<|hy (fun _=>ab rfl)<|ai<|ag<|ah<|aj<|hy (fun _=>aa rfl)<| ?_
 refine hx (aq rfl Tryz.call189 (zL (by omega)) [] rfl [0] rfl ?_)
 rintro _ _ _ ⟨v,rfl,rfl,rfl⟩
 refine aB (fun m=>(m.own 0 rfl).slice) ?_
 rintro⟨A_x,c_x,rfl,hc_x⟩
 refine aB (fun m=>(m.ord 0 rfl).2.1) fun hA_x=> ?_
 refine hy (fun _=>aa rfl)<|hy (fun _=>aX rfl Tryz.underlying27)<|hy (fun _=>yV (eh rfl rfl Tryz.underlying27 dZ rfl (by omega)) ((show Value.slice (if c_x=n then A_x else A_x.map (·.add (n*1))) (n+4-n) (c_x-n)= .slice (if c_x=n then A_x else A_x.map (·.add (n*1))) 4 (c_x-n) by congr 1)))<|hy (fun _=>ab rfl)<|ai<|al (ρ' :=[(2,_),(0,_)]) ⟨rfl,rfl,trivial⟩<|ak (X' :=[_]) (S' :=[_]) (fun _ m=>m)<|ag<|aU<| ?_
 refine ak (X' :=aG 5 1 (.slice (if c_x=n then A_x else A_x.map (·.add (n*1))) (n+4-n) (c_x-n)) (n+4-n) ((aQ (yb l)).drop (n*1))::_) (fun w m=>(m.perm (ar [0] _ [_] _ rfl)).vP (View.r8 (by omega) hc_x)) ?_
 rw[e4,ed]
 exact bc trivial rfl rfl [0] rfl [] rfl ⟨_,rfl,rfl,rfl⟩
theorem CU{A:Option Addr}{n c:Nat}{l:List UInt8}(hc:n≤c)(hn:n≤100000000)(hl:l.length=n):cf Tryz.prog 81 [.slice A n c] [] [c6 1 A n (aQ l)] (fun v_ X_ S_=>∃v,v_=v∧X_=[aG 5 1 v (bA l).length (aQ (bA l))]∧S_=[]):=by
 have hpl:=l6 l
 have hcl:=jl l
 refine aP (N:=30) Tryz.func81 rfl rfl (by simp) fun b=> ?_
 refine aZ (fun m=>gz (m.rd 0 rfl)) ?_
 rintro⟨hl_r,hA_r⟩
 refine ah<|aj<|hy (fun _=>ab rfl)<|ai<|ag<|ah<|aj<|hy (fun _=>aa rfl)<| ?_
 refine hx (aq rfl Tryz.call159 (EC (by omega) (by omega) (by omega)) [] rfl [0] rfl ?_)
 rintro _ _ _ ⟨v,rfl,rfl,rfl⟩
 refine aB (fun m=>(m.own 0 rfl).slice) ?_
 rintro⟨A_x,c_x,rfl,hc_x⟩
 refine aB (fun m=>(m.ord 0 rfl).2.1) fun hA_x=> ?_
 refine hy (fun _=>ab rfl)<|ai<|al (ρ' :=[(3,_),(2,_),(0,_)]) ⟨rfl,rfl,rfl,trivial⟩<|ak (X' :=[_]) (S' :=[_]) (fun _ m=>m)<|ag<|ah<|aj<| ?_
 refine hx (bV Tryz.underlying27 eP rfl rfl rfl (by simp[Value.cells,B8]) (by decide) (by decide) (fun g7=> ?_))
 have hA_b7:0<2→(some (⟨g7,0,none⟩:Addr))≠none:=fun _ h=>by cases h
 refine hy (fun _=>ab rfl)<|ai<|al (ρ' :=[(4,_),(3,_),(2,_),(0,_)]) ⟨rfl,rfl,rfl,rfl,trivial⟩<|ak (X' :=[_,_]) (S' :=[_]) (fun _ m=>m)<|ag<|ah<|aj<|hy (fun _=>aa rfl)<|hy (fun _=>aa rfl)<|hy (fun _=>aX rfl Tryz.underlying27)<| ?_
 refine hx (aq rfl Tryz.call160 (AZ (by omega)) [] rfl [] rfl ?_)
 rintro _ _ _ ⟨v2,rfl,rfl,rfl⟩
 refine aB (fun m=>(m.own 0 rfl).slice) ?_
 rintro⟨A_x2,c_x2,rfl,hc_x2⟩
 refine aB (fun m=>(m.ord 0 rfl).2.1) fun hA_x2=> ?_
 refine aR (fun w m=>m.bO 1 rfl (show _=aG 5 1 (.slice (some ⟨g7,0,none⟩) 2 2) 2 (aQ [76,0])from rfl)) ?_
 refine hx (bH 0 rfl rfl rfl Tryz.underlying27 Tryz.underlying27 (by exact .inl rfl) eP rfl (fun m=>Src.bY (m.ord 1 rfl)) aS (by unfold maxLen;omega) (by omega) (fun u=> ?_))
 refine aB (fun m=>(m.own 0 rfl).slice) ?_
 rintro⟨A_b7,c_b7,rfl,hc_b7⟩
 refine aB (fun m=>(m.ord 0 rfl).2.1) fun hA_b7=> ?_
 refine hy (fun _=>ab rfl)<|ai<|al (ρ' :=[(4,_),(3,_),(2,_),(0,_)]) ⟨rfl,rfl,rfl,rfl,trivial⟩<|ak (X' :=[_,_,_]) (S' :=[_]) (fun _ m=>m)<|ag<|ah<|ah<|aj<|hy (fun _=>aa rfl)<|hy (fun _=>aX rfl Tryz.underlying27)<|hy (fun _=>aa rfl)<|hy (fun _=>aX rfl Tryz.underlying27)<|hy (fun _=>bw rfl rfl)<|ai<|al (ρ' :=[(17,_),(4,_),(3,_),(2,_),(0,_)]) ⟨rfl,rfl,rfl,rfl,rfl,trivial⟩<|ag<| ?_
 refine cD rfl (fun hp=> ?_) (fun hp=> ?_)
 ·have hq:bA l=[76,1]++fZ l.length++er l++fZ (cJ l):=by
   have:uG l=true:=by unfold uG;exact decide_eq_true (by omega)
   unfold bA gW
   rw[this];rfl
  refine ah<|aj<|hy (fun _=>aa rfl)<|hy (fun _=>aO rfl rfl Tryz.underlying27 dZ hA_b7 (show((1:Nat):Int)=1 from rfl) (by omega))<| ?_
  refine cI (x5 0 rfl rfl rfl dZ rfl (by omega) ?_)
  refine ai<|al (ρ' :=[(17,_),(4,_),(3,_),(2,_),(0,_)]) ⟨rfl,rfl,rfl,rfl,rfl,trivial⟩<|ak (X' :=[_,_,_]) (S' :=[_]) (fun _ m=>m)<|ag<|aj<|hy (fun _=>aa rfl)<|hy (fun _=>aa rfl)<| ?_
  refine aR (fun w m=>m.bO 0 rfl (show _=aG 5 1 (.slice A_b7 (2+4) c_b7) (2+4) (aQ ([76,1]++fZ n))from rfl)) ?_
  refine hx (bH 0 rfl rfl rfl Tryz.underlying27 Tryz.underlying27 (by exact .inl rfl) eP rfl (fun m=>Src.bY (m.ord 2 rfl)) aS (by unfold maxLen;omega) (by omega) (fun u2=> ?_))
  refine aB (fun m=>(m.own 0 rfl).slice) ?_
  rintro⟨A_b72,c_b72,rfl,hc_b7⟩
  refine aB (fun m=>(m.ord 0 rfl).2.1) fun hA_b7=> ?_
  refine hy (fun _=>ab rfl)<|ai<|al (ρ' :=[(4,_),(17,_),(3,_),(2,_),(0,_)]) ⟨rfl,rfl,rfl,rfl,rfl,trivial⟩<|ak (X' :=[_,_,_]) (S' :=[_]) (fun _ m=>m)<|ag<|ah<|aj<|hy (fun _=>aa rfl)<|hy (fun _=>aa rfl)<| ?_
  refine hx (aq rfl Tryz.call161 (wz (by omega) (by omega) (by omega)) [] rfl [0] rfl ?_)
  rintro _ _ _ ⟨v3,rfl,rfl,rfl⟩
  refine aB (fun m=>(m.own 0 rfl).slice) ?_
  rintro⟨A_x3,c_x3,rfl,hc_x3⟩
  refine aB (fun m=>(m.ord 0 rfl).2.1) fun hA_x3=> ?_
  refine hx (bH 1 rfl rfl rfl Tryz.underlying27 Tryz.underlying27 (by exact .inl rfl) eP rfl (fun m=>Src.bY (m.ord 0 rfl)) aS (by unfold maxLen;omega) (by omega) (fun u3=> ?_))
  refine aB (fun m=>(m.own 0 rfl).slice) ?_
  rintro⟨A_b73,c_b73,rfl,hc_b7⟩
  refine aB (fun m=>(m.ord 0 rfl).2.1) fun hA_b7=> ?_
  refine hy (fun _=>ab rfl)<|ai<|al (ρ' :=[(2,_),(4,_),(17,_),(3,_),(0,_)]) ⟨rfl,rfl,rfl,rfl,rfl,trivial⟩<|ak (X' :=[_,_,_,_]) (S' :=[_]) (fun _ m=>m)<|ag<|aU<| ?_
  have hol:2+4+(er l).length+4=(bA l).length:=by rw[hq];simp[eY,hl];try omega
  rw[hol]
  have hsl:aQ ([76,1]++fZ n)++aQ (er l)++aQ (fZ (cJ l))=aQ (bA l):=by rw[hq,hl,bs ([76,1]++fZ n++(er l)),bs ([76,1]++fZ n)]
  rw[hsl]
  exact bc trivial rfl rfl [0] rfl [] rfl ⟨_,rfl,rfl,rfl⟩
 ·have hq:bA l=[76,0]++fZ l.length++l++fZ (cJ l):=by
   have:uG l=false:=by unfold uG;exact decide_eq_false (by omega)
   unfold bA gW
   rw[this];rfl
  refine aj<|hy (fun _=>aa rfl)<|hy (fun _=>aa rfl)<| ?_
  refine aR (fun w m=>m.bO 0 rfl (show _=aG 5 1 (.slice A_b7 (2+4) c_b7) (2+4) (aQ ([76,0]++fZ n))from rfl)) ?_
  refine hx (bH 0 rfl rfl rfl Tryz.underlying27 Tryz.underlying27 (by exact .inl rfl) eP rfl (fun m=>Src.bY (m.rd 0 rfl)) aS (by unfold maxLen;omega) (by omega) (fun u2=> ?_))
  refine aB (fun m=>(m.own 0 rfl).slice) ?_
  rintro⟨A_b72,c_b72,rfl,hc_b7⟩
  refine aB (fun m=>(m.ord 0 rfl).2.1) fun hA_b7=> ?_
  refine hy (fun _=>ab rfl)<|ai<|al (ρ' :=[(4,_),(17,_),(3,_),(2,_),(0,_)]) ⟨rfl,rfl,rfl,rfl,rfl,trivial⟩<|ak (X' :=[_,_,_]) (S' :=[_]) (fun _ m=>m)<|ag<|ah<|aj<|hy (fun _=>aa rfl)<|hy (fun _=>aa rfl)<| ?_
  refine hx (aq rfl Tryz.call161 (wz (by omega) (by omega) (by omega)) [] rfl [0] rfl ?_)
  rintro _ _ _ ⟨v3,rfl,rfl,rfl⟩
  refine aB (fun m=>(m.own 0 rfl).slice) ?_
  rintro⟨A_x3,c_x3,rfl,hc_x3⟩
  refine aB (fun m=>(m.ord 0 rfl).2.1) fun hA_x3=> ?_
  refine hx (bH 1 rfl rfl rfl Tryz.underlying27 Tryz.underlying27 (by exact .inl rfl) eP rfl (fun m=>Src.bY (m.ord 0 rfl)) aS (by unfold maxLen;omega) (by omega) (fun u3=> ?_))
  refine aB (fun m=>(m.own 0 rfl).slice) ?_
  rintro⟨A_b73,c_b73,rfl,hc_b7⟩
  refine aB (fun m=>(m.ord 0 rfl).2.1) fun hA_b7=> ?_
  refine hy (fun _=>ab rfl)<|ai<|al (ρ' :=[(2,_),(4,_),(17,_),(3,_),(0,_)]) ⟨rfl,rfl,rfl,rfl,rfl,trivial⟩<|ak (X' :=[_,_,_,_]) (S' :=[_]) (fun _ m=>m)<|ag<|aU<| ?_
  have hol:2+4+n+4=(bA l).length:=by rw[hq];simp[eY,hl];try omega
  rw[hol]
  have hsl:aQ ([76,0]++fZ n)++aQ l++aQ (fZ (cJ l))=aQ (bA l):=by rw[hq,hl,bs ([76,0]++fZ n++l),bs ([76,0]++fZ n)]
  rw[hsl]
  exact bc trivial rfl rfl [0] rfl [] rfl ⟨_,rfl,rfl,rfl⟩
end Go.Proofs.YtmibdabdlgmafaaGreatDoor
end
section
set_option maxRecDepth 20000
set_option maxHeartbeats 4000000
namespace Go.Proofs.YtmibdabdlgmafaaGreatDoor
open Go.Eng Go.Hx
@[reducible]def GQ (v:Value) (nn e:Int):List Value:=[v,.int .i64 nn,.int .i64 e]
theorem jQ{A:Option Addr}{n c:Nat}{nn e:Int}:∀u∈GQ (.slice A n c) nn e,u.oneCell' =true:=by
 intro u hu
 simp only[List.mem_cons,List.not_mem_nil,or_false]at hu
 rcases hu with rfl|rfl|rfl <;> rfl
theorem kK(l:List UInt8)(i j:Nat):(l.drop i).getD j 0=l.getD (i+j) 0:=by simp[List.getD,List.getElem?_drop]
theorem ye{A:Option Addr}{n c:Nat}{l:List UInt8}{z:Int}(hc:n≤c)(hn:n≤10000000)(hl:l.length=n)(hz:z≤10000000):cf Tryz.prog 217 [.slice A n c,.int .i64 z] [] [c6 1 A n (aQ l)] (fun v_ X_ S_=>∃v nn,v_=(.agg (GQ v nn (jr z l []).2).toArray)∧X_=[aG 5 1 v (jr z l []).1.length (aQ (jr z l []).1)]∧S_=[]):=by
 refine aP (N:=109) Tryz.func217 rfl rfl (by simp) fun b=> ?_
 refine aZ (fun m=>gz (m.rd 0 rfl)) ?_
 rintro⟨hl_r,hA_r⟩
 refine ah<|aj<| ?_
 refine hx (aN nw (fun g4=> ?_))
 refine ai<|ak (X' :=[_]) (S' :=[_]) (fun _ m=>m)<|ag<|ah<|aj<|hy (fun _=>ab rfl)<|ai<|ag<|ah<|aj<|hy (fun _=>ab rfl)<|ai<|ag<|ah<|ah<|aj<|hy (fun _=>ab rfl)<|ai<|ag<|aK<| ?_
 refine bB (fun w m=>m.dx (r' :=aG 5 1 (.slice none 0 0) 0 []) (.refl _ _) (Own.nil _ _ _ _) (fun k hk=>hk.elim)) ?_
 refine ur (fun i o nn A3 c3=>n-i) (fun i o nn A3 c3=>[(5,.slice A3 (o:List UInt8).length c3),(6,.int .i64 (nn:Nat)),(7,.int .i64 (i:Nat))]) (fun i o nn A3 c3=>[aG 5 1 (.slice A3 o.length c3) o.length (aQ o)]) (fun i o nn A3 c3=>[]) (fun i o nn A3 c3=>i≤n∧nn≤i∧o.length≤10000000∧jr z (l.drop i) o=jr z l []) 0 [] 0 none 0 [(4,_),(0,_),(1,_)] ⟨rfl,rfl,rfl,trivial⟩ [0] rfl [] rfl (⟨Nat.zero_le _,Nat.zero_le _,Nat.zero_le _,rfl⟩) ⟨rfl,rfl,rfl,trivial⟩ (fun i o nn A3 c3 ⟨hin,hni,hol,hU⟩=> ?_)
 refine ah<|ah<|aj<|hy (fun _=>aa rfl)<|hy (fun _=>aa rfl)<|hy (fun _=>aX rfl Tryz.underlying27)<|hy (fun _=>bw rfl rfl)<|ai<|al (ρ' :=[(14,_),(5,_),(6,_),(7,_),(4,_),(0,_),(1,_)]) ⟨rfl,rfl,rfl,rfl,rfl,rfl,rfl,trivial⟩<|ag<| ?_
 refine cD rfl (fun hlt=> ?_) (fun hlt=> ?_)
 ·have hil:i<l.length:=by omega
  have hq0:l.drop i≠ []:=fun e=>by have:=congrArg List.length e;rw[List.length_drop]at this;simp at this;omega
  have hql:(l.drop i).length=n-i:=by rw[List.length_drop,hl]
  have hg0:(l.drop i).getD 0 0=l.getD i 0:=kK l i 0
  have hc0:=(l.getD i 0).toNat_lt
  refine aD<|ag<|ah<|aK<|ah<|aj<|hy (fun _=>aa rfl)<|hy (fun _=>aa rfl)<|hy (fun _=>aO rfl rfl Tryz.underlying27 dZ hA_r rfl (by omega))<|hy (fun m=>aw rfl jt ((m.rd 0 rfl).cell (bI (by omega))))<|hy (fun _=>bT rfl Tryz.underlying5 Tryz.underlying3 (As _))<|hy (fun _=>ab rfl)<|ai<|al (ρ' :=[(8,_),(14,_),(5,_),(6,_),(7,_),(4,_),(0,_),(1,_)]) ⟨rfl,rfl,rfl,rfl,rfl,rfl,rfl,rfl,trivial⟩<|ag<|ah<|ah<|aj<|hy (fun _=>aa rfl)<|hy (fun _=>bw rfl rfl)<|ai<|al (ρ' :=[(23,_),(8,_),(14,_),(5,_),(6,_),(7,_),(4,_),(0,_),(1,_)]) ⟨rfl,rfl,rfl,rfl,rfl,rfl,rfl,rfl,rfl,trivial⟩<|ag<| ?_
  generalize hc8:(l.getD i 0).toNat=c8 at hc0 hg0 ⊢
  have hc8' :((l.drop i).getD 0 0).toNat=c8:=by rw[kK,Nat.add_zero,hc8]
  refine cD rfl (fun h128=> ?_) (fun h128=> ?_)
  ·have ht:cF (l.drop i)=(c8+2,c8+1,0,decide (c8+2≤n-i)):=by
    unfold cF;rw[hc8',if_pos (by omega),hql]
   refine ah<|ah<|aj<|hy (fun _=>aa rfl)<|hy (fun _=>aa rfl)<|hy (fun _=>aM rfl rfl (bD (by omega) (by omega)))<|hy (fun _=>aM rfl rfl (bD (by omega) (by omega)))<|hy (fun _=>aa rfl)<|hy (fun _=>aX rfl Tryz.underlying27)<|hy (fun _=>cR rfl rfl)<|ai<|al (ρ' :=[(30,_),(23,_),(8,_),(14,_),(5,_),(6,_),(7,_),(4,_),(0,_),(1,_)]) ⟨rfl,rfl,rfl,rfl,rfl,rfl,rfl,rfl,rfl,rfl,trivial⟩<|ag<| ?_
   refine cD rfl (fun h30=> ?_) (fun h30=> ?_)
   ·rw[kH hq0 (fun h=>by rw[ht]at h;have:=of_decide_eq_true h.1;omega)]at hU
    rw[←hU]
    refine ah<|aj<|hy (fun _=>cn nw rfl rfl (by kernel_rfl) (.cons (o:=2) (sz:=1) (by kernel_rfl) rfl rfl (Nat.le_of_ble_eq_true rfl) .nil))<| ?_
    refine cI (aJ 1 rfl rfl rfl je rfl jQ rfl ?_)
    refine ai<|al (ρ' :=[(30,_),(23,_),(8,_),(14,_),(5,_),(6,_),(7,_),(4,_),(0,_),(1,_)]) ⟨rfl,rfl,rfl,rfl,rfl,rfl,rfl,rfl,rfl,rfl,trivial⟩<|ak (X' :=[_,_]) (S' :=[_]) (fun _ m=>m)<|ag<|aU<|ax<|ax<|aW<|ax<|ax<|aW<|ax<| ?_
    refine ak (fun w m=>m.dx (r' :=aG 5 1 (.slice none 0 0) 0 []) (.refl _ _) (Own.nil _ _ _ _) (fun k hk=>hk.elim)) ?_
    exact fe trivial rfl rfl qo je rfl (fun m=>(m.aY 1 rfl).ay) [0] rfl [] rfl ⟨_,_,rfl,rfl,rfl⟩
   ·have hok:(cF (l.drop i)).2.2.2=true:=by rw[ht];exact decide_eq_true (by omega)
    have hdo:(cF (l.drop i)).2.2.1≤o.length:=by rw[ht];exact Nat.zero_le _
    refine aD<|ag<|ah<|ah<|aj<|hy (fun _=>aa rfl)<|hy (fun _=>aX rfl Tryz.underlying27)<|hy (fun _=>aa rfl)<|hy (fun _=>aM rfl rfl (bD (by omega) (by omega)))<|hy (fun _=>aM rfl rfl (bD (by omega) (by omega)))<|hy (fun _=>aa rfl)<|hy (fun _=>cR rfl rfl)<|ai<|al (ρ' :=[(38,_),(30,_),(23,_),(8,_),(14,_),(5,_),(6,_),(7,_),(4,_),(0,_),(1,_)]) ⟨rfl,rfl,rfl,rfl,rfl,rfl,rfl,rfl,rfl,rfl,rfl,trivial⟩<|ag<| ?_
    refine cD rfl (fun h38=> ?_) (fun h38=> ?_)
    ·rw[ov hq0 hok hdo (by rw[ht];show z<(o.length:Int)+((c8+1:Nat):Int);omega)]at hU
     rw[←hU]
     refine ah<|aj<|hy (fun _=>cn nw rfl rfl (by kernel_rfl) (.cons (o:=2) (sz:=1) (by kernel_rfl) rfl rfl (Nat.le_of_ble_eq_true rfl) .nil))<| ?_
     refine cI (aJ 1 rfl rfl rfl je rfl jQ rfl ?_)
     refine ai<|al (ρ' :=[(38,_),(30,_),(23,_),(8,_),(14,_),(5,_),(6,_),(7,_),(4,_),(0,_),(1,_)]) ⟨rfl,rfl,rfl,rfl,rfl,rfl,rfl,rfl,rfl,rfl,rfl,trivial⟩<|ak (X' :=[_,_]) (S' :=[_]) (fun _ m=>m)<|ag<|aU<|ax<|ax<|aW<|ax<|ax<|aW<|ax<| ?_
     refine ak (fun w m=>m.dx (r' :=aG 5 1 (.slice none 0 0) 0 []) (.refl _ _) (Own.nil _ _ _ _) (fun k hk=>hk.elim)) ?_
     exact fe trivial rfl rfl qo je rfl (fun m=>(m.aY 1 rfl).ay) [0] rfl [] rfl ⟨_,_,rfl,rfl,rfl⟩
    ·rw[mZ hq0 hok hdo (by rw[ht];show¬z<(o.length:Int)+((c8+1:Nat):Int);omega)]at hU
     have hK:i+1+(c8+1)-(i+1)=c8+1:=by omega
     have hma:made (l.drop i) o=o++(l.drop (i+1)).take (i+1+(c8+1)-(i+1)):=by unfold made;rw[ht,hK,if_pos rfl,List.drop_drop];rfl
     rw[hma,ht,List.drop_drop]at hU
     have hpl:((l.drop (i+1)).take (i+1+(c8+1)-(i+1))).length=i+1+(c8+1)-(i+1):=by rw[List.length_take,List.length_drop];omega
     refine bB (fun w m=>m.j6 0 rfl (View.sub (n:=n) (c:=c) (k:=i+1) (m:=i+1+(c8+1)-(i+1)) (by omega) (by omega))) ?_
     refine aZ (fun m=>gz (m.rd 0 rfl)) ?_
     rintro⟨hl_q,hA_q⟩
     refine aD<|ag<|ah<|aj<|hy (fun _=>aa rfl)<|hy (fun _=>aa rfl)<|hy (fun _=>aa rfl)<|hy (fun _=>aM rfl rfl (bD (by omega) (by omega)))<|hy (fun _=>aa rfl)<|hy (fun _=>aa rfl)<|hy (fun _=>aM rfl rfl (bD (by omega) (by omega)))<|hy (fun _=>aM rfl rfl (bD (by omega) (by omega)))<|hy (fun _=>ey rfl rfl rfl Tryz.underlying27 dZ (show((i+1:Nat):Int)=_ by omega) (show((i+1+(c8+1):Nat):Int)=_ by omega) (by omega) (by omega))<| ?_
     refine hx (bH 0 rfl rfl rfl Tryz.underlying27 Tryz.underlying27 (by exact .inl rfl) eP rfl (fun m=>Src.bY (m.rd 0 rfl)) aS (by unfold maxLen;omega) (by omega) (fun u=> ?_))
     refine aB (fun m=>(m.own 0 rfl).slice) ?_
     rintro⟨A_x,c_x,rfl,hc_x⟩
     refine aB (fun m=>(m.ord 0 rfl).2.1) fun hA_x=> ?_
     have hlm:o.length+(i+1+(c8+1)-(i+1))=(o++(l.drop (i+1)).take (i+1+(c8+1)-(i+1))).length:=by rw[List.length_append,hpl]
     rw[hlm]at hc_x hA_x ⊢
     refine aR (fun w m=>m.bO 0 rfl (show _=aG 5 1 (.slice A_x (o++(l.drop (i+1)).take (i+1+(c8+1)-(i+1))).length c_x) (o++(l.drop (i+1)).take (i+1+(c8+1)-(i+1))).length (aQ (o++(l.drop (i+1)).take (i+1+(c8+1)-(i+1))))from congrArg (aG _ _ _ _) (by rw[bs]))) ?_
     refine hy (fun _=>ab rfl)<|ai<|al (ρ' :=[(5,_),(38,_),(30,_),(23,_),(8,_),(14,_),(6,_),(7,_),(4,_),(0,_),(1,_)]) ⟨rfl,rfl,rfl,rfl,rfl,rfl,rfl,rfl,rfl,rfl,rfl,trivial⟩<|ak (X' :=[_,_]) (S' :=[_,_]) (fun _ m=>m)<|ag<|ah<|aj<|hy (fun _=>aa rfl)<|hy (fun _=>aa rfl)<|hy (fun _=>aM rfl rfl (bD (by omega) (by omega)))<|hy (fun _=>yV (aM rfl rfl (bD (by omega) (by omega))) ((show Value.int .i64 _= .int .i64 ((i+(c8+2):Nat):Int) by congr 1)))<|hy (fun _=>ab rfl)<|ai<|al (ρ' :=[(7,_),(5,_),(38,_),(30,_),(23,_),(8,_),(14,_),(6,_),(4,_),(0,_),(1,_)]) ⟨rfl,rfl,rfl,rfl,rfl,rfl,rfl,rfl,rfl,rfl,rfl,trivial⟩<|ag<|bK<|ao<|aC<|ag<|aj<|hy (fun _=>aa rfl)<|hy (fun _=>aM rfl rfl (bD (by omega) (by omega)))<|hy (fun _=>ab rfl)<|ai<|al (ρ' :=[(6,_),(7,_),(5,_),(38,_),(30,_),(23,_),(8,_),(14,_),(4,_),(0,_),(1,_)]) ⟨rfl,rfl,rfl,rfl,rfl,rfl,rfl,rfl,rfl,rfl,rfl,trivial⟩<| ?_
     refine pc (i+(c8+2)) (o++(l.drop (i+1)).take (i+1+(c8+1)-(i+1))) (nn+1) A_x c_x ⟨rfl,rfl,rfl,rfl,rfl,rfl,trivial⟩ [0,0] rfl [1] rfl (⟨by omega,by omega,by rw[←hlm];omega,hU⟩) (by omega)
  ·refine aD<|ag<|ah<|ah<|aj<|hy (fun _=>aa rfl)<|hy (fun _=>aM rfl rfl (bD (by omega) (by omega)))<|hy (fun _=>aa rfl)<|hy (fun _=>aX rfl Tryz.underlying27)<|hy (fun _=>cR rfl rfl)<|ai<|al (ρ' :=[(58,_),(23,_),(8,_),(14,_),(5,_),(6,_),(7,_),(4,_),(0,_),(1,_)]) ⟨rfl,rfl,rfl,rfl,rfl,rfl,rfl,rfl,rfl,rfl,trivial⟩<|ag<| ?_
   refine cD rfl (fun h58=> ?_) (fun h58=> ?_)
   ·have ht:cF (l.drop i)=(0,0,0,false):=by unfold cF;rw[hc8',if_neg (by omega),if_pos (by omega)]
    rw[kH hq0 (fun h=>by rw[ht]at h;cases h.1)]at hU
    rw[←hU]
    refine ah<|aj<|hy (fun _=>cn nw rfl rfl (by kernel_rfl) (.cons (o:=2) (sz:=1) (by kernel_rfl) rfl rfl (Nat.le_of_ble_eq_true rfl) .nil))<| ?_
    refine cI (aJ 1 rfl rfl rfl je rfl jQ rfl ?_)
    refine ai<|al (ρ' :=[(58,_),(23,_),(8,_),(14,_),(5,_),(6,_),(7,_),(4,_),(0,_),(1,_)]) ⟨rfl,rfl,rfl,rfl,rfl,rfl,rfl,rfl,rfl,rfl,trivial⟩<|ak (X' :=[_,_]) (S' :=[_]) (fun _ m=>m)<|ag<|aU<|ax<|aW<|ax<|ax<|aW<|ax<| ?_
    refine ak (fun w m=>m.dx (r' :=aG 5 1 (.slice none 0 0) 0 []) (.refl _ _) (Own.nil _ _ _ _) (fun k hk=>hk.elim)) ?_
    exact fe trivial rfl rfl qo je rfl (fun m=>(m.aY 1 rfl).ay) [0] rfl [] rfl ⟨_,_,rfl,rfl,rfl⟩
   ·have ht:cF (l.drop i)=(3,c8-124,1+(l.getD (i+1) 0).toNat+256*(l.getD (i+2) 0).toNat,true):=by
     unfold cF;rw[hc8',if_neg (by omega),if_neg (by omega),kK,kK]
    have b1:=(l.getD (i+1) 0).toNat_lt
    have b2:=(l.getD (i+2) 0).toNat_lt
    have hok:(cF (l.drop i)).2.2.2=true:=by rw[ht]
    refine aD<|ag<|ah<|cN [] [(0,some 0),(1,some 0),(2,some 0),(3,some 0),(4,some 0),(5,some 0),(6,some 0),(7,some 0),(8,some 0),(9,some 0),(10,some 0),(11,some 0),(12,some 0),(13,some 0),(14,some 0),(15,some 0)] (by kernel_rfl) (by kernel_rfl) rfl 99<|an (aa rfl)<|an (aa rfl)<|an (aM rfl rfl (bD (by omega) (by omega)))<|an (aO rfl rfl Tryz.underlying27 dZ hA_r (show((i+1:Nat):Int)=_ by omega) (by omega))<|b6 (fun m=>aw rfl jt ((m.rd 0 rfl).cell (bI (by omega))))<|an (bT rfl Tryz.underlying5 Tryz.underlying3 (As _))<|an (aM rfl rfl (bD (by omega) (by omega)))<|an (aa rfl)<|an (aa rfl)<|an (aM rfl rfl (bD (by omega) (by omega)))<|an (aO rfl rfl Tryz.underlying27 dZ hA_r (show((i+2:Nat):Int)=_ by omega) (by omega))<|b6 (fun m=>aw rfl jt ((m.rd 0 rfl).cell (bI (by omega))))<|an (bT rfl Tryz.underlying5 Tryz.underlying3 (As _))<|an (fp rfl rfl (bD (by omega) (by omega)))<|an (yV (aM rfl rfl (bD (by omega) (by omega))) ((show Value.int .i64 ((1:Int)+((l.getD (i+1) 0).toNat:Int)+256*((l.getD (i+2) 0).toNat:Int))= .int .i64 ((1+(l.getD (i+1) 0).toNat+256*(l.getD (i+2) 0).toNat:Nat):Int) by congr 1)))<|an (ab rfl)<|bz<|al (ρ' :=[(9,_),(58,_),(23,_),(8,_),(14,_),(5,_),(6,_),(7,_),(4,_),(0,_),(1,_)]) ⟨rfl,rfl,rfl,rfl,rfl,rfl,rfl,rfl,rfl,rfl,rfl,trivial⟩<|ag<|ah<|ah<|aj<|hy (fun _=>aa rfl)<|hy (fun _=>aa rfl)<|hy (fun _=>aX rfl Tryz.underlying27)<|hy (fun _=>cR rfl rfl)<|ai<|al (ρ' :=[(78,_),(9,_),(58,_),(23,_),(8,_),(14,_),(5,_),(6,_),(7,_),(4,_),(0,_),(1,_)]) ⟨rfl,rfl,rfl,rfl,rfl,rfl,rfl,rfl,rfl,rfl,rfl,rfl,trivial⟩<|ag<| ?_
    generalize hdd:1+(l.getD (i+1) 0).toNat+256*(l.getD (i+2) 0).toNat=dd at ht ⊢
    refine cD rfl (fun h78=> ?_) (fun h78=> ?_)
    ·rw[kH hq0 (fun h=>by rw[ht]at h;have h2:dd≤o.length:=h.2;omega)]at hU
     rw[←hU]
     refine ah<|aj<|hy (fun _=>cn nw rfl rfl (by kernel_rfl) (.cons (o:=2) (sz:=1) (by kernel_rfl) rfl rfl (Nat.le_of_ble_eq_true rfl) .nil))<| ?_
     refine cI (aJ 1 rfl rfl rfl je rfl jQ rfl ?_)
     refine ai<|al (ρ' :=[(78,_),(9,_),(58,_),(23,_),(8,_),(14,_),(5,_),(6,_),(7,_),(4,_),(0,_),(1,_)]) ⟨rfl,rfl,rfl,rfl,rfl,rfl,rfl,rfl,rfl,rfl,rfl,rfl,trivial⟩<|ak (X' :=[_,_]) (S' :=[_]) (fun _ m=>m)<|ag<|aU<|ax<|aW<|ax<|ax<|aW<|ax<| ?_
     refine ak (fun w m=>m.dx (r' :=aG 5 1 (.slice none 0 0) 0 []) (.refl _ _) (Own.nil _ _ _ _) (fun k hk=>hk.elim)) ?_
     exact fe trivial rfl rfl qo je rfl (fun m=>(m.aY 1 rfl).ay) [0] rfl [] rfl ⟨_,_,rfl,rfl,rfl⟩
    ·have hdo:(cF (l.drop i)).2.2.1≤o.length:=by rw[ht];show dd≤_;omega
     refine aD<|ag<|ah<|ah<|aj<|hy (fun _=>aa rfl)<|hy (fun _=>aX rfl Tryz.underlying27)<|hy (fun _=>aa rfl)<|hy (fun _=>aM rfl rfl (bD (by omega) (by omega)))<|hy (fun _=>ck rfl rfl (bD (by omega) (by omega)))<|hy (fun _=>aa rfl)<|hy (fun _=>cR rfl rfl)<|ai<|al (ρ' :=[(86,_),(78,_),(9,_),(58,_),(23,_),(8,_),(14,_),(5,_),(6,_),(7,_),(4,_),(0,_),(1,_)]) ⟨rfl,rfl,rfl,rfl,rfl,rfl,rfl,rfl,rfl,rfl,rfl,rfl,rfl,trivial⟩<|ag<| ?_
     refine cD rfl (fun h86=> ?_) (fun h86=> ?_)
     ·rw[ov hq0 hok hdo (by rw[ht];show z<(o.length:Int)+((c8-124:Nat):Int);omega)]at hU
      rw[←hU]
      refine ah<|aj<|hy (fun _=>cn nw rfl rfl (by kernel_rfl) (.cons (o:=2) (sz:=1) (by kernel_rfl) rfl rfl (Nat.le_of_ble_eq_true rfl) .nil))<| ?_
      refine cI (aJ 1 rfl rfl rfl je rfl jQ rfl ?_)
      refine ai<|al (ρ' :=[(86,_),(78,_),(9,_),(58,_),(23,_),(8,_),(14,_),(5,_),(6,_),(7,_),(4,_),(0,_),(1,_)]) ⟨rfl,rfl,rfl,rfl,rfl,rfl,rfl,rfl,rfl,rfl,rfl,rfl,rfl,trivial⟩<|ak (X' :=[_,_]) (S' :=[_]) (fun _ m=>m)<|ag<|aU<|ax<|aW<|ax<|ax<|aW<|ax<| ?_
      refine ak (fun w m=>m.dx (r' :=aG 5 1 (.slice none 0 0) 0 []) (.refl _ _) (Own.nil _ _ _ _) (fun k hk=>hk.elim)) ?_
      exact fe trivial rfl rfl qo je rfl (fun m=>(m.aY 1 rfl).ay) [0] rfl [] rfl ⟨_,_,rfl,rfl,rfl⟩
     ·rw[mZ hq0 hok hdo (by rw[ht];show¬z<(o.length:Int)+((c8-124:Nat):Int);omega)]at hU
      have hma:made (l.drop i) o=again dd (c8-124) o:=by unfold made;rw[ht];exact if_neg (show¬dd=0 by omega)
      rw[hma,ht,List.drop_drop]at hU
      refine aD<|ag<|ah<|ah<|aj<|hy (fun _=>ab rfl)<|ai<|ag<|aK<| ?_
      refine kr (fun k2 o2 A4 c4=>c8-124-k2) (fun k2 o2 A4 c4=>[(5,.slice A4 (o2:List UInt8).length c4),(10,.int .i64 (k2:Nat))]) (fun k2 o2 A4 c4=>[aG 5 1 (.slice A4 o2.length c4) o2.length (aQ o2)]) (fun k2 o2 A4 c4=>[]) (fun k2 o2 A4 c4=>k2≤c8-124∧o2.length=o.length+k2∧again dd (c8-124-k2) o2=again dd (c8-124) o) 0 o A3 c3 [(86,_),(78,_),(9,_),(58,_),(23,_),(8,_),(14,_),(6,_),(7,_),(4,_),(0,_),(1,_)] ⟨rfl,rfl,rfl,rfl,rfl,rfl,rfl,rfl,rfl,rfl,rfl,rfl,trivial⟩ [0] rfl [] rfl (⟨Nat.zero_le _,rfl,rfl⟩) ⟨rfl,rfl,trivial⟩ (fun k2 o2 A4 c4 ⟨hk2,ho2,hag⟩=> ?_)
      refine ah<|ah<|aj<|hy (fun _=>aa rfl)<|hy (fun _=>aa rfl)<|hy (fun _=>ck rfl rfl (bD (by omega) (by omega)))<|hy (fun _=>bw rfl rfl)<|ai<|al (ρ' :=[(91,_),(5,_),(10,_),(86,_),(78,_),(9,_),(58,_),(23,_),(8,_),(14,_),(6,_),(7,_),(4,_),(0,_),(1,_)]) ⟨rfl,rfl,rfl,rfl,rfl,rfl,rfl,rfl,rfl,rfl,rfl,rfl,rfl,rfl,rfl,trivial⟩<|ag<| ?_
      refine cD rfl (fun hk=> ?_) (fun hk=> ?_)
      ·have hk3:k2<c8-124:=by omega
       have hi2:o2.length-dd<o2.length:=by omega
       have hs:again dd (c8-124-k2) o2=again dd (c8-124-(k2+1)) (o2++[o2.getD (o2.length-dd) 0]):=by
        rw[show c8-124-k2=(c8-124-(k2+1))+1 by omega];rfl
       rw[hs]at hag
       refine aZ (fun m=>(m.ord 0 rfl).2.1) fun hA_x=> ?_
       refine aD<|ag<|ah<|aK<|aj<|hy (fun _=>aa rfl)<|hy (fun _=>aa rfl)<|hy (fun _=>aa rfl)<|hy (fun _=>aX rfl Tryz.underlying27)<|hy (fun _=>aa rfl)<|hy (fun _=>ck rfl rfl (bD (by omega) (by omega)))<|hy (fun _=>aO rfl rfl Tryz.underlying27 dZ hA_x (show((o2.length-dd:Nat):Int)=_ by omega) (by omega))<|hy (fun m=>aw rfl jt ((m.ord 0 rfl).cell (bI (by omega))))<| ?_
       refine hx (bV Tryz.underlying27 eP rfl rfl rfl (by simp[Value.cells,B8]) (by decide) (by decide) (fun g102=> ?_))
       have hA_b102:0<1→(some (⟨g102,0,none⟩:Addr))≠none:=fun _ h=>by cases h
       refine aR (fun w m=>m.bO 0 rfl (show _=aG 5 1 (.slice (some ⟨g102,0,none⟩) 1 1) 1 (aQ [o2.getD (o2.length-dd) 0])from rfl)) ?_
       refine hx (bH 1 rfl rfl rfl Tryz.underlying27 Tryz.underlying27 (by exact .inl rfl) eP rfl (fun m=>Src.bY (m.ord 0 rfl)) aS (by unfold maxLen;omega) (by omega) (fun u=> ?_))
       refine aB (fun m=>(m.own 0 rfl).slice) ?_
       rintro⟨A_x,c_x,rfl,hc_x⟩
       refine aB (fun m=>(m.ord 0 rfl).2.1) fun hA_x=> ?_
       have hlm:o2.length+1=(o2++[o2.getD (o2.length-dd) 0]).length:=by rw[List.length_append];rfl
       rw[hlm]at hc_x hA_x ⊢
       refine aR (fun w m=>m.bO 0 rfl (show _=aG 5 1 (.slice A_x (o2++[o2.getD (o2.length-dd) 0]).length c_x) (o2++[o2.getD (o2.length-dd) 0]).length (aQ (o2++[o2.getD (o2.length-dd) 0]))from congrArg (aG _ _ _ _) (by rw[bs]))) ?_
       refine hy (fun _=>ab rfl)<|ai<|al (ρ' :=[(5,_),(91,_),(10,_),(86,_),(78,_),(9,_),(58,_),(23,_),(8,_),(14,_),(6,_),(7,_),(4,_),(0,_),(1,_)]) ⟨rfl,rfl,rfl,rfl,rfl,rfl,rfl,rfl,rfl,rfl,rfl,rfl,rfl,rfl,rfl,trivial⟩<|ak (X' :=[_,_,_]) (S' :=[_]) (fun _ m=>m)<|aT<|ag<|aj<|hy (fun _=>aa rfl)<|hy (fun _=>aM rfl rfl (bD (by omega) (by omega)))<|hy (fun _=>ab rfl)<|ai<|al (ρ' :=[(10,_),(5,_),(91,_),(86,_),(78,_),(9,_),(58,_),(23,_),(8,_),(14,_),(6,_),(7,_),(4,_),(0,_),(1,_)]) ⟨rfl,rfl,rfl,rfl,rfl,rfl,rfl,rfl,rfl,rfl,rfl,rfl,rfl,rfl,rfl,trivial⟩<| ?_
       refine gr (k2+1) (o2++[o2.getD (o2.length-dd) 0]) A_x c_x ⟨rfl,rfl,rfl,rfl,rfl,rfl,rfl,rfl,rfl,rfl,rfl,rfl,rfl,rfl,trivial⟩ [0,1] rfl [0] rfl (⟨by omega,by rw[←hlm];omega,hag⟩) (by omega)
      ·obtain rfl:k2=c8-124:=by omega
       rw[Nat.sub_self]at hag
       have hag:o2=again dd (c8-124) o:=hag
       rw[←hag]at hU
       refine bK<|ao<|ao<|aC<|ag<|aj<|hy (fun _=>aa rfl)<|hy (fun _=>yV (aM rfl rfl (bD (by omega) (by omega))) ((show Value.int .i64 _= .int .i64 ((i+3:Nat):Int) by congr 1)))<|hy (fun _=>ab rfl)<|ai<|al (ρ' :=[(7,_),(91,_),(5,_),(10,_),(86,_),(78,_),(9,_),(58,_),(23,_),(8,_),(14,_),(6,_),(4,_),(0,_),(1,_)]) ⟨rfl,rfl,rfl,rfl,rfl,rfl,rfl,rfl,rfl,rfl,rfl,rfl,rfl,rfl,rfl,trivial⟩<|aT<|ag<|aj<|hy (fun _=>aa rfl)<|hy (fun _=>aM rfl rfl (bD (by omega) (by omega)))<|hy (fun _=>ab rfl)<|ai<|al (ρ' :=[(6,_),(7,_),(91,_),(5,_),(10,_),(86,_),(78,_),(9,_),(58,_),(23,_),(8,_),(14,_),(4,_),(0,_),(1,_)]) ⟨rfl,rfl,rfl,rfl,rfl,rfl,rfl,rfl,rfl,rfl,rfl,rfl,rfl,rfl,rfl,trivial⟩<| ?_
       refine pc (i+3) o2 (nn+1) A4 c4 ⟨rfl,rfl,rfl,rfl,rfl,rfl,trivial⟩ [0,0] rfl [0] rfl (⟨by omega,by omega,by omega,hU⟩) (by omega)
 ·obtain rfl:i=n:=by omega
  rw[List.drop_of_length_le (by omega),om]at hU
  rw[←hU]
  refine bK<|ao<|ao<|aC<|ag<|ah<|aj<|hy (fun _=>aa rfl)<|hy (fun _=>aa rfl)<|hy (fun _=>cn nw rfl rfl (by kernel_rfl) (.cons (o:=0) (sz:=1) (by kernel_rfl) rfl rfl (Nat.le_of_ble_eq_true rfl) (.cons (o:=1) (sz:=1) (by kernel_rfl) rfl rfl (Nat.le_of_ble_eq_true rfl) .nil)))<| ?_
  refine cI (aJ 1 rfl rfl rfl je rfl jQ rfl ?_)
  refine ai<|al (ρ' :=[(14,_),(5,_),(6,_),(7,_),(4,_),(0,_),(1,_)]) ⟨rfl,rfl,rfl,rfl,rfl,rfl,rfl,trivial⟩<|ak (X' :=[_,_]) (S' :=[_]) (fun _ m=>m)<|ag<|aU<| ?_
  exact fe trivial rfl rfl qo je rfl (fun m=>(m.aY 0 rfl).ay) [1] rfl [] rfl ⟨_,_,rfl,rfl,rfl⟩
end Go.Proofs.YtmibdabdlgmafaaGreatDoor
end
section
set_option maxRecDepth 20000
set_option maxHeartbeats 4000000
namespace Go.Proofs.YtmibdabdlgmafaaGreatDoor
open Go.Eng Go.Hx
def zB(f:List UInt8):Int:=match gq f with|none=>-1|some k=>(k:Nat)
theorem kF{f:List UInt8}(h:gq f=none):zB f=-1:=by unfold zB;rw[h]
theorem qZ{f:List UInt8}{k:Nat}(h:gq f=some k):zB f=(k:Nat):=by unfold zB;rw[h]
theorem Fu{A:Option Addr}{n c:Nat}{f:List UInt8}(hl:f.length=n)(hn:n≤10000000):cf Tryz.prog 216 [.slice A n c] [] [c6 1 A n (aQ f)] (fun v_ X_ S_=>v_=(.int .i64 (zB f))∧X_=[]∧S_=[]):=by
 have hv:j8 (f.drop 2)=(f.getD 2 0).toNat+256*(f.getD 3 0).toNat+65536*(f.getD 4 0).toNat+16777216*(f.getD 5 0).toNat:=by simp[j8,List.getD]
 have b0:=(f.getD 2 0).toNat_lt
 have b1:=(f.getD 3 0).toNat_lt
 have b2:=(f.getD 4 0).toNat_lt
 have b3:=(f.getD 5 0).toNat_lt
 have h76:(((f.getD 0 0).toNat:Int)≠76)↔f.getD 0 0≠76:=by
  constructor
  ·intro h e;rw[e]at h;exact h rfl
  ·intro h e;exact h (UInt8.toNat_inj.1 (by rw[show(76:UInt8).toNat=76 from rfl];omega))
 refine aP (N:=40) Tryz.func216 rfl rfl (by simp) fun b=> ?_
 refine aZ (fun m=>gz (m.rd 0 rfl)) ?_
 rintro⟨hl_r,hA_r⟩
 by_cases h1:f.length<10
 ·rw[kF (if_pos (.inl h1))]
  refine ah<|aj<|hy (fun _=>ab rfl)<|ai<|ag<|ah<|ah<|aj<|hy (fun _=>aa rfl)<|hy (fun _=>aX rfl Tryz.underlying27)<|hy (fun _=>yT (bw rfl rfl) ((decide_eq_true (by omega))))<|hy (fun _=>aa rfl)<|bx rfl rfl rfl (by decide)<|bx rfl rfl rfl (by decide)<|bx rfl rfl rfl (by decide)<|bx rfl rfl rfl (by decide)<|hy (fun _=>bU rfl rfl)<|hy (fun _=>aa rfl)<|bx rfl rfl rfl (by decide)<|bx rfl rfl rfl (by decide)<|bx rfl rfl rfl (by decide)<|bx rfl rfl rfl (by decide)<|hy (fun _=>bU rfl rfl)<|ai<|al (ρ' :=[(17,_),(2,_),(0,_)]) ⟨rfl,rfl,rfl,trivial⟩<|ag<| ?_
  refine ib rfl (rfl) ?_
  refine ah<|aj<|hy (fun _=>ab rfl)<|ai<|ag<|aU<|ax<| ?_
  exact bc trivial rfl rfl [] rfl [] rfl ⟨rfl,rfl,rfl⟩
 ·by_cases h2:f.getD 0 0≠76
  ·rw[kF (if_pos (.inr (.inl h2)))]
   refine ah<|aj<|hy (fun _=>ab rfl)<|ai<|ag<|ah<|ah<|aj<|hy (fun _=>aa rfl)<|hy (fun _=>aX rfl Tryz.underlying27)<|hy (fun _=>yF (bw rfl rfl) ((decide_eq_false (by omega))))<|hy (fun _=>aa rfl)<|dQ (o:=_) rfl rfl rfl (fun _=>aa rfl)<|dQ (o:=_) rfl rfl rfl (fun _=>aO rfl rfl Tryz.underlying27 dZ hA_r (show((0:Nat):Int)=0 from rfl) (by omega))<|dQ (o:=_) rfl rfl rfl (fun m=>aw rfl jt ((m.rd 0 rfl).cell (bI (by omega))))<|dQ (o:=_) rfl rfl rfl (fun _=>yT (dN rfl rfl) ((decide_eq_true (h76.2 h2))))<|hy (fun _=>bP rfl rfl)<|hy (fun _=>aa rfl)<|bx rfl rfl rfl (by decide)<|bx rfl rfl rfl (by decide)<|bx rfl rfl rfl (by decide)<|bx rfl rfl rfl (by decide)<|hy (fun _=>bU rfl rfl)<|ai<|al (ρ' :=[(17,_),(2,_),(0,_)]) ⟨rfl,rfl,rfl,trivial⟩<|ag<| ?_
   refine ib rfl (rfl) ?_
   refine ah<|aj<|hy (fun _=>ab rfl)<|ai<|ag<|aU<|ax<| ?_
   exact bc trivial rfl rfl [] rfl [] rfl ⟨rfl,rfl,rfl⟩
  ·by_cases h3:1<(f.getD 1 0).toNat
   ·rw[kF (if_pos (.inr (.inr h3)))]
    refine ah<|aj<|hy (fun _=>ab rfl)<|ai<|ag<|ah<|ah<|aj<|hy (fun _=>aa rfl)<|hy (fun _=>aX rfl Tryz.underlying27)<|hy (fun _=>yF (bw rfl rfl) ((decide_eq_false (by omega))))<|hy (fun _=>aa rfl)<|dQ (o:=_) rfl rfl rfl (fun _=>aa rfl)<|dQ (o:=_) rfl rfl rfl (fun _=>aO rfl rfl Tryz.underlying27 dZ hA_r (show((0:Nat):Int)=0 from rfl) (by omega))<|dQ (o:=_) rfl rfl rfl (fun m=>aw rfl jt ((m.rd 0 rfl).cell (bI (by omega))))<|dQ (o:=_) rfl rfl rfl (fun _=>yF (dN rfl rfl) ((decide_eq_false (fun q=>h2 (h76.1 q)))))<|hy (fun _=>bP rfl rfl)<|hy (fun _=>aa rfl)<|dQ (o:=_) rfl rfl rfl (fun _=>aa rfl)<|dQ (o:=_) rfl rfl rfl (fun _=>aO rfl rfl Tryz.underlying27 dZ hA_r (show((1:Nat):Int)=1 from rfl) (by omega))<|dQ (o:=_) rfl rfl rfl (fun m=>aw rfl jt ((m.rd 0 rfl).cell (bI (by omega))))<|dQ (o:=_) rfl rfl rfl (fun _=>yT (cR rfl rfl) ((decide_eq_true (by omega))))<|hy (fun _=>bP rfl rfl)<|ai<|al (ρ' :=[(17,_),(2,_),(0,_)]) ⟨rfl,rfl,rfl,trivial⟩<|ag<| ?_
    refine ib rfl (rfl) ?_
    refine ah<|aj<|hy (fun _=>ab rfl)<|ai<|ag<|aU<|ax<| ?_
    exact bc trivial rfl rfl [] rfl [] rfl ⟨rfl,rfl,rfl⟩
   ·refine ah<|aj<|hy (fun _=>ab rfl)<|ai<|ag<|ah<|ah<|aj<|hy (fun _=>aa rfl)<|hy (fun _=>aX rfl Tryz.underlying27)<|hy (fun _=>yF (bw rfl rfl) ((decide_eq_false (by omega))))<|hy (fun _=>aa rfl)<|dQ (o:=_) rfl rfl rfl (fun _=>aa rfl)<|dQ (o:=_) rfl rfl rfl (fun _=>aO rfl rfl Tryz.underlying27 dZ hA_r (show((0:Nat):Int)=0 from rfl) (by omega))<|dQ (o:=_) rfl rfl rfl (fun m=>aw rfl jt ((m.rd 0 rfl).cell (bI (by omega))))<|dQ (o:=_) rfl rfl rfl (fun _=>yF (dN rfl rfl) ((decide_eq_false (fun q=>h2 (h76.1 q)))))<|hy (fun _=>bP rfl rfl)<|hy (fun _=>aa rfl)<|dQ (o:=_) rfl rfl rfl (fun _=>aa rfl)<|dQ (o:=_) rfl rfl rfl (fun _=>aO rfl rfl Tryz.underlying27 dZ hA_r (show((1:Nat):Int)=1 from rfl) (by omega))<|dQ (o:=_) rfl rfl rfl (fun m=>aw rfl jt ((m.rd 0 rfl).cell (bI (by omega))))<|dQ (o:=_) rfl rfl rfl (fun _=>yF (cR rfl rfl) ((decide_eq_false (by omega))))<|hy (fun _=>bP rfl rfl)<|ai<|al (ρ' :=[(17,_),(2,_),(0,_)]) ⟨rfl,rfl,rfl,trivial⟩<|ag<| ?_
    refine dP rfl (rfl) ?_
    have hL:gq f=some (j8 (f.drop 2)):=if_neg (fun q=>q.elim h1 (fun q=>q.elim h2 h3))
    rw[qZ hL]
    refine aD<|ag<|ah<|cN [] [(0,some 0),(1,some 0),(2,some 0),(3,some 0),(4,some 0),(5,some 0),(6,some 0),(7,some 0),(8,some 0),(9,some 0),(10,some 0),(11,some 0),(12,some 0),(13,some 0),(14,some 0),(15,some 0),(16,some 0),(17,some 0),(18,some 0),(19,some 0),(20,some 0),(21,some 0),(22,some 0)] (by kernel_rfl) (by kernel_rfl) rfl 99<|an (aa rfl)<|an (aO rfl rfl Tryz.underlying27 dZ hA_r (show((2:Nat):Int)=2 from rfl) (by omega))<|b6 (fun m=>aw rfl jt ((m.rd 0 rfl).cell (bI (by omega))))<|an (bT rfl Tryz.underlying5 Tryz.underlying3 (As _))<|an (aa rfl)<|an (aO rfl rfl Tryz.underlying27 dZ hA_r (show((3:Nat):Int)=3 from rfl) (by omega))<|b6 (fun m=>aw rfl jt ((m.rd 0 rfl).cell (bI (by omega))))<|an (bT rfl Tryz.underlying5 Tryz.underlying3 (As _))<|an (fp rfl rfl (bD (by omega) (by omega)))<|an (aM rfl rfl (bD (by omega) (by omega)))<|an (aa rfl)<|an (aO rfl rfl Tryz.underlying27 dZ hA_r (show((4:Nat):Int)=4 from rfl) (by omega))<|b6 (fun m=>aw rfl jt ((m.rd 0 rfl).cell (bI (by omega))))<|an (bT rfl Tryz.underlying5 Tryz.underlying3 (As _))<|an (fp rfl rfl (bD (by omega) (by omega)))<|an (aM rfl rfl (bD (by omega) (by omega)))<|an (aa rfl)<|an (aO rfl rfl Tryz.underlying27 dZ hA_r (show((5:Nat):Int)=5 from rfl) (by omega))<|b6 (fun m=>aw rfl jt ((m.rd 0 rfl).cell (bI (by omega))))<|an (bT rfl Tryz.underlying5 Tryz.underlying3 (As _))<|an (fp rfl rfl (bD (by omega) (by omega)))<|an (yV (aM rfl rfl (bD (by omega) (by omega))) ((show Value.int .i64 (((f.getD 2 0).toNat:Int)+256*((f.getD 3 0).toNat:Int)+65536*((f.getD 4 0).toNat:Int)+16777216*((f.getD 5 0).toNat:Int))= .int .i64 (j8 (f.drop 2):Nat) by rw[hv];congr 1)))<|an (ab rfl)<|bz<|al (ρ' :=[(2,_),(17,_),(0,_)]) ⟨rfl,rfl,rfl,trivial⟩<|ag<|aU<| ?_
    exact bc trivial rfl rfl [] rfl [] rfl ⟨rfl,rfl,rfl⟩
theorem me{f u:List UInt8}{k:Nat}(h:uR f k=(u,0)):fC f k=if u.length≠k then([],2)else if fZ (cJ u)≠f.drop (f.length-4)then([],7)else(u,0):=by
 unfold fC
 rw[h]
 exact if_neg (by simp)
theorem yx{f:List UInt8}{k:Nat}(h:(uR f k).2≠0):fC f k=([],2):=by
 unfold fC
 exact if_pos h
theorem CS{A:Option Addr}{n c:Nat}{f:List UInt8}{most:Int}(hc:n≤c)(hl:f.length=n)(hn:n≤10000000)(hm:most≤1000000):cf Tryz.prog 156 [.slice A n c,.int .i64 most] [] [c6 1 A n (aQ f)] (fun v_ X_ S_=>∃A1 c1,v_=(.tuple #[.slice A1 (cS f most).1.length c1,.int .i64 (cS f most).2])∧X_=[]∧S_=[c6 1 A1 (cS f most).1.length (aQ (cS f most).1)]∧((cS f most).1.length≤c1)):=by
 refine aP (N:=48) Tryz.func156 rfl rfl (by simp) fun b=> ?_
 refine aZ (fun m=>gz (m.rd 0 rfl)) ?_
 rintro⟨hl_r,hA_r⟩
 refine ah<|aj<|hy (fun _=>ab rfl)<|hy (fun _=>ab rfl)<|ai<|ag<|ah<|aj<|hy (fun _=>aa rfl)<| ?_
 refine hx (aq rfl Tryz.call216 (Fu hl hn) [] rfl [0] rfl ?_)
 rintro _ _ _ ⟨rfl,rfl,rfl⟩
 refine hy (fun _=>ab rfl)<|ai<|al (ρ' :=[(6,_),(5,_),(4,_),(0,_),(1,_)]) ⟨rfl,rfl,rfl,rfl,rfl,trivial⟩<|ak (X' :=[]) (S' :=[_]) (fun _ m=>m)<|ag<|ah<|ah<|aj<|hy (fun _=>aa rfl)<|hy (fun _=>bw rfl rfl)<|ai<|al (ρ' :=[(12,_),(6,_),(5,_),(4,_),(0,_),(1,_)]) ⟨rfl,rfl,rfl,rfl,rfl,rfl,trivial⟩<|ag<| ?_
 rcases hL:gq f with _|k
 ·refine ib rfl ((decide_eq_true (by rw[kF hL];decide))) ?_
  rw[(oN hL)]
  refine ah<|aj<|hy (fun _=>ab rfl)<|hy (fun _=>ab rfl)<|ai<|ag<|aU<|ax<| ?_
  refine ak (fun w m=>m.pO (r' :=c6 1 none 0 []) (.refl _ _) (Rd.nil _ _ _) (fun k hk=>absurd rfl hk.1)) ?_
  have hA_z:0<0→(none:Option Addr)≠none:=fun h=>absurd h (by decide)
  exact dg trivial rfl rfl rfl [] rfl [0] rfl ⟨none,0,rfl,rfl,rfl,(Nat.le_refl _)⟩
 ·rw[qZ hL]
  refine dP rfl ((decide_eq_false (by omega))) ?_
  refine aD<|ag<|ah<|ah<|aj<|hy (fun _=>aa rfl)<|hy (fun _=>aa rfl)<|hy (fun _=>cR rfl rfl)<|ai<|al (ρ' :=[(15,_),(12,_),(6,_),(5,_),(4,_),(0,_),(1,_)]) ⟨rfl,rfl,rfl,rfl,rfl,rfl,rfl,trivial⟩<|ag<| ?_
  refine cD rfl (fun hfar=> ?_) (fun hfar=> ?_)
  ·rw[(qG hL (by omega))]
   refine ah<|aj<|hy (fun _=>ab rfl)<|hy (fun _=>ab rfl)<|ai<|ag<|aU<|ax<| ?_
   refine ak (fun w m=>m.pO (r' :=c6 1 none 0 []) (.refl _ _) (Rd.nil _ _ _) (fun k hk=>absurd rfl hk.1)) ?_
   have hA_z:0<0→(none:Option Addr)≠none:=fun h=>absurd h (by decide)
   exact dg trivial rfl rfl rfl [] rfl [0] rfl ⟨none,0,rfl,rfl,rfl,(Nat.le_refl _)⟩
  ·obtain⟨h10,hk32⟩:=sD hL
   have hopen:=tj hL (by omega)
   refine bB (fun w m=>m.j6 0 rfl (View.sub (n:=n) (c:=c) (k:=6) (m:=n-4-6) (by omega) (by omega))) ?_
   refine aZ (fun m=>gz (m.rd 0 rfl)) ?_
   rintro⟨hl_p,hA_p⟩
   have hbl:n-4-6=(de f).length:=by unfold de;rw[List.length_take,List.length_drop];omega
   have hb2:(f.drop 6).take (n-4-6)=de f:=by unfold de;rw[show n-4-6=f.length-10 by omega]
   rw[hb2]
   refine aD<|ag<|ah<|aj<|hy (fun _=>aa rfl)<|hy (fun _=>aa rfl)<|hy (fun _=>aX rfl Tryz.underlying27)<|hy (fun _=>ck rfl rfl (bD (by omega) (by omega)))<|hy (fun _=>ey rfl rfl rfl Tryz.underlying27 dZ (show((6:Nat):Int)=6 from rfl) (show((n-4:Nat):Int)=_ by omega) (by omega) (by omega))<|hy (fun _=>ab rfl)<|ai<|al (ρ' :=[(7,_),(15,_),(12,_),(6,_),(5,_),(4,_),(0,_),(1,_)]) ⟨rfl,rfl,rfl,rfl,rfl,rfl,rfl,rfl,trivial⟩<|ag<|ah<|ah<|aj<|hy (fun _=>aa rfl)<|hy (fun _=>aO rfl rfl Tryz.underlying27 dZ hA_r (show((1:Nat):Int)=1 from rfl) (by omega))<|hy (fun m=>aw rfl jt ((m.rd 1 rfl).cell (bI (by omega))))<|hy (fun _=>cH rfl rfl)<|ai<|al (ρ' :=[(24,_),(7,_),(15,_),(12,_),(6,_),(5,_),(4,_),(0,_),(1,_)]) ⟨rfl,rfl,rfl,rfl,rfl,rfl,rfl,rfl,rfl,trivial⟩<|ag<| ?_
   refine cD rfl (fun h1=> ?_) (fun h1=> ?_)
   ·have hf1:f.getD 1 0=1:=UInt8.toNat_inj.1 (by rw[show(1:UInt8).toNat=1 from rfl];omega)
    have hun:uR f k=jr k (de f) []:=if_pos hf1
    refine ah<|aj<|hy (fun _=>aa rfl)<|hy (fun _=>aa rfl)<| ?_
    refine hx (aq rfl Tryz.call217 (ye (show n-4-6≤c-6 by omega) (by omega) hbl.symm (show(k:Int)≤10000000 by omega) (l:=(de f))) [] rfl [0] rfl ?_)
    rintro _ _ _ ⟨v,nn,rfl,rfl,rfl⟩
    refine aB (fun m=>(m.own 0 rfl).slice) ?_
    rintro⟨A_x,c_x,rfl,hc_x⟩
    refine aB (fun m=>(m.ord 0 rfl).2.1) fun hA_x=> ?_
    refine hx (aN nw (fun g8=> ?_))
    refine cI (aJ 0 rfl rfl rfl je rfl jQ rfl ?_)
    refine ai<|al (ρ' :=[(8,_),(24,_),(7,_),(15,_),(12,_),(6,_),(5,_),(4,_),(0,_),(1,_)]) ⟨rfl,rfl,rfl,rfl,rfl,rfl,rfl,rfl,rfl,rfl,trivial⟩<|ak (X' :=[_,_]) (S' :=[_,_]) (fun _ m=>m)<|ag<|ah<|ah<|aj<|hy (fun _=>aL rfl AL (by decide))<|hy (fun m=>aw rfl k8 (aA (m.aY 0 rfl) (i:=2) rfl))<|hy (fun _=>dN rfl rfl)<|ai<|al (ρ' :=[(30,_),(8,_),(24,_),(7,_),(15,_),(12,_),(6,_),(5,_),(4,_),(0,_),(1,_)]) ⟨rfl,rfl,rfl,rfl,rfl,rfl,rfl,rfl,rfl,rfl,rfl,trivial⟩<|ag<| ?_
    refine cD rfl (fun he=> ?_) (fun he=> ?_)
    ·have hz:cS f most=([],2):=by rw[hopen,yx (by rw[hun];exact he)]
     rw[hz]
     refine ah<|aj<|hy (fun _=>ab rfl)<|hy (fun _=>ab rfl)<|ai<|ag<|aU<|ax<|ax<| ?_
     refine ak (fun w m=>m.pO (r' :=c6 1 none 0 []) (.refl _ _) (Rd.nil _ _ _) (fun k hk=>absurd rfl hk.1)) ?_
     have hA_z:0<0→(none:Option Addr)≠none:=fun h=>absurd h (by decide)
     exact dg trivial rfl rfl rfl [] rfl [0] rfl ⟨none,0,rfl,rfl,rfl,(Nat.le_refl _)⟩
    ·have he:=Decidable.not_not.1 he
     have hun2:uR f k=((jr k (de f) []).1,0):=by rw[hun];exact Prod.ext rfl he
     refine bB (fun w m=>(m.perm (ar [1] _ [_] _ rfl)).freeze) ?_
     refine bB (fun w m=>m.j6 0 rfl .own) ?_
     generalize(jr k (de f) []).1=u at hc_x hA_x hun2 ⊢
     refine aD<|ag<|aj<|hy (fun _=>aL rfl AE (by decide))<|hy (fun m=>aw rfl dX (aA (m.aY 0 rfl) (i:=0) rfl))<|hy (fun _=>ab rfl)<|ai<|al (ρ' :=[(7,_),(30,_),(8,_),(24,_),(15,_),(12,_),(6,_),(5,_),(4,_),(0,_),(1,_)]) ⟨rfl,rfl,rfl,rfl,rfl,rfl,rfl,rfl,rfl,rfl,rfl,trivial⟩<|ag<|ah<|ah<|aj<|hy (fun _=>aa rfl)<|hy (fun _=>aX rfl Tryz.underlying27)<|hy (fun _=>aa rfl)<|hy (fun _=>dN rfl rfl)<|ai<|al (ρ' :=[(36,_),(7,_),(30,_),(8,_),(24,_),(15,_),(12,_),(6,_),(5,_),(4,_),(0,_),(1,_)]) ⟨rfl,rfl,rfl,rfl,rfl,rfl,rfl,rfl,rfl,rfl,rfl,rfl,trivial⟩<|ag<| ?_
     refine cD rfl (fun h36=> ?_) (fun h36=> ?_)
     ·have hz:cS f most=([],2):=by rw[hopen,me hun2];exact if_pos (by omega)
      rw[hz]
      refine ah<|aj<|hy (fun _=>ab rfl)<|hy (fun _=>ab rfl)<|ai<|ag<|aU<|ax<| ?_
      refine ak (fun w m=>m.pO (r' :=c6 1 none 0 []) (.refl _ _) (Rd.nil _ _ _) (fun k hk=>absurd rfl hk.1)) ?_
      have hA_z:0<0→(none:Option Addr)≠none:=fun h=>absurd h (by decide)
      exact dg trivial rfl rfl rfl [] rfl [0] rfl ⟨none,0,rfl,rfl,rfl,(Nat.le_refl _)⟩
     ·have hlu:(u).length=k:=by omega
      have hgo:cS f most=if fZ (cJ u)≠f.drop (f.length-4)then([],7)else(u,0):=by rw[hopen,me hun2];exact if_neg (fun q=>q hlu)
      refine bB (fun w m=>m.j6 3 rfl (View.drop (n:=n) (c:=c) (k:=n-4) (by omega) (by omega))) ?_
      refine aZ (fun m=>gz (m.rd 0 rfl)) ?_
      rintro⟨hl_e4,hA_e4⟩
      refine aD<|ag<|ah<|ah<|cN [1,2] [(0,some 0),(3,some 2),(4,some 2),(5,some 2),(6,some 2),(7,some 2),(8,some 2),(1,none),(2,none),(9,some 2)] (by kernel_rfl) (by kernel_rfl) rfl 99<|an (aa rfl)<|an (aa rfl)<|an (aa rfl)<|an (aX rfl Tryz.underlying27)<|an (ck rfl rfl (bD (by omega) (by omega)))<|an (eh rfl rfl Tryz.underlying27 dZ (show((n-4:Nat):Int)=_ by omega) (by omega))<|b6 (fun m=>jX rfl Tryz.underlying27 Tryz.underlying5 Tryz.underlying9 (m.rd 0 rfl))<| ?_
      refine dT (aq rfl Tryz.call161 (wz hc_x (by omega) rfl (l:=u)) [] rfl [1] rfl ?_)
      rintro _ _ _ ⟨v2,rfl,rfl,rfl⟩
      refine⟨(fun _=>wk [1] [0,1,2,3,4] rfl rfl), ?_⟩
      refine b9 (fun m=>(m.own 0 rfl).slice) ?_
      rintro⟨A_x2,c_x2,rfl,hc_x2⟩
      refine b9 (fun m=>(m.ord 0 rfl).2.1) fun hA_x2=> ?_
      refine Ep (fun _=>wk [1] [0,1,2,3,4] rfl rfl) (fun m=>jX rfl Tryz.underlying27 Tryz.underlying5 Tryz.underlying9 (m.ord 0 rfl))<|an (pb rfl rfl)<|bz<|al (ρ' :=[(46,_),(36,_),(7,_),(30,_),(8,_),(24,_),(15,_),(12,_),(6,_),(5,_),(4,_),(0,_),(1,_)]) ⟨rfl,rfl,rfl,rfl,rfl,rfl,rfl,rfl,rfl,rfl,rfl,rfl,rfl,trivial⟩<|ak (X' :=[_,_]) (S' :=[_,_,_,_,_]) (fun _ m=>m)<|ag<| ?_
      refine cD rfl (fun h46=> ?_) (fun h46=> ?_)
      ·have hz:cS f most=([],7):=by rw[hgo];exact if_pos (fun e=>h46 (by rw[e,hl]))
       rw[hz]
       refine ah<|aj<|hy (fun _=>ab rfl)<|hy (fun _=>ab rfl)<|ai<|ag<|aU<|ax<| ?_
       refine ak (fun w m=>m.pO (r' :=c6 1 none 0 []) (.refl _ _) (Rd.nil _ _ _) (fun k hk=>absurd rfl hk.1)) ?_
       have hA_z:0<0→(none:Option Addr)≠none:=fun h=>absurd h (by decide)
       exact dg trivial rfl rfl rfl [] rfl [0] rfl ⟨none,0,rfl,rfl,rfl,(Nat.le_refl _)⟩
      ·have h46:=cA.1 (Decidable.not_not.1 h46)
       have hz:cS f most=(u,0):=by rw[hgo];exact if_neg (fun q=>q (by rw[h46,hl]))
       rw[hz]
       refine aD<|ag<|ah<|aj<|hy (fun _=>aa rfl)<|hy (fun _=>ab rfl)<|hy (fun _=>ab rfl)<|ai<|al (ρ' :=[(5,_),(4,_),(46,_),(36,_),(7,_),(30,_),(8,_),(24,_),(15,_),(12,_),(6,_),(0,_),(1,_)]) ⟨rfl,rfl,rfl,rfl,rfl,rfl,rfl,rfl,rfl,rfl,rfl,rfl,rfl,trivial⟩<|ag<|aU<| ?_
       exact dg trivial rfl rfl rfl [] rfl [1] rfl ⟨_,_,rfl,rfl,rfl,hc_x⟩
   ·have hf1:¬f.getD 1 0=1:=fun q=>h1 (by rw[q];rfl)
    have hun:uR f k=(de f,0):=if_neg hf1
    rw[hbl]
    refine aD<|ag<|ah<|ah<|aj<|hy (fun _=>aa rfl)<|hy (fun _=>aX rfl Tryz.underlying27)<|hy (fun _=>aa rfl)<|hy (fun _=>dN rfl rfl)<|ai<|al (ρ' :=[(36,_),(24,_),(7,_),(15,_),(12,_),(6,_),(5,_),(4,_),(0,_),(1,_)]) ⟨rfl,rfl,rfl,rfl,rfl,rfl,rfl,rfl,rfl,rfl,trivial⟩<|ag<| ?_
    refine cD rfl (fun h36=> ?_) (fun h36=> ?_)
    ·have hz:cS f most=([],2):=by rw[hopen,me hun];exact if_pos (by omega)
     rw[hz]
     refine ah<|aj<|hy (fun _=>ab rfl)<|hy (fun _=>ab rfl)<|ai<|ag<|aU<|ax<| ?_
     refine ak (fun w m=>m.pO (r' :=c6 1 none 0 []) (.refl _ _) (Rd.nil _ _ _) (fun k hk=>absurd rfl hk.1)) ?_
     have hA_z:0<0→(none:Option Addr)≠none:=fun h=>absurd h (by decide)
     exact dg trivial rfl rfl rfl [] rfl [0] rfl ⟨none,0,rfl,rfl,rfl,(Nat.le_refl _)⟩
    ·have hlu:((de f)).length=k:=by omega
     have hgo:cS f most=if fZ (cJ (de f))≠f.drop (f.length-4)then([],7)else((de f),0):=by rw[hopen,me hun];exact if_neg (fun q=>q hlu)
     refine bB (fun w m=>m.j6 1 rfl (View.drop (n:=n) (c:=c) (k:=n-4) (by omega) (by omega))) ?_
     refine aZ (fun m=>gz (m.rd 0 rfl)) ?_
     rintro⟨hl_e4,hA_e4⟩
     refine aD<|ag<|ah<|ah<|cN [1,2] [(0,some 0),(3,some 2),(4,some 2),(5,some 2),(6,some 2),(7,some 2),(8,some 2),(1,none),(2,none),(9,some 2)] (by kernel_rfl) (by kernel_rfl) rfl 99<|an (aa rfl)<|an (aa rfl)<|an (aa rfl)<|an (aX rfl Tryz.underlying27)<|an (ck rfl rfl (bD (by omega) (by omega)))<|an (eh rfl rfl Tryz.underlying27 dZ (show((n-4:Nat):Int)=_ by omega) (by omega))<|b6 (fun m=>jX rfl Tryz.underlying27 Tryz.underlying5 Tryz.underlying9 (m.rd 0 rfl))<| ?_
     refine dT (aq rfl Tryz.call161 (wz (show(de f).length≤c-6 by omega) (by omega) rfl (l:=(de f))) [] rfl [1] rfl ?_)
     rintro _ _ _ ⟨v,rfl,rfl,rfl⟩
     refine⟨(fun _=>wk [] [0,1,2] rfl rfl), ?_⟩
     refine b9 (fun m=>(m.own 0 rfl).slice) ?_
     rintro⟨A_x,c_x,rfl,hc_x⟩
     refine b9 (fun m=>(m.ord 0 rfl).2.1) fun hA_x=> ?_
     refine Ep (fun _=>wk [] [0,1,2] rfl rfl) (fun m=>jX rfl Tryz.underlying27 Tryz.underlying5 Tryz.underlying9 (m.ord 0 rfl))<|an (pb rfl rfl)<|bz<|al (ρ' :=[(46,_),(36,_),(24,_),(7,_),(15,_),(12,_),(6,_),(5,_),(4,_),(0,_),(1,_)]) ⟨rfl,rfl,rfl,rfl,rfl,rfl,rfl,rfl,rfl,rfl,rfl,trivial⟩<|ak (X' :=[_]) (S' :=[_,_,_]) (fun _ m=>m)<|ag<| ?_
     refine cD rfl (fun h46=> ?_) (fun h46=> ?_)
     ·have hz:cS f most=([],7):=by rw[hgo];exact if_pos (fun e=>h46 (by rw[e,hl]))
      rw[hz]
      refine ah<|aj<|hy (fun _=>ab rfl)<|hy (fun _=>ab rfl)<|ai<|ag<|aU<|ax<| ?_
      refine ak (fun w m=>m.pO (r' :=c6 1 none 0 []) (.refl _ _) (Rd.nil _ _ _) (fun k hk=>absurd rfl hk.1)) ?_
      have hA_z:0<0→(none:Option Addr)≠none:=fun h=>absurd h (by decide)
      exact dg trivial rfl rfl rfl [] rfl [0] rfl ⟨none,0,rfl,rfl,rfl,(Nat.le_refl _)⟩
     ·have h46:=cA.1 (Decidable.not_not.1 h46)
      have hz:cS f most=((de f),0):=by rw[hgo];exact if_neg (fun q=>q (by rw[h46,hl]))
      rw[hz]
      refine aD<|ag<|ah<|aj<|hy (fun _=>aa rfl)<|hy (fun _=>ab rfl)<|hy (fun _=>ab rfl)<|ai<|al (ρ' :=[(5,_),(4,_),(46,_),(36,_),(24,_),(7,_),(15,_),(12,_),(6,_),(0,_),(1,_)]) ⟨rfl,rfl,rfl,rfl,rfl,rfl,rfl,rfl,rfl,rfl,rfl,trivial⟩<|ag<|aU<| ?_
      exact dg trivial rfl rfl rfl [] rfl [1] rfl ⟨_,_,rfl,rfl,rfl,(show(de f).length≤c-6 by omega)⟩
end Go.Proofs.YtmibdabdlgmafaaGreatDoor
end
section
set_option maxRecDepth 20000
namespace Go.Proofs.YtmibdabdlgmafaaGreatDoor
open Go.Eng Go.Hx
theorem iP{x:UInt32}{n:Nat}(hn:n≤32):cf Tryz.prog 204 [Wd x,.int .i64 (n:Int)] [] [] (fun v_ X_ S_=>v_=(Wd (kq n x))∧X_=[]∧S_=[]):=by
 refine aP (N:=18) Tryz.func204 rfl rfl (by simp) fun b=> ?_
 refine ah<|aj<|hy (fun _=>ab rfl)<|ai<|ag<|ah<|ah<|aj<|hy (fun _=>ab rfl)<|ai<|ag<|aK<| ?_
 refine yL (fun i y=>n-i) (fun i y=>[(0,Wd y),(5,.int .i64 (i:Nat))]) (fun i y=>[]) (fun i y=>[]) (fun i y=>i≤n∧y=kq i x) 0 x [(4,_),(1,_)] ⟨rfl,rfl,trivial⟩ [] rfl [] rfl (⟨Nat.zero_le _,(xa x).symm⟩) ⟨rfl,rfl,trivial⟩ (fun i y ⟨hin,hyv⟩=> ?_)
 refine ah<|ah<|aj<|hy (fun _=>aa rfl)<|hy (fun _=>aa rfl)<|hy (fun _=>bw rfl rfl)<|ai<|al (ρ' :=[(8,_),(0,_),(5,_),(4,_),(1,_)]) ⟨rfl,rfl,rfl,rfl,rfl,trivial⟩<|ag<| ?_
 refine cD rfl (fun h=> ?_) (fun h=> ?_)
 ·refine aD<|ag<|ah<|aK<|aj<|hy (fun _=>aa rfl)<|hy (fun _=>rl (b:=2) (by decide) rfl rfl)<|hy (fun _=>aa rfl)<|hy (fun _=>xZ (b:=2) (by decide) rfl rfl)<|hy (fun _=>rX (b:=2147483648) rfl rfl)<|hy (fun _=>yV (c9 rfl rfl) ((rfl:_=Wd (tg y))))<|hy (fun _=>ab rfl)<|ai<|al (ρ' :=[(0,_),(8,_),(5,_),(4,_),(1,_)]) ⟨rfl,rfl,rfl,rfl,rfl,trivial⟩<|aT<|ag<|aj<|hy (fun _=>aa rfl)<|hy (fun _=>aM rfl rfl (bD (by omega) (by omega)))<|hy (fun _=>ab rfl)<|ai<|al (ρ' :=[(5,_),(0,_),(8,_),(4,_),(1,_)]) ⟨rfl,rfl,rfl,rfl,rfl,trivial⟩<| ?_
  refine tY (i+1) (tg y) ⟨rfl,rfl,rfl,rfl,trivial⟩ [] rfl [] rfl (⟨by omega,by rw[hyv,wP (by omega)]⟩) (by omega)
 ·obtain rfl:i=n:=by omega
  subst hyv
  refine bK<|ao<|ao<|aC<|ag<|ah<|aj<|hy (fun _=>aa rfl)<|hy (fun _=>ab rfl)<|ai<|al (ρ' :=[(4,_),(8,_),(0,_),(5,_),(1,_)]) ⟨rfl,rfl,rfl,rfl,rfl,trivial⟩<|ag<|aU<| ?_
  exact bc trivial rfl rfl [] rfl [] rfl ⟨rfl,rfl,rfl⟩
theorem ED{A:Option Addr}{n c:Nat}{l:List UInt8}{i:Nat}(hi:i+4≤n)(hn:n≤1000000000000):cf Tryz.prog 203 [.slice A n c,.int .i64 (i:Int)] [] [c6 1 A n (aQ l)] (fun v_ X_ S_=>v_=(Wd (kj l i))∧X_=[]∧S_=[]):=by
 refine aP (N:=34) Tryz.func203 rfl rfl (by simp) fun b=> ?_
 refine aZ (fun m=>gz (m.rd 0 rfl)) ?_
 rintro⟨hl_r,hA_r⟩
 have hl:l.length=n:=hl_r
 refine ah<|aj<|hy (fun _=>ab rfl)<|ai<|ag<|ah<|cN [] [(0,some 0),(1,some 0),(2,some 0),(3,some 0),(4,some 0),(5,some 0),(6,some 0),(7,some 0),(8,some 0),(9,some 0),(10,some 0),(11,some 0),(12,some 0),(13,some 0),(14,some 0),(15,some 0),(16,some 0),(17,some 0),(18,some 0),(19,some 0),(20,some 0),(21,some 0),(22,some 0),(23,some 0),(24,some 0),(25,some 0),(26,some 0),(27,some 0),(28,some 0),(29,some 0)] (by kernel_rfl) (by kernel_rfl) rfl 99<|an (aa rfl)<|an (aa rfl)<|an (aO rfl rfl Tryz.underlying27 dZ hA_r rfl (by omega))<|b6 (fun m=>aw rfl jt ((m.rd 0 rfl).cell (bI (by omega))))<|an (yX rfl Tryz.underlying5 Tryz.underlying166)<|an (rX (b:=16777216) rfl rfl)<|an (aa rfl)<|an (aa rfl)<|an (aM rfl rfl (bD (by omega) (by omega)))<|an (aO rfl rfl Tryz.underlying27 dZ hA_r (show((i+1:Nat):Int)=_ by omega) (by omega))<|b6 (fun m=>aw rfl jt ((m.rd 0 rfl).cell (bI (by omega))))<|an (yX rfl Tryz.underlying5 Tryz.underlying166)<|an (rX (b:=65536) rfl rfl)<|an (c9 rfl rfl)<|an (aa rfl)<|an (aa rfl)<|an (aM rfl rfl (bD (by omega) (by omega)))<|an (aO rfl rfl Tryz.underlying27 dZ hA_r (show((i+2:Nat):Int)=_ by omega) (by omega))<|b6 (fun m=>aw rfl jt ((m.rd 0 rfl).cell (bI (by omega))))<|an (yX rfl Tryz.underlying5 Tryz.underlying166)<|an (rX (b:=256) rfl rfl)<|an (c9 rfl rfl)<|an (aa rfl)<|an (aa rfl)<|an (aM rfl rfl (bD (by omega) (by omega)))<|an (aO rfl rfl Tryz.underlying27 dZ hA_r (show((i+3:Nat):Int)=_ by omega) (by omega))<|b6 (fun m=>aw rfl jt ((m.rd 0 rfl).cell (bI (by omega))))<|an (yX rfl Tryz.underlying5 Tryz.underlying166)<|an (yV (c9 rfl rfl) ((show Wd ((l.getD i 0).toUInt32*16777216+(l.getD (i+1) 0).toUInt32*65536+(l.getD (i+2) 0).toUInt32*256+(l.getD (i+3) 0).toUInt32)=Wd (kj l i) by rw[xG])))<|an (ab rfl)<|bz<|al (ρ' :=[(4,_),(0,_),(1,_)]) ⟨rfl,rfl,rfl,trivial⟩<|ag<|aU<| ?_
 exact bc trivial rfl rfl [] rfl [] rfl ⟨rfl,rfl,rfl⟩
theorem Bo:cf Tryz.prog 202 [] [] [] (fun v_ X_ S_=>∃v,v_=v∧X_=[aG 166 1 v 64 (dV fy)]∧S_=[]):=by
 refine aP (N:=2) Tryz.func202 rfl rfl (by simp) fun b=> ?_
 refine ah<|aj<|hy (fun _=>ab rfl)<|ai<|ag<|ah<|aj<| ?_
 refine hx (bV Tryz.underlying215 nG rfl rfl rfl (by decide) (by decide) (by decide) (fun g1=> ?_))
 have hA_b1:0<64→(some (⟨g1,0,none⟩:Addr))≠none:=fun _ h=>by cases h
 refine hy (fun _=>ab rfl)<|ai<|al (ρ' :=[(0,_)]) ⟨rfl,trivial⟩<|ak (X' :=[_]) (S' :=[]) (fun _ m=>m)<|ag<|aU<| ?_
 refine ak (fun w m=>m.bO 0 rfl (show _=aG 166 1 (.slice (some ⟨g1,0,none⟩) 64 64) 64 (dV fy)from rfl)) ?_
 exact bc trivial rfl rfl [0] rfl [] rfl ⟨_,rfl,rfl,rfl⟩
theorem Bt{H:Option Addr}{hc:Nat}{A:Option Addr}{c:Nat}{l:List UInt8}{h:List UInt32}(hcc:64≤c)(hh:h.length=8):cf Tryz.prog 142 [.slice H 8 hc,.slice A 64 c] [] [c6 1 H 8 (dV h),c6 1 A 64 (aQ l)] (fun v_ X_ S_=>∃u,v_=u∧X_=[aG 166 1 u 8 (dV (eg h l))]∧S_=[]):=by
 refine aP (N:=230) Tryz.func142 rfl rfl (by simp) fun b=> ?_
 refine aZ (fun m=>jq (m.rd 0 rfl)) ?_
 rintro⟨hl_q,hA_q⟩
 refine aZ (fun m=>gz (m.rd 1 rfl)) ?_
 rintro⟨hl_r,hA_r⟩
 have hl:l.length=64:=hl_r
 refine ah<|aj<|hy (fun _=>ab rfl)<|ai<|ag<|ah<|aj<| ?_
 refine hx (aq rfl Tryz.call202 (Bo) [] rfl [] rfl ?_)
 rintro _ _ _ ⟨v,rfl,rfl,rfl⟩
 refine aB (fun m=>(m.own 0 rfl).slice) ?_
 rintro⟨A_x,c_x,rfl,hc_x⟩
 refine aB (fun m=>(m.ord 0 rfl).2.1) fun hA_x=> ?_
 refine hy (fun _=>ab rfl)<|ai<|al (ρ' :=[(5,_),(4,_),(0,_),(1,_)]) ⟨rfl,rfl,rfl,rfl,trivial⟩<|ak (X' :=[_]) (S' :=[_,_]) (fun _ m=>m)<|ag<|ah<|aj<|hy (fun _=>ab rfl)<|ai<|ag<|ah<|ah<|aj<|hy (fun _=>ab rfl)<|ai<|ag<|aK<| ?_
 refine bB (fun w m=>m.dx (r' :=aG 166 1 (.slice none 0 0) 0 []) (.refl _ _) (Own.nil _ _ _ _) (fun k hk=>hk.elim)) ?_
 refine bB (fun w m=>m.bO 0 rfl (show _=aG 166 1 (.slice none 0 0) 0 (dV (wl l 0))from rfl)) ?_
 refine fv (fun i A1 c1=>16-i) (fun i A1 c1=>[(6,.slice A1 i c1),(7,.int .i64 (i:Nat))]) (fun i A1 c1=>[aG 166 1 (.slice A1 i c1) i (dV (wl l i))]) (fun i A1 c1=>[]) (fun i A1 c1=>i≤16) 0 none 0 [(5,_),(4,_),(0,_),(1,_)] ⟨rfl,rfl,rfl,rfl,trivial⟩ [0] rfl [] rfl (Nat.zero_le _) ⟨rfl,rfl,trivial⟩ (fun i A1 c1 hI=> ?_)
 refine ah<|ah<|aj<|hy (fun _=>aa rfl)<|hy (fun _=>bw rfl rfl)<|ai<|al (ρ' :=[(21,_),(6,_),(7,_),(5,_),(4,_),(0,_),(1,_)]) ⟨rfl,rfl,rfl,rfl,rfl,rfl,rfl,trivial⟩<|ag<| ?_
 refine cD rfl (fun hlt=> ?_) (fun hlt=> ?_)
 ·have hws:wl l (i+1)=wl l i++[kj l (4*i)]:=by rw[wl,if_pos (by omega)]
  refine aD<|ag<|ah<|aK<|aj<|hy (fun _=>aa rfl)<|hy (fun _=>aa rfl)<|hy (fun _=>aa rfl)<|hy (fun _=>fp rfl rfl (bD (by omega) (by omega)))<| ?_
  rw[show(4:Int)*(i:Int)=((4*i:Nat):Int) by omega]
  refine hx (aq rfl Tryz.call203 (ED (by omega) (by omega) (i:=4*i)) [] rfl [1] rfl ?_)
  rintro _ _ _ ⟨rfl,rfl,rfl⟩
  refine hx (bV Tryz.underlying215 nG rfl rfl rfl (by simp[Value.cells,B8]) (by decide) (by decide) (fun g29=> ?_))
  have hA_b29:0<1→(some (⟨g29,0,none⟩:Addr))≠none:=fun _ h=>by cases h
  refine aR (fun w m=>m.bO 0 rfl (show _=aG 166 1 (.slice (some ⟨g29,0,none⟩) 1 1) 1 (dV [kj l (4*i)])from rfl)) ?_
  refine hx (bH 1 rfl rfl rfl Tryz.underlying215 Tryz.underlying215 (by exact .inl rfl) nG rfl (fun m=>Src.bY (m.ord 0 rfl)) gF (by unfold maxLen;omega) (by omega) (fun u=> ?_))
  refine aB (fun m=>(m.own 0 rfl).slice) ?_
  rintro⟨A_o,c_o,rfl,hc_o⟩
  refine aB (fun m=>(m.ord 0 rfl).2.1) fun hA_o=> ?_
  refine aR (fun w m=>m.bO 0 rfl (show _=aG 166 1 (.slice A_o (i+1) c_o) (i+1) (dV (wl l (i+1)))from by rw[hws,pK])) ?_
  refine hy (fun _=>ab rfl)<|ai<|al (ρ' :=[(6,_),(21,_),(7,_),(5,_),(4,_),(0,_),(1,_)]) ⟨rfl,rfl,rfl,rfl,rfl,rfl,rfl,trivial⟩<|ak (X' :=[_,_,_]) (S' :=[_,_]) (fun _ m=>m)<|aT<|ag<|aj<|hy (fun _=>aa rfl)<|hy (fun _=>aM rfl rfl (bD (by omega) (by omega)))<|hy (fun _=>ab rfl)<|ai<|al (ρ' :=[(7,_),(6,_),(21,_),(5,_),(4,_),(0,_),(1,_)]) ⟨rfl,rfl,rfl,rfl,rfl,rfl,rfl,trivial⟩<| ?_
  refine eZ (i+1) A_o c_o ⟨rfl,rfl,rfl,rfl,rfl,rfl,trivial⟩ [0,1] rfl [0,1] rfl (by omega) (by omega)
 ·obtain rfl:i=16:=by omega
  refine bK<|ao<|ao<|aC<|ag<|ah<|ah<|aj<|hy (fun _=>ab rfl)<|ai<|ag<|aK<| ?_
  refine fv (fun i A1 c1=>64-i) (fun i A1 c1=>[(6,.slice A1 i c1),(8,.int .i64 (i:Nat))]) (fun i A1 c1=>[aG 166 1 (.slice A1 i c1) i (dV (wl l i))]) (fun i A1 c1=>[]) (fun i A1 c1=>16≤i∧i≤64) 16 A1 c1 [(21,_),(7,_),(5,_),(4,_),(0,_),(1,_)] ⟨rfl,rfl,rfl,rfl,rfl,rfl,trivial⟩ [0] rfl [] rfl (⟨Nat.le_refl _,by decide⟩) ⟨rfl,rfl,trivial⟩ (fun i A1 c1 ⟨hi16,hi64⟩=> ?_)
  have hwl:=fh l i
  refine aZ (fun m=>(m.ord 0 rfl).2.1) fun hA_o=> ?_
  refine ah<|ah<|aj<|hy (fun _=>aa rfl)<|hy (fun _=>bw rfl rfl)<|ai<|al (ρ' :=[(32,_),(6,_),(8,_),(21,_),(7,_),(5,_),(4,_),(0,_),(1,_)]) ⟨rfl,rfl,rfl,rfl,rfl,rfl,rfl,rfl,rfl,trivial⟩<|ag<| ?_
  refine cD rfl (fun hlt=> ?_) (fun hlt=> ?_)
  ·have hws:wl l (i+1)=wl l i++[ml (wl l i) i]:=by rw[wl,if_neg (by omega)]
   refine aD<|ag<|ah<|aK<|ah<|cN [5,11] [(0,some 0),(1,some 2),(2,some 0),(3,some 0),(4,some 0),(6,some 1),(7,some 1),(8,some 1),(9,some 1),(10,some 1),(13,some 2),(14,some 2),(15,some 2),(16,some 2),(17,some 2),(18,some 2),(5,none),(11,none),(12,some 2),(19,some 2),(20,some 2)] (by kernel_rfl) (by kernel_rfl) rfl 99<|an (aa rfl)<|an (aa rfl)<|an (ck rfl rfl (bD (by omega) (by omega)))<|an (aO rfl rfl Tryz.underlying215 bF hA_o (show((i-15:Nat):Int)=_ by omega) (by omega))<|b6 (fun m=>aw rfl bM ((m.ord 0 rfl).cell (j:=i-15) (bf (by omega))))<|an (aa rfl)<|an (aa rfl)<|an (ck rfl rfl (bD (by omega) (by omega)))<|an (aO rfl rfl Tryz.underlying215 bF hA_o (show((i-15:Nat):Int)=_ by omega) (by omega))<|b6 (fun m=>aw rfl bM ((m.ord 0 rfl).cell (j:=i-15) (bf (by omega))))<|an (aa rfl)<|an (aa rfl)<|an (ck rfl rfl (bD (by omega) (by omega)))<|an (aO rfl rfl Tryz.underlying215 bF hA_o (show((i-15:Nat):Int)=_ by omega) (by omega))<|b6 (fun m=>aw rfl bM ((m.ord 0 rfl).cell (j:=i-15) (bf (by omega))))<|an (rl (b:=8) (by decide) rfl rfl)<| ?_
   refine dT (aq rfl Tryz.call204 (iP (by omega) (n:=7)) [] rfl [] rfl ?_)
   rintro _ _ _ ⟨rfl,rfl,rfl⟩
   refine⟨(fun _=>wk [0,0] [0,1] rfl rfl), ?_⟩
   refine dT (aq rfl Tryz.call204 (iP (by omega) (n:=18)) [] rfl [] rfl ?_)
   rintro _ _ _ ⟨rfl,rfl,rfl⟩
   refine⟨(fun _=>wk [0,0] [0,1] rfl rfl), ?_⟩
   refine an (dW rfl rfl)<|an (dW rfl rfl)<|an (ab rfl)<|bz<|al (ρ' :=[(9,_),(32,_),(6,_),(8,_),(21,_),(7,_),(5,_),(4,_),(0,_),(1,_)]) ⟨rfl,rfl,rfl,rfl,rfl,rfl,rfl,rfl,rfl,rfl,trivial⟩<|ak (X' :=[_,_]) (S' :=[_,_]) (fun _ m=>m)<|ag<|ah<|cN [5,11] [(0,some 0),(1,some 2),(2,some 0),(3,some 0),(4,some 0),(6,some 1),(7,some 1),(8,some 1),(9,some 1),(10,some 1),(13,some 2),(14,some 2),(15,some 2),(16,some 2),(17,some 2),(18,some 2),(5,none),(11,none),(12,some 2),(19,some 2),(20,some 2)] (by kernel_rfl) (by kernel_rfl) rfl 99<|an (aa rfl)<|an (aa rfl)<|an (ck rfl rfl (bD (by omega) (by omega)))<|an (aO rfl rfl Tryz.underlying215 bF hA_o (show((i-2:Nat):Int)=_ by omega) (by omega))<|b6 (fun m=>aw rfl bM ((m.ord 0 rfl).cell (j:=i-2) (bf (by omega))))<|an (aa rfl)<|an (aa rfl)<|an (ck rfl rfl (bD (by omega) (by omega)))<|an (aO rfl rfl Tryz.underlying215 bF hA_o (show((i-2:Nat):Int)=_ by omega) (by omega))<|b6 (fun m=>aw rfl bM ((m.ord 0 rfl).cell (j:=i-2) (bf (by omega))))<|an (aa rfl)<|an (aa rfl)<|an (ck rfl rfl (bD (by omega) (by omega)))<|an (aO rfl rfl Tryz.underlying215 bF hA_o (show((i-2:Nat):Int)=_ by omega) (by omega))<|b6 (fun m=>aw rfl bM ((m.ord 0 rfl).cell (j:=i-2) (bf (by omega))))<|an (rl (b:=1024) (by decide) rfl rfl)<| ?_
   refine dT (aq rfl Tryz.call204 (iP (by omega) (n:=17)) [] rfl [] rfl ?_)
   rintro _ _ _ ⟨rfl,rfl,rfl⟩
   refine⟨(fun _=>wk [0,0] [0,1] rfl rfl), ?_⟩
   refine dT (aq rfl Tryz.call204 (iP (by omega) (n:=19)) [] rfl [] rfl ?_)
   rintro _ _ _ ⟨rfl,rfl,rfl⟩
   refine⟨(fun _=>wk [0,0] [0,1] rfl rfl), ?_⟩
   refine an (dW rfl rfl)<|an (dW rfl rfl)<|an (ab rfl)<|bz<|al (ρ' :=[(10,_),(9,_),(32,_),(6,_),(8,_),(21,_),(7,_),(5,_),(4,_),(0,_),(1,_)]) ⟨rfl,rfl,rfl,rfl,rfl,rfl,rfl,rfl,rfl,rfl,rfl,trivial⟩<|ak (X' :=[_,_]) (S' :=[_,_]) (fun _ m=>m)<|ag<|cN [5,16,17] [(0,some 2),(1,some 3),(2,some 3),(3,some 3),(4,some 3),(6,some 3),(8,some 3),(9,some 3),(10,some 3),(11,some 3),(12,some 1),(14,some 1),(5,none),(7,some 1),(13,some 1),(15,some 1),(16,none),(17,none),(18,some 3)] (by kernel_rfl) (by kernel_rfl) rfl 2<|an (aa rfl)<|an (aa rfl)<|an (aa rfl)<|an (ck rfl rfl (bD (by omega) (by omega)))<|an (aO rfl rfl Tryz.underlying215 bF hA_o (show((i-16:Nat):Int)=_ by omega) (by omega))<|an (aa rfl)<|an (aa rfl)<|an (aa rfl)<|an (ck rfl rfl (bD (by omega) (by omega)))<|an (aO rfl rfl Tryz.underlying215 bF hA_o (show((i-7:Nat):Int)=_ by omega) (by omega))<|b6 (fun m=>aw rfl bM ((m.ord 0 rfl).cell (j:=i-7) (bf (by omega))))<|an (aa rfl)<|Ep (fun _=>wk [0,0] [0,1] rfl rfl) (fun m=>aw rfl bM ((m.ord 0 rfl).cell (j:=i-16) (bf (by omega))))<|an (c9 rfl rfl)<|an (c9 rfl rfl)<|an (yV (c9 rfl rfl) ((rfl:_=Wd (ml (wl l i) i))))<| ?_
   refine dT (bV Tryz.underlying215 nG rfl rfl rfl (by exact tF (l:=[_])) (by decide) (by decide) (fun g91=>⟨(fun _=>wk [1,1] [0,1] rfl rfl), ?_⟩))
   have hA_b91:0<1→(some (⟨g91,0,none⟩:Addr))≠none:=fun _ h=>by cases h
   refine fg (fun w m=>m.bO 0 rfl (show _=aG 166 1 (.slice (some ⟨g91,0,none⟩) 1 1) 1 (dV [ml (wl l i) i])from rfl)) ?_
   refine dT (bH 1 rfl rfl rfl Tryz.underlying215 Tryz.underlying215 (by exact .inl rfl) nG rfl (fun m=>Src.bY (m.ord 0 rfl)) gF (by unfold maxLen;omega) (by omega) (fun u=>⟨(fun h=>absurd h (by decide)), ?_⟩))
   refine b9 (fun m=>(m.own 0 rfl).slice) ?_
   rintro⟨A_o,c_o,rfl,hc_o⟩
   refine b9 (fun m=>(m.ord 0 rfl).2.1) fun hA_o=> ?_
   refine fg (fun w m=>m.bO 0 rfl (show _=aG 166 1 (.slice A_o (i+1) c_o) (i+1) (dV (wl l (i+1)))from by rw[hws,pK])) ?_
   refine an (ab rfl)<|bz<|al (ρ' :=[(6,_),(10,_),(9,_),(32,_),(8,_),(21,_),(7,_),(5,_),(4,_),(0,_),(1,_)]) ⟨rfl,rfl,rfl,rfl,rfl,rfl,rfl,rfl,rfl,rfl,rfl,trivial⟩<|ak (X' :=[_,_,_]) (S' :=[_,_]) (fun _ m=>m)<|aT<|ag<|aj<|hy (fun _=>aa rfl)<|hy (fun _=>aM rfl rfl (bD (by omega) (by omega)))<|hy (fun _=>ab rfl)<|ai<|al (ρ' :=[(8,_),(6,_),(10,_),(9,_),(32,_),(21,_),(7,_),(5,_),(4,_),(0,_),(1,_)]) ⟨rfl,rfl,rfl,rfl,rfl,rfl,rfl,rfl,rfl,rfl,rfl,trivial⟩<| ?_
   refine eZ (i+1) A_o c_o ⟨rfl,rfl,rfl,rfl,rfl,rfl,rfl,rfl,trivial⟩ [0,1] rfl [0,1] rfl (⟨by omega,by omega⟩) (by omega)
  ·obtain rfl:i=64:=by omega
   obtain⟨W,hW⟩:∃W,wl l 64=W:=⟨_,rfl⟩
   have hw64:W.length=64:=by rw[←hW];exact fh l 64
   rw[hW]
   refine bK<|ao<|ao<|aC<|ag<|ah<|aj<|hy (fun _=>ab rfl)<|ai<|ag<|ah<|aj<|hy (fun _=>aa rfl)<|hy (fun _=>aa rfl)<| ?_
   refine aR (fun w m=>m.dx (r' :=aG 166 1 (.slice none 0 0) 0 []) (.refl _ _) (Own.nil _ _ _ _) (fun k hk=>hk.elim)) ?_
   refine hx (bH 0 rfl rfl rfl Tryz.underlying215 Tryz.underlying215 (by exact .inl rfl) nG rfl (fun m=>Src.bY (m.rd 0 rfl)) gF (by unfold maxLen;omega) (by omega) (fun u=> ?_))
   refine aB (fun m=>(m.own 0 rfl).slice) ?_
   rintro⟨A_v,c_v,rfl,hc_v⟩
   refine aB (fun m=>(m.ord 0 rfl).2.1) fun hA_v=> ?_
   refine aR (fun w m=>m.bO 0 rfl (show _=aG 166 1 (.slice A_v 8 c_v) 8 (dV (kB W h 0))from rfl)) ?_
   refine hy (fun _=>ab rfl)<|ai<|al (ρ' :=[(11,_),(32,_),(6,_),(8,_),(21,_),(7,_),(5,_),(4,_),(0,_),(1,_)]) ⟨rfl,rfl,rfl,rfl,rfl,rfl,rfl,rfl,rfl,rfl,trivial⟩<|ak (X' :=[_,_,_]) (S' :=[_,_]) (fun _ m=>m)<|ag<|ah<|ah<|aj<|hy (fun _=>ab rfl)<|ai<|ag<|aK<| ?_
   refine fv (fun i A2 c2=>64-i) (fun i A2 c2=>[(11,.slice A2 8 c2),(12,.int .i64 (i:Nat))]) (fun i A2 c2=>[aG 166 1 (.slice A2 8 c2) 8 (dV (kB W h i))]) (fun i A2 c2=>[]) (fun i A2 c2=>i≤64) 0 A_v c_v [(32,_),(6,_),(8,_),(21,_),(7,_),(5,_),(4,_),(0,_),(1,_)] ⟨rfl,rfl,rfl,rfl,rfl,rfl,rfl,rfl,rfl,trivial⟩ [0] rfl [] rfl (Nat.zero_le _) ⟨rfl,rfl,trivial⟩ (fun i A2 c2 hi64=> ?_)
   have hv:=ki (w:=W) hh i
   have hro:fy.length=64:=rfl
   refine aZ (fun m=>(m.ord 0 rfl).2.1) fun hA_v=> ?_
   refine aZ (fun m=>(m.ord 2 rfl).2.1) fun hA_x=> ?_
   refine aZ (fun m=>(m.ord 1 rfl).2.1) fun hA_o=> ?_
   refine ah<|ah<|aj<|hy (fun _=>aa rfl)<|hy (fun _=>bw rfl rfl)<|ai<|al (ρ' :=[(97,_),(11,_),(12,_),(32,_),(6,_),(8,_),(21,_),(7,_),(5,_),(4,_),(0,_),(1,_)]) ⟨rfl,rfl,rfl,rfl,rfl,rfl,rfl,rfl,rfl,rfl,rfl,rfl,trivial⟩<|ag<| ?_
   refine cD rfl (fun hlt=> ?_) (fun hlt=> ?_)
   ·generalize hvd:kB W h i=v at hv ⊢
    refine aD<|ag<|ah<|aK<|ah<|cN [3,7,12] [(0,some 3),(1,some 0),(2,some 0),(4,some 1),(5,some 1),(6,some 1),(9,some 2),(10,some 2),(11,some 2),(3,none),(7,none),(8,some 3),(12,none),(13,some 3),(14,some 3)] (by kernel_rfl) (by kernel_rfl) rfl 99<|an (aa rfl)<|an (aO rfl rfl Tryz.underlying215 bF hA_v (show((4:Nat):Int)=4 from rfl) (by omega))<|b6 (fun m=>aw rfl bM ((m.ord 0 rfl).cell (j:=4) (bf (by omega))))<|an (aa rfl)<|an (aO rfl rfl Tryz.underlying215 bF hA_v (show((4:Nat):Int)=4 from rfl) (by omega))<|b6 (fun m=>aw rfl bM ((m.ord 0 rfl).cell (j:=4) (bf (by omega))))<|an (aa rfl)<|an (aO rfl rfl Tryz.underlying215 bF hA_v (show((4:Nat):Int)=4 from rfl) (by omega))<|b6 (fun m=>aw rfl bM ((m.ord 0 rfl).cell (j:=4) (bf (by omega))))<| ?_
    refine dT (aq rfl Tryz.call204 (iP (by omega) (n:=6)) [] rfl [] rfl ?_)
    rintro _ _ _ ⟨rfl,rfl,rfl⟩
    refine⟨(fun _=>wk [0,0,0] [0,1] rfl rfl), ?_⟩
    refine dT (aq rfl Tryz.call204 (iP (by omega) (n:=11)) [] rfl [] rfl ?_)
    rintro _ _ _ ⟨rfl,rfl,rfl⟩
    refine⟨(fun _=>wk [0,0,0] [0,1] rfl rfl), ?_⟩
    refine an (dW rfl rfl)<| ?_
    refine dT (aq rfl Tryz.call204 (iP (by omega) (n:=25)) [] rfl [] rfl ?_)
    rintro _ _ _ ⟨rfl,rfl,rfl⟩
    refine⟨(fun _=>wk [0,0,0] [0,1] rfl rfl), ?_⟩
    refine an (yV (dW rfl rfl) ((rfl:_=Wd (turns 6 11 25 (v_ v 4)))))<|an (ab rfl)<|bz<|al (ρ' :=[(13,_),(97,_),(11,_),(12,_),(32,_),(6,_),(8,_),(21,_),(7,_),(5,_),(4,_),(0,_),(1,_)]) ⟨rfl,rfl,rfl,rfl,rfl,rfl,rfl,rfl,rfl,rfl,rfl,rfl,rfl,trivial⟩<|ak (X' :=[_,_,_]) (S' :=[_,_]) (fun _ m=>m)<|ag<|ah<|cN [] [(0,some 0),(1,some 0),(2,some 0),(3,some 0),(4,some 0),(5,some 0),(6,some 0),(7,some 0),(8,some 0),(9,some 0),(10,some 0),(11,some 0),(12,some 0),(13,some 0),(14,some 0),(15,some 0),(16,some 0)] (by kernel_rfl) (by kernel_rfl) rfl 99<|an (aa rfl)<|an (aO rfl rfl Tryz.underlying215 bF hA_v (show((4:Nat):Int)=4 from rfl) (by omega))<|b6 (fun m=>aw rfl bM ((m.ord 0 rfl).cell (j:=4) (bf (by omega))))<|an (aa rfl)<|an (aO rfl rfl Tryz.underlying215 bF hA_v (show((5:Nat):Int)=5 from rfl) (by omega))<|b6 (fun m=>aw rfl bM ((m.ord 0 rfl).cell (j:=5) (bf (by omega))))<|an (iK rfl rfl)<|an (aa rfl)<|an (aO rfl rfl Tryz.underlying215 bF hA_v (show((4:Nat):Int)=4 from rfl) (by omega))<|b6 (fun m=>aw rfl bM ((m.ord 0 rfl).cell (j:=4) (bf (by omega))))<|an (AX rfl rfl)<|an (aa rfl)<|an (aO rfl rfl Tryz.underlying215 bF hA_v (show((6:Nat):Int)=6 from rfl) (by omega))<|b6 (fun m=>aw rfl bM ((m.ord 0 rfl).cell (j:=6) (bf (by omega))))<|an (iK rfl rfl)<|an (dW rfl rfl)<|an (ab rfl)<|bz<|al (ρ' :=[(14,_),(13,_),(97,_),(11,_),(12,_),(32,_),(6,_),(8,_),(21,_),(7,_),(5,_),(4,_),(0,_),(1,_)]) ⟨rfl,rfl,rfl,rfl,rfl,rfl,rfl,rfl,rfl,rfl,rfl,rfl,rfl,rfl,trivial⟩<|ag<|ah<|cN [] [(0,some 0),(1,some 0),(2,some 0),(3,some 0),(4,some 0),(5,some 0),(6,some 0),(7,some 0),(8,some 0),(9,some 0),(10,some 0),(11,some 0),(12,some 0),(13,some 0),(14,some 0),(15,some 0),(16,some 0),(17,some 0)] (by kernel_rfl) (by kernel_rfl) rfl 99<|an (aa rfl)<|an (aO rfl rfl Tryz.underlying215 bF hA_v (show((7:Nat):Int)=7 from rfl) (by omega))<|b6 (fun m=>aw rfl bM ((m.ord 0 rfl).cell (j:=7) (bf (by omega))))<|an (aa rfl)<|an (c9 rfl rfl)<|an (aa rfl)<|an (c9 rfl rfl)<|an (aa rfl)<|an (aa rfl)<|an (aO rfl rfl Tryz.underlying215 bF hA_x rfl (by omega))<|b6 (fun m=>aw rfl bM ((m.ord 2 rfl).cell (j:=i) (bf (by omega))))<| ?_
    generalize hk:fy.getD i 0=k
    refine an (c9 rfl rfl)<|an (aa rfl)<|an (aa rfl)<|an (aO rfl rfl Tryz.underlying215 bF hA_o rfl (by omega))<|b6 (fun m=>aw rfl bM ((m.ord 1 rfl).cell (j:=i) (bf (by omega))))<|an (yV (c9 rfl rfl) ((rfl:_=Wd (rt v k (W.getD i 0)))))<|an (ab rfl)<|bz<|al (ρ' :=[(15,_),(14,_),(13,_),(97,_),(11,_),(12,_),(32,_),(6,_),(8,_),(21,_),(7,_),(5,_),(4,_),(0,_),(1,_)]) ⟨rfl,rfl,rfl,rfl,rfl,rfl,rfl,rfl,rfl,rfl,rfl,rfl,rfl,rfl,rfl,trivial⟩<|ag<|ah<|cN [3,7,12] [(0,some 3),(1,some 0),(2,some 0),(4,some 1),(5,some 1),(6,some 1),(9,some 2),(10,some 2),(11,some 2),(3,none),(7,none),(8,some 3),(12,none),(13,some 3),(14,some 3)] (by kernel_rfl) (by kernel_rfl) rfl 99<|an (aa rfl)<|an (aO rfl rfl Tryz.underlying215 bF hA_v (show((0:Nat):Int)=0 from rfl) (by omega))<|b6 (fun m=>aw rfl bM ((m.ord 0 rfl).cell (j:=0) (bf (by omega))))<|an (aa rfl)<|an (aO rfl rfl Tryz.underlying215 bF hA_v (show((0:Nat):Int)=0 from rfl) (by omega))<|b6 (fun m=>aw rfl bM ((m.ord 0 rfl).cell (j:=0) (bf (by omega))))<|an (aa rfl)<|an (aO rfl rfl Tryz.underlying215 bF hA_v (show((0:Nat):Int)=0 from rfl) (by omega))<|b6 (fun m=>aw rfl bM ((m.ord 0 rfl).cell (j:=0) (bf (by omega))))<| ?_
    refine dT (aq rfl Tryz.call204 (iP (by omega) (n:=2)) [] rfl [] rfl ?_)
    rintro _ _ _ ⟨rfl,rfl,rfl⟩
    refine⟨(fun _=>wk [0,0,0] [0,1] rfl rfl), ?_⟩
    refine dT (aq rfl Tryz.call204 (iP (by omega) (n:=13)) [] rfl [] rfl ?_)
    rintro _ _ _ ⟨rfl,rfl,rfl⟩
    refine⟨(fun _=>wk [0,0,0] [0,1] rfl rfl), ?_⟩
    refine an (dW rfl rfl)<| ?_
    refine dT (aq rfl Tryz.call204 (iP (by omega) (n:=22)) [] rfl [] rfl ?_)
    rintro _ _ _ ⟨rfl,rfl,rfl⟩
    refine⟨(fun _=>wk [0,0,0] [0,1] rfl rfl), ?_⟩
    refine an (yV (dW rfl rfl) ((rfl:_=Wd (turns 2 13 22 (v_ v 0)))))<|an (ab rfl)<|bz<|al (ρ' :=[(16,_),(15,_),(14,_),(13,_),(97,_),(11,_),(12,_),(32,_),(6,_),(8,_),(21,_),(7,_),(5,_),(4,_),(0,_),(1,_)]) ⟨rfl,rfl,rfl,rfl,rfl,rfl,rfl,rfl,rfl,rfl,rfl,rfl,rfl,rfl,rfl,rfl,trivial⟩<|ak (X' :=[_,_,_]) (S' :=[_,_]) (fun _ m=>m)<|ag<|ah<|cN [] [(0,some 0),(1,some 0),(2,some 0),(3,some 0),(4,some 0),(5,some 0),(6,some 0),(7,some 0),(8,some 0),(9,some 0),(10,some 0),(11,some 0),(12,some 0),(13,some 0),(14,some 0),(15,some 0),(16,some 0),(17,some 0),(18,some 0),(19,some 0),(20,some 0),(21,some 0),(22,some 0),(23,some 0)] (by kernel_rfl) (by kernel_rfl) rfl 99<|an (aa rfl)<|an (aO rfl rfl Tryz.underlying215 bF hA_v (show((0:Nat):Int)=0 from rfl) (by omega))<|b6 (fun m=>aw rfl bM ((m.ord 0 rfl).cell (j:=0) (bf (by omega))))<|an (aa rfl)<|an (aO rfl rfl Tryz.underlying215 bF hA_v (show((1:Nat):Int)=1 from rfl) (by omega))<|b6 (fun m=>aw rfl bM ((m.ord 0 rfl).cell (j:=1) (bf (by omega))))<|an (iK rfl rfl)<|an (aa rfl)<|an (aO rfl rfl Tryz.underlying215 bF hA_v (show((0:Nat):Int)=0 from rfl) (by omega))<|b6 (fun m=>aw rfl bM ((m.ord 0 rfl).cell (j:=0) (bf (by omega))))<|an (aa rfl)<|an (aO rfl rfl Tryz.underlying215 bF hA_v (show((2:Nat):Int)=2 from rfl) (by omega))<|b6 (fun m=>aw rfl bM ((m.ord 0 rfl).cell (j:=2) (bf (by omega))))<|an (iK rfl rfl)<|an (dW rfl rfl)<|an (aa rfl)<|an (aO rfl rfl Tryz.underlying215 bF hA_v (show((1:Nat):Int)=1 from rfl) (by omega))<|b6 (fun m=>aw rfl bM ((m.ord 0 rfl).cell (j:=1) (bf (by omega))))<|an (aa rfl)<|an (aO rfl rfl Tryz.underlying215 bF hA_v (show((2:Nat):Int)=2 from rfl) (by omega))<|b6 (fun m=>aw rfl bM ((m.ord 0 rfl).cell (j:=2) (bf (by omega))))<|an (iK rfl rfl)<|an (dW rfl rfl)<|an (ab rfl)<|bz<|al (ρ' :=[(17,_),(16,_),(15,_),(14,_),(13,_),(97,_),(11,_),(12,_),(32,_),(6,_),(8,_),(21,_),(7,_),(5,_),(4,_),(0,_),(1,_)]) ⟨rfl,rfl,rfl,rfl,rfl,rfl,rfl,rfl,rfl,rfl,rfl,rfl,rfl,rfl,rfl,rfl,rfl,trivial⟩<|ag<|cN [28] [(0,some 0),(1,some 0),(2,some 0),(3,some 0),(4,some 0),(5,some 0),(6,some 0),(7,some 0),(8,some 0),(9,some 0),(10,some 0),(11,some 0),(12,some 0),(13,some 0),(14,some 0),(15,some 0),(16,some 0),(17,some 0),(18,some 0),(19,some 0),(20,some 0),(21,some 0),(22,some 0),(23,some 0),(24,some 0),(25,some 0),(26,some 0),(27,some 0),(28,none),(29,some 1)] (by kernel_rfl) (by kernel_rfl) rfl 99<|an (aa rfl)<|an (aa rfl)<|an (c9 rfl rfl)<|an (aa rfl)<|an (yV (c9 rfl rfl) ((show Wd (rt v k (W.getD i 0)+turns 2 13 22 (v_ v 0)+((v_ v 0 &&& v_ v 1) ^^^ (v_ v 0 &&& v_ v 2) ^^^ (v_ v 1 &&& v_ v 2)))=Wd (rt v k (W.getD i 0)+ru v) by rw[UInt32.add_assoc];rfl)))<|an (aa rfl)<|an (aO rfl rfl Tryz.underlying215 bF hA_v (show((0:Nat):Int)=0 from rfl) (by omega))<|b6 (fun m=>aw rfl bM ((m.ord 0 rfl).cell (j:=0) (bf (by omega))))<|an (aa rfl)<|an (aO rfl rfl Tryz.underlying215 bF hA_v (show((1:Nat):Int)=1 from rfl) (by omega))<|b6 (fun m=>aw rfl bM ((m.ord 0 rfl).cell (j:=1) (bf (by omega))))<|an (aa rfl)<|an (aO rfl rfl Tryz.underlying215 bF hA_v (show((2:Nat):Int)=2 from rfl) (by omega))<|b6 (fun m=>aw rfl bM ((m.ord 0 rfl).cell (j:=2) (bf (by omega))))<|an (aa rfl)<|an (aO rfl rfl Tryz.underlying215 bF hA_v (show((3:Nat):Int)=3 from rfl) (by omega))<|b6 (fun m=>aw rfl bM ((m.ord 0 rfl).cell (j:=3) (bf (by omega))))<|an (aa rfl)<|an (c9 rfl rfl)<|an (aa rfl)<|an (aO rfl rfl Tryz.underlying215 bF hA_v (show((4:Nat):Int)=4 from rfl) (by omega))<|b6 (fun m=>aw rfl bM ((m.ord 0 rfl).cell (j:=4) (bf (by omega))))<|an (aa rfl)<|an (aO rfl rfl Tryz.underlying215 bF hA_v (show((5:Nat):Int)=5 from rfl) (by omega))<|b6 (fun m=>aw rfl bM ((m.ord 0 rfl).cell (j:=5) (bf (by omega))))<|an (aa rfl)<|an (aO rfl rfl Tryz.underlying215 bF hA_v (show((6:Nat):Int)=6 from rfl) (by omega))<|b6 (fun m=>aw rfl bM ((m.ord 0 rfl).cell (j:=6) (bf (by omega))))<| ?_
    refine dT (bV Tryz.underlying215 nG rfl rfl rfl (by exact tF (l:=[_,_,_,_,_,_,_,_])) (by decide) (by decide) (fun g212=>⟨(fun _=>wk [1,1,1] [0,1] rfl rfl), ?_⟩))
    have hA_b212:0<8→(some (⟨g212,0,none⟩:Addr))≠none:=fun _ h=>by cases h
    refine an (ab rfl)<|bz<|al (ρ' :=[(11,_),(17,_),(16,_),(15,_),(14,_),(13,_),(97,_),(12,_),(32,_),(6,_),(8,_),(21,_),(7,_),(5,_),(4,_),(0,_),(1,_)]) ⟨rfl,rfl,rfl,rfl,rfl,rfl,rfl,rfl,rfl,rfl,rfl,rfl,rfl,rfl,rfl,rfl,rfl,trivial⟩<|ak (X' :=[_,_,_,_]) (S' :=[_,_]) (fun _ m=>m)<|aT<|ag<|aj<|hy (fun _=>aa rfl)<|hy (fun _=>aM rfl rfl (bD (by omega) (by omega)))<|hy (fun _=>ab rfl)<|ai<|al (ρ' :=[(12,_),(11,_),(17,_),(16,_),(15,_),(14,_),(13,_),(97,_),(32,_),(6,_),(8,_),(21,_),(7,_),(5,_),(4,_),(0,_),(1,_)]) ⟨rfl,rfl,rfl,rfl,rfl,rfl,rfl,rfl,rfl,rfl,rfl,rfl,rfl,rfl,rfl,rfl,rfl,trivial⟩<| ?_
    refine ak (fun w m=>m.bO 0 rfl (show _=aG 166 1 (.slice (some ⟨g212,0,none⟩) 8 8) 8 (dV (kB W h (i+1)))from by rw[kB,hvd,hk];rfl)) ?_
    refine eZ (i+1) (some ⟨g212,0,none⟩) 8 ⟨rfl,rfl,rfl,rfl,rfl,rfl,rfl,rfl,rfl,rfl,rfl,trivial⟩ [0,1,1] rfl [0,1] rfl (by omega) (by omega)
   ·obtain rfl:i=64:=by omega
    generalize hvv:kB W h 64=v at hv ⊢
    refine bB (fun w m=>m.bO 0 rfl (show _=aG 166 1 (.slice A2 8 c2) 8 (dV (fA v h 0))from by rw[qy])) ?_
    refine bK<|ao<|ao<|aC<|ag<|ah<|ah<|aj<|hy (fun _=>ab rfl)<|ai<|ag<|aK<| ?_
    refine dz (fun j=>8-j) (fun j=>[(18,.int .i64 (j:Nat))]) (fun j=>[aG 166 1 (.slice A2 8 c2) 8 (dV (fA v h j))]) (fun j=>[]) (fun j=>j≤8) 0 [(97,_),(11,_),(12,_),(32,_),(6,_),(8,_),(21,_),(7,_),(5,_),(4,_),(0,_),(1,_)] ⟨rfl,rfl,rfl,rfl,rfl,rfl,rfl,rfl,rfl,rfl,rfl,rfl,trivial⟩ [0] rfl [] rfl (Nat.zero_le _) ⟨rfl,trivial⟩ (fun j hj8=> ?_)
    have hsl:(fA v h j).length=v.length:=by simp[fA]
    refine ah<|ah<|aj<|hy (fun _=>aa rfl)<|hy (fun _=>bw rfl rfl)<|ai<|al (ρ' :=[(214,_),(18,_),(97,_),(11,_),(12,_),(32,_),(6,_),(8,_),(21,_),(7,_),(5,_),(4,_),(0,_),(1,_)]) ⟨rfl,rfl,rfl,rfl,rfl,rfl,rfl,rfl,rfl,rfl,rfl,rfl,rfl,rfl,trivial⟩<|ag<| ?_
    refine cD rfl (fun hj=> ?_) (fun hj=> ?_)
    ·refine aD<|ag<|ah<|aK<|cN [12] [(0,some 0),(1,some 0),(2,some 0),(3,some 0),(4,some 0),(5,some 0),(6,some 0),(7,some 0),(8,some 0),(9,some 0),(10,some 0),(11,some 0),(12,none)] (by kernel_rfl) (by kernel_rfl) rfl 0<|an (aa rfl)<|an (aa rfl)<|an (aa rfl)<|an (aa rfl)<|an (aO rfl rfl Tryz.underlying215 bF hA_v rfl (by omega))<|b6 (fun m=>aw rfl bM ((m.ord 0 rfl).cell (j:=j) (bf (by omega))))<|an (aa rfl)<|an (aa rfl)<|an (aO rfl rfl Tryz.underlying215 bF hA_q rfl (by omega))<|b6 (fun m=>aw rfl bM ((m.rd 0 rfl).cell (j:=j) (bf (by omega))))<|an (yV (c9 rfl rfl) ((rfl:_=Wd (v_ (fA v h j) j+v_ h j))))<|an (aO rfl rfl Tryz.underlying215 bF hA_v rfl (by omega))<| ?_
     refine j5 (x5 0 rfl rfl rfl bF rfl (by omega) ⟨(fun h=>absurd h (by decide)), ?_⟩)
     refine bz<|al (ρ' :=[(214,_),(18,_),(97,_),(11,_),(12,_),(32,_),(6,_),(8,_),(21,_),(7,_),(5,_),(4,_),(0,_),(1,_)]) ⟨rfl,rfl,rfl,rfl,rfl,rfl,rfl,rfl,rfl,rfl,rfl,rfl,rfl,rfl,trivial⟩<|ak (X' :=[_,_,_]) (S' :=[_,_]) (fun _ m=>m)<|aT<|ag<|aj<|hy (fun _=>aa rfl)<|hy (fun _=>aM rfl rfl (bD (by omega) (by omega)))<|hy (fun _=>ab rfl)<|ai<|al (ρ' :=[(18,_),(214,_),(97,_),(11,_),(12,_),(32,_),(6,_),(8,_),(21,_),(7,_),(5,_),(4,_),(0,_),(1,_)]) ⟨rfl,rfl,rfl,rfl,rfl,rfl,rfl,rfl,rfl,rfl,rfl,rfl,rfl,rfl,trivial⟩<| ?_
     refine ak (fun w m=>m.bO 0 rfl (show _=aG 166 1 (.slice A2 8 c2) 8 (dV (fA v h (j+1)))from by rw[wy,p8 (by omega)])) ?_
     refine cM (j+1) ⟨rfl,rfl,rfl,rfl,rfl,rfl,rfl,rfl,rfl,rfl,rfl,rfl,rfl,trivial⟩ [0,0,0] rfl [0,1] rfl (by omega) (by omega)
    ·obtain rfl:j=8:=by omega
     have hB:fA v h 8=eg h l:=by rw[eg,hW,hvv]
     rw[hB]
     refine bK<|ao<|ao<|aC<|ag<|ah<|aj<|hy (fun _=>aa rfl)<|hy (fun _=>ab rfl)<|ai<|al (ρ' :=[(4,_),(214,_),(18,_),(97,_),(11,_),(12,_),(32,_),(6,_),(8,_),(21,_),(7,_),(5,_),(0,_),(1,_)]) ⟨rfl,rfl,rfl,rfl,rfl,rfl,rfl,rfl,rfl,rfl,rfl,rfl,rfl,rfl,trivial⟩<|ag<|aU<| ?_
     exact bc trivial rfl rfl [0] rfl [] rfl ⟨_,rfl,rfl,rfl⟩
end Go.Proofs.YtmibdabdlgmafaaGreatDoor
end
section
set_option maxRecDepth 20000
namespace Go.Proofs.YtmibdabdlgmafaaGreatDoor
open Go.Eng Go.Hx
def ly(n:Nat):Nat→Nat
 |0=>n
 |i+1=>ly n i/256
theorem pF(n:Nat):∀i,ly n i=n/256 ^ i
 |0=>by simp[ly]
 |i+1=>by rw[ly,pF n i,Nat.div_div_eq_div_mul,Nat.pow_succ]
def o8(n i:Nat):List UInt8:=List.replicate (8-i) 0++(se n).drop (8-i)
theorem kV(n:Nat):(se n).length=8:=by simp[se]
theorem yz(n i:Nat)(h:i≤8):(o8 n i).length=8:=by
 rw[o8,List.length_append,List.length_replicate,List.length_drop,kV];omega
theorem xL{n i:Nat}(hi:i<8):(o8 n i).set (7-i) (UInt8.ofNat (ly n i % 256))=o8 n (i+1):=by
 have e:UInt8.ofNat (ly n i % 256)=UInt8.ofNat (n/256 ^ i):=by
  rw[pF];apply UInt8.toNat_inj.1;simp
 rw[e]
 obtain⟨k,hk⟩:∃k,8-i=k+1:=⟨7-i,by omega⟩
 have h7:7-i=k:=by omega
 have hd:(se n).drop k=UInt8.ofNat (n/256 ^ i)::(se n).drop (k+1):=by
  rw[List.drop_eq_getElem_cons (by rw[kV];omega)]
  congr 1
  simp only[se,List.getElem_map,List.getElem_range]
  congr 3;omega
 rw[o8,o8,hk,h7,show 8-(i+1)=k by omega,hd,List.replicate_succ',List.append_assoc,List.set_append_right _ _ (by simp)]
 simp
theorem Bj{A:Option Addr}{n c:Nat}{l:List UInt8}(hn:n≤140737488351232):cf Tryz.prog 141 [.slice A n c] [] [c6 1 A n (aQ l)] (fun v_ X_ S_=>∃v,v_=v∧X_=[aG 5 1 v (iJ l).length (aQ (iJ l))]∧S_=[]):=by
 have hz64:gR n<64:=Nat.mod_lt _ (by decide)
 have hzp:(n+(1+gR n)) % 64=56:=by unfold gR;omega
 have hzm:∀j,j<gR n→(n+(1+j)) % 64≠56:=fun j hj=>by unfold gR at hj;omega
 refine aP (N:=39) Tryz.func141 rfl rfl (by simp) fun b=> ?_
 refine aZ (fun m=>gz (m.rd 0 rfl)) ?_
 rintro⟨hl_r,hA_r⟩
 have hl:l.length=n:=hl_r
 refine ah<|aj<|hy (fun _=>ab rfl)<|ai<|ag<|ah<|aj<|hy (fun _=>ab rfl)<|ai<|ag<|ah<|aj<|hy (fun _=>aa rfl)<|hy (fun _=>aa rfl)<| ?_
 refine aR (fun w m=>m.dx (r' :=aG 5 1 (.slice none 0 0) 0 []) (.refl _ _) (Own.nil _ _ _ _) (fun k hk=>hk.elim)) ?_
 refine hx (bH 0 rfl rfl rfl Tryz.underlying27 Tryz.underlying27 (by exact .inl rfl) eP rfl (fun m=>Src.bY (m.rd 0 rfl)) aS (by unfold maxLen;omega) (by omega) (fun u=> ?_))
 refine aB (fun m=>(m.own 0 rfl).slice) ?_
 rintro⟨A_o,c_o,rfl,hc_o⟩
 refine aB (fun m=>(m.ord 0 rfl).2.1) fun hA_o=> ?_
 rw[Nat.zero_add]
 refine hy (fun _=>ab rfl)<|ai<|al (ρ' :=[(3,_),(2,_),(0,_)]) ⟨rfl,rfl,rfl,trivial⟩<|ak (X' :=[_]) (S' :=[_]) (fun _ m=>m)<|ag<|ah<|aj<|hy (fun _=>aa rfl)<| ?_
 refine hx (bV Tryz.underlying27 eP rfl rfl rfl (by simp[Value.cells,B8]) (by decide) (by decide) (fun g11=> ?_))
 have hA_b11:0<1→(some (⟨g11,0,none⟩:Addr))≠none:=fun _ h=>by cases h
 refine aR (fun w m=>m.bO 0 rfl (show _=aG 5 1 (.slice (some ⟨g11,0,none⟩) 1 1) 1 (aQ [128])from rfl)) ?_
 refine hx (bH 1 rfl rfl rfl Tryz.underlying27 Tryz.underlying27 (by exact .inl rfl) eP rfl (fun m=>Src.bY (m.ord 0 rfl)) aS (by unfold maxLen;omega) (by omega) (fun u2=> ?_))
 refine aB (fun m=>(m.own 0 rfl).slice) ?_
 rintro⟨A_o2,c_o2,rfl,hc_o⟩
 refine aB (fun m=>(m.ord 0 rfl).2.1) fun hA_o=> ?_
 refine aR (fun w m=>m.bO 0 rfl (show _=aG 5 1 (.slice A_o2 (n+1+0) c_o2) (n+1+0) (aQ (l++128::List.replicate 0 0))from by simp[aQ])) ?_
 refine hy (fun _=>ab rfl)<|ai<|al (ρ' :=[(3,_),(2,_),(0,_)]) ⟨rfl,rfl,rfl,trivial⟩<|ak (X' :=[_,_]) (S' :=[_]) (fun _ m=>m)<|ag<|ah<|aK<| ?_
 refine fv (fun j A1 cc=>gR n-j) (fun j A1 cc=>[(3,.slice A1 (n+1+j) cc)]) (fun j A1 cc=>[aG 5 1 (.slice A1 (n+1+j) cc) (n+1+j) (aQ (l++128::List.replicate j 0))]) (fun j A1 cc=>[]) (fun j A1 cc=>j≤gR n) 0 A_o2 c_o2 [(2,_),(0,_)] ⟨rfl,rfl,trivial⟩ [0] rfl [] rfl (Nat.zero_le _) ⟨rfl,trivial⟩ (fun j A1 cc hjz=> ?_)
 refine ah<|ah<|aj<|hy (fun _=>aa rfl)<|hy (fun _=>aX rfl Tryz.underlying27)<|hy (fun _=>gC rfl rfl (by omega) (by omega))<|hy (fun _=>dN rfl rfl)<|ai<|al (ρ' :=[(16,_),(3,_),(2,_),(0,_)]) ⟨rfl,rfl,rfl,rfl,trivial⟩<|ag<| ?_
 refine cD rfl (fun hne=> ?_) (fun hne=> ?_)
 ·have hj:j<gR n:=by
   rcases Nat.lt_or_eq_of_le hjz with h|h
   ·exact h
   ·rw[←h]at hzp;omega
  refine aD<|ag<|aK<|aj<|hy (fun _=>aa rfl)<| ?_
  refine hx (bV Tryz.underlying27 eP rfl rfl rfl (by simp[Value.cells,B8]) (by decide) (by decide) (fun g18=> ?_))
  have hA_b18:0<1→(some (⟨g18,0,none⟩:Addr))≠none:=fun _ h=>by cases h
  refine aR (fun w m=>m.bO 0 rfl (show _=aG 5 1 (.slice (some ⟨g18,0,none⟩) 1 1) 1 (aQ [0])from rfl)) ?_
  refine hx (bH 1 rfl rfl rfl Tryz.underlying27 Tryz.underlying27 (by exact .inl rfl) eP rfl (fun m=>Src.bY (m.ord 0 rfl)) aS (by unfold maxLen;omega) (by omega) (fun u3=> ?_))
  refine aB (fun m=>(m.own 0 rfl).slice) ?_
  rintro⟨A_o3,c_o3,rfl,hc_o⟩
  refine aB (fun m=>(m.ord 0 rfl).2.1) fun hA_o=> ?_
  refine hy (fun _=>ab rfl)<|ai<|al (ρ' :=[(3,_),(16,_),(2,_),(0,_)]) ⟨rfl,rfl,rfl,rfl,trivial⟩<|ak (X' :=[_,_,_]) (S' :=[_]) (fun _ m=>m)<|aT<| ?_
  refine ak (fun w m=>m.bO 0 rfl (show _=aG 5 1 (.slice A_o3 (n+1+(j+1)) c_o3) (n+1+(j+1)) (aQ (l++128::List.replicate (j+1) 0))from by rw[List.replicate_succ'];simp[aQ,Nat.add_assoc])) ?_
  refine eZ (j+1) A_o3 c_o3 ⟨rfl,rfl,rfl,trivial⟩ [0,1] rfl [0] rfl (by omega) (by omega)
 ·have hj:j=gR n:=by
   refine Decidable.byContradiction fun hn=> ?_
   have:=hzm j (by omega)
   omega
  subst hj
  refine bK<|ao<|ao<|aC<|ag<|ah<|aj<|hy (fun _=>aa rfl)<|hy (fun _=>aX rfl Tryz.underlying27)<|hy (fun _=>yV (fp rfl rfl (bD (by omega) (by omega))) ((show Value.int .i64 (8*(n:Int))= .int .i64 ((ly (8*n) 0:Nat):Int) by rw[ly];congr 1)))<|hy (fun _=>ab rfl)<|ai<|al (ρ' :=[(4,_),(16,_),(3,_),(2,_),(0,_)]) ⟨rfl,rfl,rfl,rfl,rfl,trivial⟩<|ag<|ah<|aj<| ?_
  refine hx (AI (n:=8) Tryz.underlying27 eP rfl rfl rfl (by decide) (by decide) (fun g23=> ?_))
  have hA_b23:∀{n:Nat},0<n→(some (⟨g23,0,none⟩:Addr))≠none:=fun _ h=>by cases h
  refine hy (fun _=>ab rfl)<|ai<|al (ρ' :=[(5,_),(4,_),(16,_),(3,_),(2,_),(0,_)]) ⟨rfl,rfl,rfl,rfl,rfl,rfl,trivial⟩<|ak (X' :=[_,_,_]) (S' :=[_]) (fun _ m=>m)<|ag<|ah<|ah<|aj<| ?_
  refine aR (fun w m=>m.bO 0 rfl (show _=aI g23 5 (aQ (o8 (8*n) 0))from by rw[o8,List.drop_of_length_le (by rw[kV];decide),List.append_nil];rfl)) ?_
  refine hy (fun _=>ab rfl)<|ai<|ag<|aK<| ?_
  refine dz (fun i=>8-i) (fun i=>[(4,.int .i64 ((ly (8*n) i:Nat):Int)),(6,.int .i64 (7-(i:Int)))]) (fun i=>[aI g23 5 (aQ (o8 (8*n) i))]) (fun i=>[]) (fun i=>i≤8) 0 [(5,_),(16,_),(3,_),(2,_),(0,_)] ⟨rfl,rfl,rfl,rfl,rfl,trivial⟩ [0] rfl [] rfl (Nat.zero_le _) ⟨rfl,rfl,trivial⟩ (fun i hi8=> ?_)
  have hq:ly (8*n) i≤8*n:=by rw[pF];exact Nat.div_le_self ..
  have hbl:=yz (8*n) i hi8
  refine ah<|ah<|aj<|hy (fun _=>aa rfl)<|hy (fun _=>jZ rfl rfl)<|ai<|al (ρ' :=[(25,_),(4,_),(6,_),(5,_),(16,_),(3,_),(2,_),(0,_)]) ⟨rfl,rfl,rfl,rfl,rfl,rfl,rfl,rfl,trivial⟩<|ag<| ?_
  refine cD rfl (fun hi=> ?_) (fun hi=> ?_)
  ·refine aD<|ag<|ah<|aK<|ah<|aj<|hy (fun _=>aa rfl)<|hy (fun _=>aa rfl)<|hy (fun _=>aa rfl)<|hy (fun _=>gC rfl rfl (by omega) (by omega))<|hy (fun _=>bT rfl Tryz.underlying3 Tryz.underlying5 (show IntKind.u8.wrap (((ly (8*n) i:Nat):Int) % 256)=((UInt8.ofNat (ly (8*n) i % 256)).toNat:Int)from gA (ly (8*n) i % 256)))<|hy (fun _=>aO rfl rfl Tryz.underlying27 dZ hA_b23 (show((7-i:Nat):Int)=_ by omega) (by omega))<| ?_
   refine cI (cz 0 rfl rfl rfl dZ rfl (by rw[az,hbl];omega) ?_)
   refine ai<|al (ρ' :=[(25,_),(4,_),(6,_),(5,_),(16,_),(3,_),(2,_),(0,_)]) ⟨rfl,rfl,rfl,rfl,rfl,rfl,rfl,rfl,trivial⟩<|ak (X' :=[_,_,_]) (S' :=[_]) (fun _ m=>m)<|ag<|aj<|hy (fun _=>aa rfl)<|hy (fun _=>yV (j1 rfl rfl (by omega) (by omega) (bD (by omega) (by omega))) ((show Value.int .i64 (((ly (8*n) i:Nat):Int)/256)= .int .i64 ((ly (8*n) (i+1):Nat):Int)from rfl)))<|hy (fun _=>ab rfl)<|ai<|al (ρ' :=[(4,_),(25,_),(6,_),(5,_),(16,_),(3,_),(2,_),(0,_)]) ⟨rfl,rfl,rfl,rfl,rfl,rfl,rfl,rfl,trivial⟩<|aT<|ag<|aj<|hy (fun _=>aa rfl)<|hy (fun _=>yV (ck rfl rfl (bD (by omega) (by omega))) ((show Value.int .i64 (7-(i:Int)-1)= .int .i64 (7-((i+1:Nat):Int))from congrArg (Value.int .i64) (by omega))))<|hy (fun _=>ab rfl)<|ai<|al (ρ' :=[(6,_),(4,_),(25,_),(5,_),(16,_),(3,_),(2,_),(0,_)]) ⟨rfl,rfl,rfl,rfl,rfl,rfl,rfl,rfl,trivial⟩<| ?_
   refine ak (fun w m=>m.bO 0 rfl (show _=aI g23 5 (aQ (o8 (8*n) (i+1)))from by rw[Nat.zero_add,←xL (by omega),BQ];rfl)) ?_
   refine cM (i+1) ⟨rfl,rfl,rfl,rfl,rfl,rfl,rfl,trivial⟩ [0,0,0] rfl [0] rfl (by omega) (by omega)
  ·obtain rfl:i=8:=by omega
   have hpl:(iJ l).length=n+1+gR n+8:=by
    simp only[iJ,List.length_append,List.length_cons,List.length_replicate,kV,hl];omega
   refine bB (fun w m=>m.bO 0 rfl (show _=aI g23 5 (aQ (se (8*n)))from by simp[o8])) ?_
   refine bK<|ao<|ao<|aC<|ag<|ah<|aj<|hy (fun _=>aa rfl)<|hy (fun _=>aa rfl)<| ?_
   refine hx (bH 1 rfl rfl rfl Tryz.underlying27 Tryz.underlying27 (by exact .inl rfl) eP rfl (fun m=>Src.bY (Rd.gv (m.aY 0 rfl) (by rw[az,kV]))) aS (by unfold maxLen;omega) (by omega) (fun u3=> ?_))
   refine aB (fun m=>(m.own 0 rfl).slice) ?_
   rintro⟨A_o3,c_o3,rfl,hc_o⟩
   refine aB (fun m=>(m.ord 0 rfl).2.1) fun hA_o=> ?_
   refine aR (fun w m=>m.bO 0 rfl (show _=aG 5 1 (.slice A_o3 (iJ l).length c_o3) (iJ l).length (aQ (iJ l))from by rw[hpl,iJ,hl];simp[aQ])) ?_
   refine hy (fun _=>ab rfl)<|ai<|al (ρ' :=[(2,_),(25,_),(4,_),(6,_),(5,_),(16,_),(3,_),(0,_)]) ⟨rfl,rfl,rfl,rfl,rfl,rfl,rfl,rfl,trivial⟩<|ak (X' :=[_,_,_]) (S' :=[_]) (fun _ m=>m)<|ag<|aU<| ?_
   exact bc trivial rfl rfl [0] rfl [] rfl ⟨_,(by rw[hpl]),rfl,rfl⟩
theorem zc{p r:List UInt8}{k:Nat}{a x:UInt8}(hp:p.length=k):(aQ (p++x::r)).set k (B8 a)=aQ (p++[a]++r):=by
 subst hp
 simp[aQ,List.set_append]
def qw(x:UInt32):Nat→UInt32
 |0=>x
 |j+1=>qw x j/256
theorem sA(x:UInt32):∀j,(qw x j).toNat=x.toNat/256 ^ j
 |0=>by simp[qw]
 |j+1=>by
  rw[qw,UInt32.toNat_div,sA x j,Nat.pow_succ,←Nat.div_div_eq_div_mul];rfl
theorem DA(x:UInt32){r:Nat}(hr:r<4):(Aw x)[r]? =some (UInt8.ofNat (qw x (3-r) % 256).toNat):=by
 have h256:(256:UInt32).toNat=256:=rfl
 have e:∀k,UInt8.ofNat ((qw x k % 256).toNat)=UInt8.ofNat (x.toNat/256 ^ k):=fun k=>by
  rw[UInt32.toNat_mod,sA,h256]
  apply UInt8.toNat_inj.1;simp
 rw[e]
 match r,hr with
 |0,_=>simp[Aw,UInt32.toNat_div]
 |1,_=>simp[Aw,UInt32.toNat_div]
 |2,_=>simp[Aw,UInt32.toNat_div]
 |3,_=>simp[Aw]
theorem qp:∀(h:List UInt32) (q r:Nat),q<h.length→r<4→(eF h)[4*q+r]? =(Aw (h.getD q 0))[r]?
 |a::t,0,r,hq,hr=>by
  rw[eF,List.flatMap_cons,List.getElem?_append_left (by show 4*0+r<4;omega)]
  simp
 |a::t,q+1,r,hq,hr=>by
  rw[eF,List.flatMap_cons,List.getElem?_append_right (by show 4≤_;omega),show 4*(q+1)+r-(Aw a).length=4*q+r by show 4*(q+1)+r-4=_;omega]
  have:=qp t q r (by simpa using hq) hr
  simpa[eF]using this
theorem oK{A:Option Addr}{n c:Nat}{l:List UInt8}(hn:n≤140737488351232):cf Tryz.prog 56 [.slice A n c] [] [c6 1 A n (aQ l)] (fun v_ X_ S_=>v_=(.agg (aQ (ba l)).toArray)∧X_=[]∧S_=[]):=by
 refine aP (N:=49) Tryz.func56 rfl rfl (by simp) fun b=> ?_
 refine aZ (fun m=>gz (m.rd 0 rfl)) ?_
 rintro⟨hl_r,hA_r⟩
 refine ah<|aj<| ?_
 refine hx (aN dL (fun g2=> ?_))
 refine ai<|ak (X' :=[_]) (S' :=[_]) (fun _ m=>m)<|ag<|ah<|aj<| ?_
 refine hx (bV Tryz.underlying215 nG rfl rfl rfl (by decide) (by decide) (by decide) (fun g10=> ?_))
 have hA_b10:0<8→(some (⟨g10,0,none⟩:Addr))≠none:=fun _ h=>by cases h
 refine aR (fun w m=>m.bO 0 rfl (show _=aG 166 1 (.slice (some ⟨g10,0,none⟩) 8 8) 8 (dV (fa lT ((iJ l).take (64*0))))from by rw[Nat.mul_zero,List.take_zero];rfl)) ?_
 refine hy (fun _=>ab rfl)<|ai<|al (ρ' :=[(3,_),(2,_),(0,_)]) ⟨rfl,rfl,rfl,trivial⟩<|ak (X' :=[_,_]) (S' :=[_]) (fun _ m=>m)<|ag<|ah<|aj<|hy (fun _=>aa rfl)<| ?_
 refine hx (aq rfl Tryz.call141 (Bj (by omega)) [] rfl [0] rfl ?_)
 rintro _ _ _ ⟨v,rfl,rfl,rfl⟩
 refine aB (fun m=>(m.own 0 rfl).slice) ?_
 rintro⟨A_x,c_x,rfl,hc_x⟩
 refine aB (fun m=>(m.ord 0 rfl).2.1) fun hA_x=> ?_
 refine hy (fun _=>ab rfl)<|ai<|al (ρ' :=[(4,_),(3,_),(2,_),(0,_)]) ⟨rfl,rfl,rfl,rfl,trivial⟩<|ak (X' :=[_,_,_]) (S' :=[_]) (fun _ m=>m)<|ag<|ah<|ah<|aj<|hy (fun _=>ab rfl)<|ai<|ag<|aK<| ?_
 have hpl:=nz l
 have hpb:(iJ l).length≤140737488352000:=by
  have:l.length=n:=hl_r
  have hz:gR l.length<64:=Nat.mod_lt _ (by decide)
  simp only[iJ,List.length_append,List.length_cons,List.length_replicate,kV];omega
 obtain⟨K,hK⟩:∃K,(iJ l).length=64*K:=⟨(iJ l).length/64,by omega⟩
 generalize hP:iJ l=P at hpl hpb hK hc_x hA_x ⊢
 refine bB (fun w m=>(m.perm (ar [0] _ [_] _ rfl)).freeze) ?_
 refine bB (fun w m=>m.j6 0 rfl .own) ?_
 refine aZ (fun m=>gz (m.rd 0 rfl)) ?_
 rintro⟨hl_xr,hA_xr⟩
 refine fv (fun k H hc=>K-k) (fun k H hc=>[(3,.slice H 8 hc),(5,.int .i64 ((64*k:Nat):Int))]) (fun k H hc=>[aG 166 1 (.slice H 8 hc) 8 (dV (fa lT (P.take (64*k))))]) (fun k H hc=>[]) (fun k H hc=>k≤K) 0 (some ⟨g10,0,none⟩) 8 [(4,_),(2,_),(0,_)] ⟨rfl,rfl,rfl,trivial⟩ [0] rfl [] rfl (Nat.zero_le _) ⟨rfl,rfl,trivial⟩ (fun k H hc hkK=> ?_)
 have hh:=mw (h:=lT) (P.take (64*k)) rfl
 refine ah<|ah<|aj<|hy (fun _=>aa rfl)<|hy (fun _=>aa rfl)<|hy (fun _=>aX rfl Tryz.underlying27)<|hy (fun _=>bw rfl rfl)<|ai<|al (ρ' :=[(16,_),(3,_),(5,_),(4,_),(2,_),(0,_)]) ⟨rfl,rfl,rfl,rfl,rfl,rfl,trivial⟩<|ag<| ?_
 refine cD rfl (fun hlt=> ?_) (fun hlt=> ?_)
 ·have hk:k<K:=by omega
  refine bB (fun w m=>m.j6 0 rfl (View.sub (k:=64*k) (m:=64) hc_x (by omega))) ?_
  refine aZ (fun m=>gz (m.rd 0 rfl)) ?_
  rintro⟨hl_r64,hA_r64⟩
  refine aD<|ag<|ah<|aK<|aj<|hy (fun _=>aa rfl)<|hy (fun _=>aa rfl)<|hy (fun _=>aa rfl)<|hy (fun _=>aa rfl)<|hy (fun _=>aM rfl rfl (bD (by omega) (by omega)))<|hy (fun _=>yV (ey rfl rfl rfl Tryz.underlying27 dZ (show((64*k:Nat):Int)=_ by omega) (show((64*k+64:Nat):Int)=_ by omega) (by omega) (by omega)) ((show Value.slice (if c_x=64*k then A_x else A_x.map (·.add (64*k*1))) (64*k+64-64*k) (c_x-64*k)= .slice (if c_x=64*k then A_x else A_x.map (·.add (64*k*1))) 64 (c_x-64*k) by rw[Nat.add_sub_cancel_left])))<| ?_
  refine hx (cC rfl Tryz.call142 (Bt (by omega) hh (h:=(fa lT (P.take (64*k))))) [] rfl (.x 0 rfl .own (.s 0 rfl .nil)) ?_)
  rintro _ _ _ ⟨u,rfl,rfl,rfl⟩
  refine⟨rfl, ?_⟩
  refine aB (fun m=>(m.own 0 rfl).slice) ?_
  rintro⟨A_y,c_y,rfl,hc_y⟩
  refine aB (fun m=>(m.ord 0 rfl).2.1) fun hA_y=> ?_
  refine hy (fun _=>ab rfl)<|ai<|al (ρ' :=[(3,_),(16,_),(5,_),(4,_),(2,_),(0,_)]) ⟨rfl,rfl,rfl,rfl,rfl,rfl,trivial⟩<|ak (X' :=[_,_,_]) (S' :=[_,_,_,_]) (fun _ m=>m)<|aT<|ag<|aj<|hy (fun _=>aa rfl)<|hy (fun _=>yV (aM rfl rfl (bD (by omega) (by omega))) ((show Value.int .i64 (((64*k:Nat):Int)+64)= .int .i64 ((64*(k+1):Nat):Int)from congrArg (Value.int .i64) (by omega))))<|hy (fun _=>ab rfl)<|ai<|al (ρ' :=[(5,_),(3,_),(16,_),(4,_),(2,_),(0,_)]) ⟨rfl,rfl,rfl,rfl,rfl,rfl,trivial⟩<| ?_
  have hfs:eg (fa lT (P.take (64*k))) ((P.drop (64*k)).take 64)=fa lT (P.take (64*(k+1))):=by
   rw[←pA (by rw[List.length_take];omega) (by rw[List.length_take,List.length_drop];omega),←List.take_add]
   rfl
  rw[hfs]
  refine eZ (k+1) A_y c_y ⟨rfl,rfl,rfl,rfl,rfl,trivial⟩ [0,1] rfl [1,2,3] rfl (by omega) (by omega)
 ·obtain rfl:k=K:=by omega
  have hfl:fa lT (P.take (64*k))=fa lT P:=by rw[List.take_of_length_le (by omega)]
  rw[hfl]at hh ⊢
  have hsha:ba l=eF (fa lT P):=by rw[ba,hP]
  have hdl:=mK hh
  generalize fa lT P=F at hh hsha hdl ⊢
  refine aZ (fun m=>(m.ord 0 rfl).2.1) fun hA_b10=> ?_
  refine bK<|ao<|ao<|aC<|ag<|ah<|aj<| ?_
  refine hx (aN dL (fun g6=> ?_))
  refine ai<|ak (X' :=[_,_,_]) (S' :=[_,_,_]) (fun _ m=>m)<|ag<|ah<|ah<|aj<|hy (fun _=>ab rfl)<|ai<|ag<|aK<| ?_
  refine bB (fun w m=>m.bO 0 rfl (show _=aI g6 53 (aQ ((eF F).take 0++List.replicate (32-0) 0))from rfl)) ?_
  refine dz (fun i=>32-i) (fun i=>[(7,.int .i64 (i:Nat))]) (fun i=>[aI g6 53 (aQ ((eF F).take i++List.replicate (32-i) 0))]) (fun i=>[]) (fun i=>i≤32) 0 [(6,_),(16,_),(3,_),(5,_),(4,_),(2,_),(0,_)] ⟨rfl,rfl,rfl,rfl,rfl,rfl,rfl,trivial⟩ [0] rfl [] rfl (Nat.zero_le _) ⟨rfl,trivial⟩ (fun i hi32=> ?_)
  refine ah<|ah<|aj<|hy (fun _=>aa rfl)<|hy (fun _=>bw rfl rfl)<|ai<|al (ρ' :=[(27,_),(7,_),(6,_),(16,_),(3,_),(5,_),(4,_),(2,_),(0,_)]) ⟨rfl,rfl,rfl,rfl,rfl,rfl,rfl,rfl,rfl,trivial⟩<|ag<| ?_
  refine cD rfl (fun hi=> ?_) (fun hi=> ?_)
  ·refine aD<|ag<|ah<|aK<|ah<|aj<|hy (fun _=>aa rfl)<|hy (fun _=>aa rfl)<|hy (fun _=>j1 rfl rfl (by omega) (by omega) (bD (by omega) (by omega)))<|hy (fun _=>aO rfl rfl Tryz.underlying215 bF hA_b10 (show((i/4:Nat):Int)=_ by omega) (by omega))<|hy (fun m=>yV (aw rfl bM ((m.ord 1 rfl).cell (j:=i/4) (bf (by omega)))) ((rfl:_=Wd (qw (F.getD (i/4) 0) 0))))<|hy (fun _=>ab rfl)<|ai<|al (ρ' :=[(8,_),(27,_),(7,_),(6,_),(16,_),(3,_),(5,_),(4,_),(2,_),(0,_)]) ⟨rfl,rfl,rfl,rfl,rfl,rfl,rfl,rfl,rfl,rfl,trivial⟩<|ag<|ah<|ah<|aj<|hy (fun _=>aa rfl)<|hy (fun _=>yV (gC rfl rfl (by omega) (by omega)) ((show Value.int .i64 ((i:Int) % 4)= .int .i64 (((i % 4+0:Nat)):Int)from congrArg (Value.int .i64) (by omega))))<|hy (fun _=>ab rfl)<|ai<|al (ρ' :=[(9,_),(8,_),(27,_),(7,_),(6,_),(16,_),(3,_),(5,_),(4,_),(2,_),(0,_)]) ⟨rfl,rfl,rfl,rfl,rfl,rfl,rfl,rfl,rfl,rfl,rfl,trivial⟩<|ag<|aK<| ?_
   refine dz (fun j=>3-j) (fun j=>[(8,Wd (qw (F.getD (i/4) 0) j)),(9,.int .i64 ((i % 4+j:Nat):Int))]) (fun j=>[]) (fun j=>[]) (fun j=>i % 4+j≤3) 0 [(27,_),(7,_),(6,_),(16,_),(3,_),(5,_),(4,_),(2,_),(0,_)] ⟨rfl,rfl,rfl,rfl,rfl,rfl,rfl,rfl,rfl,trivial⟩ [] rfl [] rfl ((by omega)) ⟨rfl,rfl,trivial⟩ (fun j hj3=> ?_)
   refine ah<|ah<|aj<|hy (fun _=>aa rfl)<|hy (fun _=>bw rfl rfl)<|ai<|al (ρ' :=[(38,_),(8,_),(9,_),(27,_),(7,_),(6,_),(16,_),(3,_),(5,_),(4,_),(2,_),(0,_)]) ⟨rfl,rfl,rfl,rfl,rfl,rfl,rfl,rfl,rfl,rfl,rfl,rfl,trivial⟩<|ag<| ?_
   refine cD rfl (fun hj=> ?_) (fun hj=> ?_)
   ·refine aD<|ag<|ah<|aK<|aj<|hy (fun _=>aa rfl)<|hy (fun _=>yV (rl (b:=256) (by decide) rfl rfl) ((rfl:_=Wd (qw (F.getD (i/4) 0) (j+1)))))<|hy (fun _=>ab rfl)<|ai<|al (ρ' :=[(8,_),(38,_),(9,_),(27,_),(7,_),(6,_),(16,_),(3,_),(5,_),(4,_),(2,_),(0,_)]) ⟨rfl,rfl,rfl,rfl,rfl,rfl,rfl,rfl,rfl,rfl,rfl,rfl,trivial⟩<|aT<|ag<|aj<|hy (fun _=>aa rfl)<|hy (fun _=>yV (aM rfl rfl (bD (by omega) (by omega))) ((show Value.int .i64 (((i % 4+j:Nat):Int)+1)= .int .i64 ((i % 4+(j+1):Nat):Int)from congrArg (Value.int .i64) (by omega))))<|hy (fun _=>ab rfl)<|ai<|al (ρ' :=[(9,_),(8,_),(38,_),(27,_),(7,_),(6,_),(16,_),(3,_),(5,_),(4,_),(2,_),(0,_)]) ⟨rfl,rfl,rfl,rfl,rfl,rfl,rfl,rfl,rfl,rfl,rfl,rfl,trivial⟩<| ?_
    refine cM (j+1) ⟨rfl,rfl,rfl,rfl,rfl,rfl,rfl,rfl,rfl,rfl,rfl,trivial⟩ [0,0,0] rfl [0,1,2] rfl (by omega) (by omega)
   ·have hj:j=3-i % 4:=by omega
    subst hj
    have hbyte:(eF F)[i]? =some (UInt8.ofNat (qw (F.getD (i/4) 0) (3-i % 4) % 256).toNat):=by
     rw[←DA _ (by omega),←qp F (i/4) (i % 4) (by omega) (by omega)]
     congr 1;omega
    have hri:List.replicate (32-i) (0:UInt8)=0::List.replicate (32-(i+1)) 0:=by rw[show 32-i=(32-(i+1))+1 by omega];rfl
    have hti:(eF F).take (i+1)=(eF F).take i++[UInt8.ofNat (qw (F.getD (i/4) 0) (3-i % 4) % 256).toNat]:=by
     rw[List.take_add_one,hbyte];rfl
    refine bK<|ao<|ao<|aC<|ag<|aj<|hy (fun _=>aa rfl)<|hy (fun _=>aa rfl)<|hy (fun _=>xZ (b:=256) (by decide) rfl rfl)<|hy (fun _=>y7 rfl Tryz.underlying166 Tryz.underlying5)<|hy (fun _=>bZ rfl rfl Tryz.underlying53 dZ rfl (by omega))<| ?_
    refine cI (cz 0 rfl rfl rfl dZ rfl (by rw[az,List.length_append,List.length_take,List.length_replicate];omega) ?_)
    refine ai<|al (ρ' :=[(38,_),(8,_),(9,_),(27,_),(7,_),(6,_),(16,_),(3,_),(5,_),(4,_),(2,_),(0,_)]) ⟨rfl,rfl,rfl,rfl,rfl,rfl,rfl,rfl,rfl,rfl,rfl,rfl,trivial⟩<|ak (X' :=[_,_,_]) (S' :=[_,_,_]) (fun _ m=>m)<|aT<|ag<|aj<|hy (fun _=>aa rfl)<|hy (fun _=>aM rfl rfl (bD (by omega) (by omega)))<|hy (fun _=>ab rfl)<|ai<|al (ρ' :=[(7,_),(38,_),(8,_),(9,_),(27,_),(6,_),(16,_),(3,_),(5,_),(4,_),(2,_),(0,_)]) ⟨rfl,rfl,rfl,rfl,rfl,rfl,rfl,rfl,rfl,rfl,rfl,rfl,trivial⟩<| ?_
    refine ak (fun w m=>m.bO 0 rfl (show _=aI g6 53 (aQ ((eF F).take (i+1)++List.replicate (32-(i+1)) 0))from by rw[hri,Nat.zero_add,hti];exact congrArg (aI _ _) (zc (by rw[List.length_take];omega)))) ?_
    refine cM (i+1) ⟨rfl,rfl,rfl,rfl,rfl,rfl,rfl,rfl,trivial⟩ [0,0,0] rfl [0,1,2] rfl (by omega) (by omega)
  ·obtain rfl:i=32:=by omega
   refine bB (fun w m=>m.bO 0 rfl (show _=aI g6 53 (aQ (ba l))from by rw[List.take_of_length_le (by omega),←hsha];simp)) ?_
   refine bK<|ao<|ao<|aC<|ag<|ah<|aj<|hy (fun m=>yV (a6 rfl cr bp (by rw[az,bj]) ((m.aY 0 rfl).ay)) ((rfl:_=Value.agg (aQ (ba l)).toArray)))<| ?_
   refine cI (aJ 2 rfl rfl rfl bp (by rw[az,bj]) aS rfl ?_)
   refine ai<|al (ρ' :=[(27,_),(7,_),(6,_),(16,_),(3,_),(5,_),(4,_),(2,_),(0,_)]) ⟨rfl,rfl,rfl,rfl,rfl,rfl,rfl,rfl,rfl,trivial⟩<|ak (X' :=[_,_,_]) (S' :=[_,_,_]) (fun _ m=>m)<|ag<|aU<| ?_
   exact fe trivial rfl rfl cr bp (by rw[az,bj]) (fun m=>(m.aY 0 rfl).ay) [] rfl [] rfl ⟨rfl,rfl,rfl⟩
end Go.Proofs.YtmibdabdlgmafaaGreatDoor
end
section
set_option maxRecDepth 20000
set_option maxHeartbeats 4000000
namespace Go.Proofs.YtmibdabdlgmafaaGreatDoor
open Go.Eng Go.Hx
theorem vp{nm:List UInt8}(hm:nm.length=32):cf Tryz.prog 98 [.agg (aQ nm).toArray] [] [] (fun v_ X_ S_=>v_=(.string (strOf (bJ nm)))∧X_=[]∧S_=[]):=by
 have hhl:(bW nm).length=64:=by rw[dA,hm]
 refine aP (N:=6) Tryz.func98 rfl rfl (by simp) fun b=> ?_
 refine ah<|aj<| ?_
 refine hx (cy rfl (fun g1=> ?_))
 refine aR (fun w m=>m.bO 0 rfl (show _=aI g1 53 (aQ nm)from congrArg (aI _ _) (bq _))) ?_
 refine hy (fun _=>ab rfl)<|ai<|ak (X' :=[_]) (S' :=[]) (fun _ m=>m)<|ag<|ah<|aj<|hy (fun m=>a6 rfl cr bp (by rw[az];exact hm) ((m.aY 0 rfl).ay))<| ?_
 refine hx (aq rfl Tryz.call111 (wv hm) [] rfl [] rfl ?_)
 rintro _ _ _ ⟨rfl,rfl,rfl⟩
 refine hy (fun _=>yV (iS rfl rfl (ij (a:=[116,47]) (b:=bW nm) (by simp[hhl]))) ((show Value.string (strOf [116,47]++strOf (bW nm))= .string (strOf (bJ nm))from congrArg Value.string (c7 _ _))))<|hy (fun _=>ab rfl)<|ai<|al (ρ' :=[(2,_),(1,_),(0,_)]) ⟨rfl,rfl,rfl,trivial⟩<|ak (X' :=[_]) (S' :=[]) (fun _ m=>m)<|ag<|aU<| ?_
 exact bc trivial rfl rfl [] rfl [] rfl ⟨rfl,rfl,rfl⟩
theorem CO{x:RX}{kk:Nat}{nm:List UInt8}(ok:yh x.d kk)(hkk:kk≤100000)(hm:nm.length=32)(hrd:(x.d.cm (aF nm)).length≤10000000):cf Tryz.prog 74 [.agg x.cs.toArray,.agg (aQ nm).toArray] [] [dE x,ef] (fun v_ X_ S_=>v_=(.tuple #[.string (strOf (x.d.oU nm)),.int .i64 (x.d.dY nm)])∧X_=[]∧S_=[]):=by
 have h32:(aQ nm).length=32:=by rw[az,hm]
 refine aP (N:=34) Tryz.func74 rfl rfl (by simp) fun b=> ?_
 refine ah<|aj<| ?_
 refine hx (cy rfl (fun g2=> ?_))
 refine aR (fun w m=>m.bO 0 rfl (show _=aI g2 39 x.cs from congrArg (aI _ _) (bq _))) ?_
 refine hx (cy rfl (fun g3=> ?_))
 refine aR (fun w m=>m.bO 0 rfl (show _=aI g3 53 (aQ nm)from congrArg (aI _ _) (bq _))) ?_
 refine hy (fun _=>ab rfl)<|hy (fun _=>ab rfl)<|ai<|ak (X' :=[_,_]) (S' :=[_,_]) (fun _ m=>m)<|ag<|ah<|cN [2,3] [(0,some 1),(1,some 0),(2,none),(3,none),(4,some 2),(5,some 2),(6,some 2),(7,some 2),(8,some 2)] (by kernel_rfl) (by kernel_rfl) rfl 99<|b6 (fun m=>yV (a6 rfl cE bu rfl ((m.aY 1 rfl).ay)) ((rfl:_=Value.agg x.cs.toArray)))<|b6 (fun m=>a6 rfl cr bp h32 ((m.aY 0 rfl).ay))<| ?_
 refine dT (aq rfl Tryz.call29 (rW hm) [] rfl [] rfl ?_)
 rintro _ _ _ ⟨rfl,rfl,rfl⟩
 refine⟨(fun _=>wk [0,0] [0,1] rfl rfl), ?_⟩
 refine dT (aq rfl Tryz.call91 (yD ok hkk (p:=(aF nm))) [] rfl [0] rfl ?_)
 rintro _ _ _ ⟨rfl,rfl,rfl⟩
 refine⟨(fun _=>wk [0,0] [0,1] rfl rfl), ?_⟩
 refine an (aa rfl)<|an (au rfl rfl)<|an (au rfl rfl)<|an (ab rfl)<|an (ab rfl)<|bz<|al (ρ' :=[(7,_),(6,_),(5,_),(4,_),(3,_),(2,_),(0,_),(1,_)]) ⟨rfl,rfl,rfl,rfl,rfl,rfl,rfl,rfl,trivial⟩<|ak (X' :=[_,_]) (S' :=[_,_]) (fun _ m=>m)<|ag<|ah<|ah<|aj<|hy (fun _=>aa rfl)<|hy (fun _=>dN rfl rfl)<|ai<|al (ρ' :=[(18,_),(7,_),(6,_),(5,_),(4,_),(3,_),(2,_),(0,_),(1,_)]) ⟨rfl,rfl,rfl,rfl,rfl,rfl,rfl,rfl,rfl,trivial⟩<|ag<| ?_
 refine cD rfl (fun h=> ?_) (fun h=> ?_)
 ·rw[jn h,kY (by rw[jn h];exact h)]
  refine ah<|aj<|hy (fun _=>aa rfl)<|hy (fun _=>ab rfl)<|hy (fun _=>ab rfl)<|ai<|al (ρ' :=[(5,_),(4,_),(18,_),(7,_),(6,_),(3,_),(2,_),(0,_),(1,_)]) ⟨rfl,rfl,rfl,rfl,rfl,rfl,rfl,rfl,rfl,trivial⟩<|ag<|aU<|ax<| ?_
  exact dg trivial rfl rfl rfl [] rfl [] rfl ⟨rfl,rfl,rfl⟩
 ·have h1:=Decidable.not_not.1 h
  have hbs:(bytesOf (strOf (x.d.cm (aF nm)))).length=(x.d.cm (aF nm)).length:=rfl
  have hol:=qi (f:=x.d.cm (aF nm)) (most:=4096) (by decide)
  refine aD<|ag<|ah<|aj<|hy (fun _=>aa rfl)<| ?_
  refine hx (D5 rfl Tryz.underlying9 Tryz.underlying27 Tryz.underlying5 (show(x.d.cm (aF nm)).length≤maxLen by unfold maxLen;omega) (fun v22=> ?_))
  refine aB (fun m=>(m.own 0 rfl).slice) ?_
  rintro⟨A_b22,c_b22,rfl,hc_b22⟩
  refine aB (fun m=>(m.ord 0 rfl).2.1) fun hA_b22=> ?_
  refine aR (fun w m=>m.bO 0 rfl (show _=aG 5 1 (.slice A_b22 (x.d.cm (aF nm)).length c_b22) (x.d.cm (aF nm)).length (aQ (x.d.cm (aF nm)))from rfl)) ?_
  refine aR (fun w m=>(m.perm (ar [0] _ [_] _ rfl)).freeze) ?_
  refine aR (fun w m=>m.j6 0 rfl .own) ?_
  refine hx (aq rfl Tryz.call156 (CS hc_b22 rfl hrd (show(4096:Int)≤1000000 by decide) (f:=(x.d.cm (aF nm)))) [] rfl [0] rfl ?_)
  rintro _ _ _ ⟨A1,c1,rfl,rfl,rfl,hp⟩
  refine aB (fun m=>gz (m.rd 0 rfl)) ?_
  rintro⟨hl_q,hA_q⟩
  refine hy (fun _=>aa rfl)<|hy (fun _=>au rfl rfl)<|hy (fun _=>au rfl rfl)<|hy (fun _=>ab rfl)<|hy (fun _=>ab rfl)<|ai<|al (ρ' :=[(9,_),(8,_),(18,_),(7,_),(6,_),(5,_),(4,_),(3,_),(2,_),(0,_),(1,_)]) ⟨rfl,rfl,rfl,rfl,rfl,rfl,rfl,rfl,rfl,rfl,rfl,trivial⟩<|ak (X' :=[_,_]) (S' :=[_,_,_,_,_]) (fun _ m=>m)<|ag<|ah<|ah<|aj<|hy (fun _=>aa rfl)<|hy (fun _=>dN rfl rfl)<|ai<|al (ρ' :=[(27,_),(9,_),(8,_),(18,_),(7,_),(6,_),(5,_),(4,_),(3,_),(2,_),(0,_),(1,_)]) ⟨rfl,rfl,rfl,rfl,rfl,rfl,rfl,rfl,rfl,rfl,rfl,rfl,trivial⟩<|ag<| ?_
  refine cD rfl (fun h2=> ?_) (fun h2=> ?_)
  ·have hE:=l9 (d:=x.d) (nm:=nm) h1 (.inl h2)
   rw[hE,kY (by rw[hE];decide)]
   refine ah<|aj<|hy (fun _=>ab rfl)<|hy (fun _=>ab rfl)<|ai<|ag<|aU<|ax<| ?_
   exact dg trivial rfl rfl rfl [] rfl [] rfl ⟨rfl,rfl,rfl⟩
  ·have h2:=Decidable.not_not.1 h2
   refine aD<|ag<|ah<|ah<|cN [1] [(0,some 0),(2,some 1),(1,none),(3,some 1)] (by kernel_rfl) (by kernel_rfl) rfl 99<|an (aa rfl)<|b6 (fun m=>a6 rfl cr bp h32 ((m.aY 0 rfl).ay))<| ?_
   refine dT (aq rfl Tryz.call56 (oK (by omega)) [] rfl [0] rfl ?_)
   rintro _ _ _ ⟨rfl,rfl,rfl⟩
   refine⟨(fun _=>wk [0,0] [0,1,2,3,4] rfl rfl), ?_⟩
   refine an (rP rfl rfl (bj _) hm)<|bz<|al (ρ' :=[(31,_),(27,_),(9,_),(8,_),(18,_),(7,_),(6,_),(5,_),(4,_),(3,_),(2,_),(0,_),(1,_)]) ⟨rfl,rfl,rfl,rfl,rfl,rfl,rfl,rfl,rfl,rfl,rfl,rfl,rfl,trivial⟩<|ak (X' :=[_,_]) (S' :=[_,_,_,_,_]) (fun _ m=>m)<|ag<| ?_
   refine cD rfl (fun h3=> ?_) (fun h3=> ?_)
   ·have hE:=l9 (d:=x.d) (nm:=nm) h1 (.inr h3)
    rw[hE,kY (by rw[hE];decide)]
    refine ah<|aj<|hy (fun _=>ab rfl)<|hy (fun _=>ab rfl)<|ai<|ag<|aU<|ax<| ?_
    exact dg trivial rfl rfl rfl [] rfl [] rfl ⟨rfl,rfl,rfl⟩
   ·have hE:=rC (d:=x.d) (nm:=nm) h1 (fun q=>q.elim (fun q=>q h2) h3)
    rw[hE,rZ hE]
    refine aD<|ag<|ah<|aj<|hy (fun _=>aa rfl)<|hy (fun m=>jX rfl Tryz.underlying27 Tryz.underlying5 Tryz.underlying9 (m.rd 0 rfl))<|hy (fun _=>ab rfl)<|hy (fun _=>ab rfl)<|ai<|al (ρ' :=[(5,_),(4,_),(31,_),(27,_),(9,_),(8,_),(18,_),(7,_),(6,_),(3,_),(2,_),(0,_),(1,_)]) ⟨rfl,rfl,rfl,rfl,rfl,rfl,rfl,rfl,rfl,rfl,rfl,rfl,rfl,trivial⟩<|ag<|aU<| ?_
    exact dg trivial rfl rfl rfl [] rfl [] rfl ⟨rfl,rfl,rfl⟩
theorem Dv{d:RD}{bb:List UInt8}(h:d.bE (bJ (ba bb)) (bA bb)≠0):d.hZ bb=(d.write (bJ (ba bb)) (bA bb),d.bE (bJ (ba bb)) (bA bb)):=by
 unfold RD.hZ
 rw[cg]
 exact if_pos h
theorem Ee{d:RD}{bb:List UInt8}(h:d.bE (bJ (ba bb)) (bA bb)=0)(h2:(d.write (bJ (ba bb)) (bA bb)).cT≠0):d.hZ bb=((d.write (bJ (ba bb)) (bA bb)).sync,(d.write (bJ (ba bb)) (bA bb)).cT):=by
 unfold RD.hZ
 rw[cg,if_neg (by show¬d.bE _ _≠0;rw[h];decide),cg]
 exact if_pos h2
theorem Dn{d:RD}{bb:List UInt8}(h:d.bE (bJ (ba bb)) (bA bb)=0)(h2:(d.write (bJ (ba bb)) (bA bb)).cT=0)(h3:(d.write (bJ (ba bb)) (bA bb)).sync.bQ (bJ (ba bb)) (aF (ba bb))≠0):d.hZ bb=((d.write (bJ (ba bb)) (bA bb)).sync.rename (bJ (ba bb)) (aF (ba bb)),(d.write (bJ (ba bb)) (bA bb)).sync.bQ (bJ (ba bb)) (aF (ba bb))):=by
 unfold RD.hZ
 rw[cg,if_neg (by show¬d.bE _ _≠0;rw[h];decide),cg,if_neg (by show¬(d.write _ _).cT≠0;rw[h2];decide),cg]
 exact if_pos h3
theorem CX{d:RD}{bb:List UInt8}(h:d.bE (bJ (ba bb)) (bA bb)=0)(h2:(d.write (bJ (ba bb)) (bA bb)).cT=0)(h3:(d.write (bJ (ba bb)) (bA bb)).sync.bQ (bJ (ba bb)) (aF (ba bb))=0):d.hZ bb=(((d.write (bJ (ba bb)) (bA bb)).sync.rename (bJ (ba bb)) (aF (ba bb))).sync,((d.write (bJ (ba bb)) (bA bb)).sync.rename (bJ (ba bb)) (aF (ba bb))).cT):=by
 unfold RD.hZ
 rw[cg,if_neg (by show¬d.bE _ _≠0;rw[h];decide),cg,if_neg (by show¬(d.write _ _).cT≠0;rw[h2];decide),cg,if_neg (by show¬((d.write _ _).sync).bQ _ _≠0;rw[h3];decide),cg]
 by_cases h4:(cq (rO (bJ (ba bb)) (aF (ba bb)) (cq (rL (bJ (ba bb)) (bA bb) d).1).1).1).2=0
 ·rw[if_neg (fun q=>q h4)]
  exact Prod.ext rfl h4.symm
 ·rw[if_pos h4];rfl
theorem my{d:RD}{bb:List UInt8}(hn:¬4096<bb.length)(h6:d.dY (ba bb)≠6)(h0:d.dY (ba bb)≠0){d' :RD}{e:Int}(h:d.hZ bb=(d',e)):d.put bb=(d',if e=0 then ba bb else dR,e):=by
 unfold RD.put;rw[if_neg hn,if_neg h6,if_neg h0,h]
theorem kA{x:RX}{kk:Nat}{A:Option Addr}{n c:Nat}{bb:List UInt8}(hD:x.d.ok kk)(hkk:kk≤90000)(hc:n≤c)(hl:bb.length=n)(hn:n≤100000):cf Tryz.prog 26 [.agg x.cs.toArray,.slice A n c] [] [dE x,c6 1 A n (aQ bb),ef] (fun v_ X_ S_=>∃y,v_=(.tuple #[.agg y.cs.toArray,.agg (aQ (x.d.put bb).2.1).toArray,.int .i64 (x.d.put bb).2.2])∧X_=[]∧S_=[dE y]∧(y.d=(x.d.put bb).1)):=by
 have hm:=bj bb
 have h32:(aQ (ba bb)).length=32:=by rw[az,hm]
 have z32:(aQ dR).length=32:=by rw[az,eR]
 obtain⟨s0,s1⟩:=kD bb
 have hrd:(x.d.cm (aF (ba bb))).length≤10000000:=by
  obtain⟨st,hst⟩:=hD
  have:=hst.uO (aF (ba bb))
  omega
 have ok1:=hD.write (p:=bJ (ba bb)) (l:=bA bb) (by omega)
 have okr:=hD.uZ
 have okr1:=ok1.uZ
 have okr2:=ok1.sync.uZ
 have okr3:=ok1.sync.rename (a:=bJ (ba bb)) (c:=aF (ba bb))|>.uZ
 refine aP (N:=74) Tryz.func26 rfl rfl (by simp) fun b=> ?_
 refine aZ (fun m=>gz (m.rd 1 rfl)) ?_
 rintro⟨hl_rb,hA_rb⟩
 refine ah<|aj<| ?_
 refine hx (cy rfl (fun g2=> ?_))
 refine aR (fun w m=>m.bO 0 rfl (show _=aI g2 39 x.cs from congrArg (aI _ _) (bq _))) ?_
 refine hx (aN iM (fun g4=> ?_))
 refine hx (aN dL (fun g5=> ?_))
 refine hy (fun _=>ab rfl)<|ai<|ak (X' :=[_,_,_]) (S' :=[_,_,_]) (fun _ m=>m)<|ag<|ah<|ah<|aj<|hy (fun _=>aa rfl)<|hy (fun _=>aX rfl Tryz.underlying27)<|hy (fun _=>cR rfl rfl)<|ai<|al (ρ' :=[(12,_),(6,_),(5,_),(4,_),(2,_),(0,_),(1,_)]) ⟨rfl,rfl,rfl,rfl,rfl,rfl,rfl,trivial⟩<|ag<| ?_
 refine cD rfl (fun hbig=> ?_) (fun hbig=> ?_)
 ·have e0:x.d.put bb=(x.d,dR,3):=we (by omega)
  rw[e0]
  refine ah<|aj<|hy (fun m=>yV (a6 rfl cE bu rfl ((m.aY 2 rfl).ay)) ((rfl:_=Value.agg x.cs.toArray)))<|hy (fun _=>yV (eC dL rfl (by kernel_rfl)) ((rfl:_=Value.agg (aQ dR).toArray)))<| ?_
  refine cI (aJ 1 rfl rfl rfl bu rfl bN rfl ?_)
  refine cI (aJ 1 rfl rfl rfl bp z32 aS rfl ?_)
  refine hy (fun _=>ab rfl)<|ai<|al (ρ' :=[(6,_),(12,_),(5,_),(4,_),(2,_),(0,_),(1,_)]) ⟨rfl,rfl,rfl,rfl,rfl,rfl,rfl,trivial⟩<|ak (X' :=[_,_,_]) (S' :=[_,_,_]) (fun _ m=>m)<|ag<|aU<|ax<| ?_
  exact eV trivial rfl rfl rfl rfl cE bu rfl (fun m=>(m.aY 1 rfl).ay) cr bp z32 (fun m=>(m.aY 0 rfl).ay) [] rfl [0] rfl ⟨x,rfl,rfl,rfl,rfl⟩
 ·have hbg:¬4096<bb.length:=by omega
  refine aD<|ag<|ah<|aj<|hy (fun _=>aa rfl)<| ?_
  refine hx (aq rfl Tryz.call56 (oK (by omega)) [] rfl [1] rfl ?_)
  rintro _ _ _ ⟨rfl,rfl,rfl⟩
  refine hx (aN dL (fun g7=> ?_))
  refine cI (aJ 0 rfl rfl rfl bp h32 aS rfl ?_)
  refine ai<|al (ρ' :=[(7,_),(12,_),(6,_),(5,_),(4,_),(2,_),(0,_),(1,_)]) ⟨rfl,rfl,rfl,rfl,rfl,rfl,rfl,rfl,trivial⟩<|ak (X' :=[_,_,_,_]) (S' :=[_,_,_]) (fun _ m=>m)<|ag<|ah<|aj<|hy (fun m=>yV (a6 rfl cE bu rfl ((m.aY 3 rfl).ay)) ((rfl:_=Value.agg x.cs.toArray)))<|hy (fun m=>a6 rfl cr bp h32 ((m.aY 0 rfl).ay))<| ?_
  refine hx (aq rfl Tryz.call74 (CO okr (by omega) hm hrd) [] rfl [0,2] rfl ?_)
  rintro _ _ _ ⟨rfl,rfl,rfl⟩
  refine hy (fun _=>aa rfl)<|hy (fun _=>au rfl rfl)<|hy (fun _=>au rfl rfl)<|hy (fun _=>ab rfl)<|hy (fun _=>ab rfl)<|ai<|al (ρ' :=[(9,_),(7,_),(12,_),(6,_),(5,_),(4,_),(2,_),(0,_),(1,_)]) ⟨rfl,rfl,rfl,rfl,rfl,rfl,rfl,rfl,rfl,trivial⟩<|ak (X' :=[_,_,_,_]) (S' :=[_,_,_]) (fun _ m=>m)<|ag<|ah<|ah<|aj<|hy (fun _=>aa rfl)<|hy (fun _=>cH rfl rfl)<|ai<|al (ρ' :=[(24,_),(9,_),(7,_),(12,_),(6,_),(5,_),(4,_),(2,_),(0,_),(1,_)]) ⟨rfl,rfl,rfl,rfl,rfl,rfl,rfl,rfl,rfl,rfl,trivial⟩<|ag<| ?_
  refine cD rfl (fun h0=> ?_) (fun h0=> ?_)
  ·have e0:x.d.put bb=(x.d,ba bb,0):=by unfold RD.put;rw[if_neg hbg,if_neg (by rw[h0];decide),if_pos h0]
   rw[e0]
   refine ah<|wC [0,1,2,3] (.alt 0 (.alt 1 (.alt 2 (.alt 3 (.take 4 4<|.done) (.stop)) (.stop)) (.alt 2 (.alt 1 (.alt 3 (.take 4 4<|.done) (.stop)) (.stop)) (.stop))) (.alt 1 (.alt 0 (.alt 2 (.alt 3 (.take 4 4<|.done) (.stop)) (.stop)) (.stop)) (.stop))) (by kernel_rfl) (by kernel_rfl) rfl 1<| ?_
   refine ep ?_ ?_
   ·refine fz<|lY (fun m=>yV (a6 rfl cE bu rfl ((m.aY 3 rfl).ay)) ((rfl:_=Value.agg x.cs.toArray)))<|And.intro (fun _=>wk [0,0,0,0] [0,1,2] rfl rfl)<| ?_
    refine ep ?_ ?_
    ·refine fz<|lY (fun m=>a6 rfl cr bp h32 ((m.aY 0 rfl).ay))<|And.intro (fun h=>absurd h (by decide))<| ?_
     refine ea (aJ 2 rfl rfl rfl bu rfl bN rfl ⟨(fun h=>absurd h (by decide)), ?_⟩)
     refine ea (aJ 2 rfl rfl rfl bp h32 aS rfl ⟨(fun h=>absurd h (by decide)), ?_⟩)
     refine bX (ab rfl)<|eK<|al (ρ' :=[(6,_),(24,_),(9,_),(7,_),(12,_),(5,_),(4,_),(2,_),(0,_),(1,_)]) ⟨rfl,rfl,rfl,rfl,rfl,rfl,rfl,rfl,rfl,rfl,trivial⟩<|ak (X' :=[_,_,_,_]) (S' :=[_,_,_]) (fun _ m=>m)<|ag<|aU<|ax<| ?_
     exact eV trivial rfl rfl rfl rfl cE bu rfl (fun m=>(m.aY 1 rfl).ay) cr bp h32 (fun m=>(m.aY 0 rfl).ay) [] rfl [0] rfl ⟨x,rfl,rfl,rfl,rfl⟩
    ·refine ea (aJ 2 rfl rfl rfl bu rfl bN rfl ⟨(fun h=>absurd h (by decide)), ?_⟩)
     refine fz<|lY (fun m=>a6 rfl cr bp h32 ((m.aY 1 rfl).ay))<|And.intro (fun h=>absurd h (by decide))<| ?_
     refine ea (aJ 2 rfl rfl rfl bp h32 aS rfl ⟨(fun h=>absurd h (by decide)), ?_⟩)
     refine bX (ab rfl)<|eK<|al (ρ' :=[(6,_),(24,_),(9,_),(7,_),(12,_),(5,_),(4,_),(2,_),(0,_),(1,_)]) ⟨rfl,rfl,rfl,rfl,rfl,rfl,rfl,rfl,rfl,rfl,trivial⟩<|ak (X' :=[_,_,_,_]) (S' :=[_,_,_]) (fun _ m=>m)<|ag<|aU<|ax<| ?_
     exact eV trivial rfl rfl rfl rfl cE bu rfl (fun m=>(m.aY 1 rfl).ay) cr bp h32 (fun m=>(m.aY 0 rfl).ay) [] rfl [0] rfl ⟨x,rfl,rfl,rfl,rfl⟩
   ·refine fz<|lY (fun m=>a6 rfl cr bp h32 ((m.aY 0 rfl).ay))<|And.intro (fun _=>wk [0,0,0,0] [0,1,2] rfl rfl)<|fz<|lY (fun m=>yV (a6 rfl cE bu rfl ((m.aY 3 rfl).ay)) ((rfl:_=Value.agg x.cs.toArray)))<|And.intro (fun h=>absurd h (by decide))<| ?_
    refine ea (aJ 2 rfl rfl rfl bu rfl bN rfl ⟨(fun h=>absurd h (by decide)), ?_⟩)
    refine ea (aJ 2 rfl rfl rfl bp h32 aS rfl ⟨(fun h=>absurd h (by decide)), ?_⟩)
    refine bX (ab rfl)<|eK<|al (ρ' :=[(6,_),(24,_),(9,_),(7,_),(12,_),(5,_),(4,_),(2,_),(0,_),(1,_)]) ⟨rfl,rfl,rfl,rfl,rfl,rfl,rfl,rfl,rfl,rfl,trivial⟩<|ak (X' :=[_,_,_,_]) (S' :=[_,_,_]) (fun _ m=>m)<|ag<|aU<|ax<| ?_
    exact eV trivial rfl rfl rfl rfl cE bu rfl (fun m=>(m.aY 1 rfl).ay) cr bp h32 (fun m=>(m.aY 0 rfl).ay) [] rfl [0] rfl ⟨x,rfl,rfl,rfl,rfl⟩
  ·refine aD<|ag<|ah<|ah<|aj<|hy (fun _=>aa rfl)<|hy (fun _=>cH rfl rfl)<|ai<|al (ρ' :=[(28,_),(24,_),(9,_),(7,_),(12,_),(6,_),(5,_),(4,_),(2,_),(0,_),(1,_)]) ⟨rfl,rfl,rfl,rfl,rfl,rfl,rfl,rfl,rfl,rfl,rfl,trivial⟩<|ag<| ?_
   refine cD rfl (fun h6=> ?_) (fun h6=> ?_)
   ·have e0:x.d.put bb=(x.d,dR,6):=by unfold RD.put;rw[if_neg hbg,if_pos h6]
    rw[e0,h6]
    refine ah<|aj<|hy (fun m=>yV (a6 rfl cE bu rfl ((m.aY 3 rfl).ay)) ((rfl:_=Value.agg x.cs.toArray)))<|hy (fun _=>yV (eC dL rfl (by kernel_rfl)) ((rfl:_=Value.agg (aQ dR).toArray)))<|hy (fun _=>aa rfl)<| ?_
    refine cI (aJ 2 rfl rfl rfl bu rfl bN rfl ?_)
    refine cI (aJ 2 rfl rfl rfl bp z32 aS rfl ?_)
    refine hy (fun _=>ab rfl)<|ai<|al (ρ' :=[(6,_),(28,_),(24,_),(9,_),(7,_),(12,_),(5,_),(4,_),(2,_),(0,_),(1,_)]) ⟨rfl,rfl,rfl,rfl,rfl,rfl,rfl,rfl,rfl,rfl,rfl,trivial⟩<|ak (X' :=[_,_,_,_]) (S' :=[_,_,_]) (fun _ m=>m)<|ag<|aU<|ax<| ?_
    exact eV trivial rfl rfl rfl rfl cE bu rfl (fun m=>(m.aY 1 rfl).ay) cr bp z32 (fun m=>(m.aY 0 rfl).ay) [] rfl [0] rfl ⟨x,rfl,rfl,rfl,rfl⟩
   ·refine aD<|ag<|ah<|cN [2,4,5,6,10] [(0,some 3),(1,some 0),(3,some 1),(2,none),(4,none),(5,none),(6,none),(7,some 4),(8,some 4),(9,some 5),(10,none),(11,some 5)] (by kernel_rfl) (by kernel_rfl) rfl 4<|b6 (fun m=>yV (a6 rfl cE bu rfl ((m.aY 3 rfl).ay)) ((rfl:_=Value.agg x.cs.toArray)))<|b6 (fun m=>a6 rfl cr bp h32 ((m.aY 0 rfl).ay))<|an (aa rfl)<| ?_
    refine dT (aq rfl Tryz.call98 (vp hm) [] rfl [] rfl ?_)
    rintro _ _ _ ⟨rfl,rfl,rfl⟩
    refine⟨(fun _=>wk [0,0,0,0] [0,1,2] rfl rfl), ?_⟩
    refine dT (aq rfl Tryz.call81 (CU hc (by omega) hl) [] rfl [1] rfl ?_)
    rintro _ _ _ ⟨v,rfl,rfl,rfl⟩
    refine⟨(fun _=>wk [1,1,1,1] [0,1,2] rfl rfl), ?_⟩
    refine b9 (fun m=>(m.own 0 rfl).slice) ?_
    rintro⟨A_x,c_x,rfl,hc_x⟩
    refine b9 (fun m=>(m.ord 0 rfl).2.1) fun hA_x=> ?_
    refine Ep (fun _=>wk [1,1,1,1] [0,1,2] rfl rfl) (fun m=>jX rfl Tryz.underlying27 Tryz.underlying5 Tryz.underlying9 (m.ord 0 rfl))<| ?_
    refine dT (aq rfl Tryz.call31 (mL okr (by omega) (by rw[iV hm];decide) (by omega) (p:=(bJ (ba bb))) (bb:=(bA bb))) [] rfl [0] rfl ?_)
    rintro _ _ _ ⟨y,rfl,rfl,rfl,hd1⟩
    refine⟨(fun _=>wk [1,1,1,1] [1,2,3] rfl rfl), ?_⟩
    refine an (aa rfl)<|an (au rfl rfl)<|an (au rfl rfl)<| ?_
    refine j5 (aJ 4 rfl rfl rfl bu rfl bN rfl ⟨(fun h=>absurd h (by decide)), ?_⟩)
    refine an (ab rfl)<|bz<|al (ρ' :=[(9,_),(28,_),(24,_),(7,_),(12,_),(6,_),(5,_),(4,_),(2,_),(0,_),(1,_)]) ⟨rfl,rfl,rfl,rfl,rfl,rfl,rfl,rfl,rfl,rfl,rfl,trivial⟩<|ak (X' :=[_,_,_,_,_]) (S' :=[_,_,_,_]) (fun _ m=>m)<|ag<|ah<|ah<|aj<|hy (fun _=>aa rfl)<|hy (fun _=>cH rfl rfl)<|ai<|al (ρ' :=[(43,_),(9,_),(28,_),(24,_),(7,_),(12,_),(6,_),(5,_),(4,_),(2,_),(0,_),(1,_)]) ⟨rfl,rfl,rfl,rfl,rfl,rfl,rfl,rfl,rfl,rfl,rfl,rfl,trivial⟩<|ag<| ?_
    refine cD rfl (fun h1=> ?_) (fun h1=> ?_)
    ·refine aj<|hy (fun m=>yV (a6 rfl cE bu rfl ((m.aY 0 rfl).ay)) ((rfl:_=Value.agg y.cs.toArray)))<| ?_
     refine hx (aq rfl Tryz.call99 (uy (by rw[hd1];exact okr1)) [] rfl [0] rfl ?_)
     rintro _ _ _ ⟨y2,rfl,rfl,rfl,hd2⟩
     refine hy (fun _=>aa rfl)<|hy (fun _=>au rfl rfl)<|hy (fun _=>au rfl rfl)<| ?_
     refine cI (aJ 0 rfl rfl rfl bu rfl bN rfl ?_)
     refine hy (fun _=>ab rfl)<|ai<|al (ρ' :=[(9,_),(43,_),(28,_),(24,_),(7,_),(12,_),(6,_),(5,_),(4,_),(2,_),(0,_),(1,_)]) ⟨rfl,rfl,rfl,rfl,rfl,rfl,rfl,rfl,rfl,rfl,rfl,rfl,trivial⟩<|ak (X' :=[_,_,_,_,_]) (S' :=[_,_,_,_,_]) (fun _ m=>m)<|ag<|ah<|ah<|aj<|hy (fun _=>aa rfl)<|hy (fun _=>cH rfl rfl)<|ai<|al (ρ' :=[(50,_),(9,_),(43,_),(28,_),(24,_),(7,_),(12,_),(6,_),(5,_),(4,_),(2,_),(0,_),(1,_)]) ⟨rfl,rfl,rfl,rfl,rfl,rfl,rfl,rfl,rfl,rfl,rfl,rfl,rfl,trivial⟩<|ag<| ?_
     refine cD rfl (fun h2=> ?_) (fun h2=> ?_)
     ·refine cN [2,4,5,9] [(0,some 2),(1,some 0),(3,some 1),(2,none),(4,none),(5,none),(6,some 3),(7,some 3),(8,some 4),(9,none),(10,some 4)] (by kernel_rfl) (by kernel_rfl) rfl 3<|b6 (fun m=>yV (a6 rfl cE bu rfl ((m.aY 0 rfl).ay)) ((rfl:_=Value.agg y2.cs.toArray)))<|b6 (fun m=>a6 rfl cr bp h32 ((m.aY 2 rfl).ay))<|b6 (fun m=>a6 rfl cr bp h32 ((m.aY 2 rfl).ay))<| ?_
      refine dT (aq rfl Tryz.call98 (vp hm) [] rfl [] rfl ?_)
      rintro _ _ _ ⟨rfl,rfl,rfl⟩
      refine⟨(fun _=>wk [0,0,0,0,0] [0,1,2,3,4] rfl rfl), ?_⟩
      refine dT (aq rfl Tryz.call29 (rW hm) [] rfl [] rfl ?_)
      rintro _ _ _ ⟨rfl,rfl,rfl⟩
      refine⟨(fun _=>wk [0,0,0,0,0] [0,1,2,3,4] rfl rfl), ?_⟩
      refine dT (aq rfl Tryz.call100 (xS (by rw[hd2,hd1];exact okr2) (show kk+1≤100000 by omega) (by rw[dS hm];decide) (a:=(bJ (ba bb))) (c:=(aF (ba bb)))) [] rfl [0] rfl ?_)
      rintro _ _ _ ⟨y3,rfl,rfl,rfl,hd3⟩
      refine⟨(fun _=>wk [0,0,0,0,0] [1,2,3,4,5] rfl rfl), ?_⟩
      refine an (aa rfl)<|an (au rfl rfl)<|an (au rfl rfl)<| ?_
      refine j5 (aJ 0 rfl rfl rfl bu rfl bN rfl ⟨(fun h=>absurd h (by decide)), ?_⟩)
      refine an (ab rfl)<|bz<|al (ρ' :=[(9,_),(50,_),(43,_),(28,_),(24,_),(7,_),(12,_),(6,_),(5,_),(4,_),(2,_),(0,_),(1,_)]) ⟨rfl,rfl,rfl,rfl,rfl,rfl,rfl,rfl,rfl,rfl,rfl,rfl,rfl,trivial⟩<|ak (X' :=[_,_,_,_,_]) (S' :=[_,_,_,_,_,_]) (fun _ m=>m)<|ag<|ah<|ah<|aj<|hy (fun _=>aa rfl)<|hy (fun _=>cH rfl rfl)<|ai<|al (ρ' :=[(61,_),(9,_),(50,_),(43,_),(28,_),(24,_),(7,_),(12,_),(6,_),(5,_),(4,_),(2,_),(0,_),(1,_)]) ⟨rfl,rfl,rfl,rfl,rfl,rfl,rfl,rfl,rfl,rfl,rfl,rfl,rfl,rfl,trivial⟩<|ag<| ?_
      refine cD rfl (fun h3=> ?_) (fun h3=> ?_)
      ·have hP:=CX (d:=x.d) (bb:=bb) h1 (by rw[←hd1];exact h2) (by rw[←hd1,←hd2];exact h3)
       rw[←hd1,←hd2,←hd3]at hP
       have e0:=my hbg h6 h0 hP
       refine aj<|hy (fun m=>yV (a6 rfl cE bu rfl ((m.aY 0 rfl).ay)) ((rfl:_=Value.agg y3.cs.toArray)))<| ?_
       refine hx (aq rfl Tryz.call99 (uy (by rw[hd3,hd2,hd1];exact okr3)) [] rfl [0] rfl ?_)
       rintro _ _ _ ⟨y4,rfl,rfl,rfl,hd4⟩
       refine hy (fun _=>aa rfl)<|hy (fun _=>au rfl rfl)<|hy (fun _=>au rfl rfl)<| ?_
       refine cI (aJ 0 rfl rfl rfl bu rfl bN rfl ?_)
       refine hy (fun _=>ab rfl)<|ai<|al (ρ' :=[(9,_),(61,_),(50,_),(43,_),(28,_),(24,_),(7,_),(12,_),(6,_),(5,_),(4,_),(2,_),(0,_),(1,_)]) ⟨rfl,rfl,rfl,rfl,rfl,rfl,rfl,rfl,rfl,rfl,rfl,rfl,rfl,rfl,trivial⟩<|ak (X' :=[_,_,_,_,_]) (S' :=[_,_,_,_,_,_,_]) (fun _ m=>m)<|ag<|ah<|ah<|aj<|hy (fun _=>aa rfl)<|hy (fun _=>dN rfl rfl)<|ai<|al (ρ' :=[(68,_),(9,_),(61,_),(50,_),(43,_),(28,_),(24,_),(7,_),(12,_),(6,_),(5,_),(4,_),(2,_),(0,_),(1,_)]) ⟨rfl,rfl,rfl,rfl,rfl,rfl,rfl,rfl,rfl,rfl,rfl,rfl,rfl,rfl,rfl,trivial⟩<|ag<| ?_
       rw[←hd4]at e0
       refine cD rfl (fun h4=> ?_) (fun h4=> ?_)
       ·rw[if_neg h4]at e0
        rw[e0]
        refine ah<|aj<|hy (fun m=>yV (a6 rfl cE bu rfl ((m.aY 0 rfl).ay)) ((rfl:_=Value.agg y4.cs.toArray)))<|hy (fun _=>yV (eC dL rfl (by kernel_rfl)) ((rfl:_=Value.agg (aQ dR).toArray)))<|hy (fun _=>aa rfl)<| ?_
        refine cI (aJ 4 rfl rfl rfl bu rfl bN rfl ?_)
        refine cI (aJ 4 rfl rfl rfl bp z32 aS rfl ?_)
        refine hy (fun _=>ab rfl)<|ai<|al (ρ' :=[(6,_),(68,_),(9,_),(61,_),(50,_),(43,_),(28,_),(24,_),(7,_),(12,_),(5,_),(4,_),(2,_),(0,_),(1,_)]) ⟨rfl,rfl,rfl,rfl,rfl,rfl,rfl,rfl,rfl,rfl,rfl,rfl,rfl,rfl,rfl,trivial⟩<|ak (X' :=[_,_,_,_,_]) (S' :=[_,_,_,_,_,_,_]) (fun _ m=>m)<|ag<|aU<|ax<| ?_
        exact eV trivial rfl rfl rfl rfl cE bu rfl (fun m=>(m.aY 1 rfl).ay) cr bp z32 (fun m=>(m.aY 0 rfl).ay) [] rfl [0] rfl ⟨y4,rfl,rfl,rfl,rfl⟩
       ·have h4:=Decidable.not_not.1 h4
        rw[if_pos h4,h4]at e0
        rw[e0]
        refine aD<|ag<|ah<|wC [0,1,2,3] (.alt 0 (.alt 1 (.alt 2 (.alt 3 (.take 4 4<|.done) (.stop)) (.stop)) (.alt 2 (.alt 1 (.alt 3 (.take 4 4<|.done) (.stop)) (.stop)) (.stop))) (.alt 1 (.alt 0 (.alt 2 (.alt 3 (.take 4 4<|.done) (.stop)) (.stop)) (.stop)) (.stop))) (by kernel_rfl) (by kernel_rfl) rfl 1<| ?_
        refine ep ?_ ?_
        ·refine fz<|lY (fun m=>yV (a6 rfl cE bu rfl ((m.aY 0 rfl).ay)) ((rfl:_=Value.agg y4.cs.toArray)))<|And.intro (fun _=>wk [0,0,0,0,0] [0,1,2,3,4,5,6] rfl rfl)<| ?_
         refine ep ?_ ?_
         ·refine fz<|lY (fun m=>a6 rfl cr bp h32 ((m.aY 2 rfl).ay))<|And.intro (fun h=>absurd h (by decide))<| ?_
          refine ea (aJ 4 rfl rfl rfl bu rfl bN rfl ⟨(fun h=>absurd h (by decide)), ?_⟩)
          refine ea (aJ 4 rfl rfl rfl bp h32 aS rfl ⟨(fun h=>absurd h (by decide)), ?_⟩)
          refine bX (ab rfl)<|eK<|al (ρ' :=[(6,_),(68,_),(9,_),(61,_),(50,_),(43,_),(28,_),(24,_),(7,_),(12,_),(5,_),(4,_),(2,_),(0,_),(1,_)]) ⟨rfl,rfl,rfl,rfl,rfl,rfl,rfl,rfl,rfl,rfl,rfl,rfl,rfl,rfl,rfl,trivial⟩<|ak (X' :=[_,_,_,_,_]) (S' :=[_,_,_,_,_,_,_]) (fun _ m=>m)<|ag<|aU<| ?_
          exact eV trivial rfl rfl rfl rfl cE bu rfl (fun m=>(m.aY 1 rfl).ay) cr bp h32 (fun m=>(m.aY 0 rfl).ay) [] rfl [0] rfl ⟨y4,rfl,rfl,rfl,rfl⟩
         ·refine ea (aJ 4 rfl rfl rfl bu rfl bN rfl ⟨(fun h=>absurd h (by decide)), ?_⟩)
          refine fz<|lY (fun m=>a6 rfl cr bp h32 ((m.aY 3 rfl).ay))<|And.intro (fun h=>absurd h (by decide))<| ?_
          refine ea (aJ 4 rfl rfl rfl bp h32 aS rfl ⟨(fun h=>absurd h (by decide)), ?_⟩)
          refine bX (ab rfl)<|eK<|al (ρ' :=[(6,_),(68,_),(9,_),(61,_),(50,_),(43,_),(28,_),(24,_),(7,_),(12,_),(5,_),(4,_),(2,_),(0,_),(1,_)]) ⟨rfl,rfl,rfl,rfl,rfl,rfl,rfl,rfl,rfl,rfl,rfl,rfl,rfl,rfl,rfl,trivial⟩<|ak (X' :=[_,_,_,_,_]) (S' :=[_,_,_,_,_,_,_]) (fun _ m=>m)<|ag<|aU<| ?_
          exact eV trivial rfl rfl rfl rfl cE bu rfl (fun m=>(m.aY 1 rfl).ay) cr bp h32 (fun m=>(m.aY 0 rfl).ay) [] rfl [0] rfl ⟨y4,rfl,rfl,rfl,rfl⟩
        ·refine fz<|lY (fun m=>a6 rfl cr bp h32 ((m.aY 2 rfl).ay))<|And.intro (fun _=>wk [0,0,0,0,0] [0,1,2,3,4,5,6] rfl rfl)<|fz<|lY (fun m=>yV (a6 rfl cE bu rfl ((m.aY 0 rfl).ay)) ((rfl:_=Value.agg y4.cs.toArray)))<|And.intro (fun h=>absurd h (by decide))<| ?_
         refine ea (aJ 4 rfl rfl rfl bu rfl bN rfl ⟨(fun h=>absurd h (by decide)), ?_⟩)
         refine ea (aJ 4 rfl rfl rfl bp h32 aS rfl ⟨(fun h=>absurd h (by decide)), ?_⟩)
         refine bX (ab rfl)<|eK<|al (ρ' :=[(6,_),(68,_),(9,_),(61,_),(50,_),(43,_),(28,_),(24,_),(7,_),(12,_),(5,_),(4,_),(2,_),(0,_),(1,_)]) ⟨rfl,rfl,rfl,rfl,rfl,rfl,rfl,rfl,rfl,rfl,rfl,rfl,rfl,rfl,rfl,trivial⟩<|ak (X' :=[_,_,_,_,_]) (S' :=[_,_,_,_,_,_,_]) (fun _ m=>m)<|ag<|aU<| ?_
         exact eV trivial rfl rfl rfl rfl cE bu rfl (fun m=>(m.aY 1 rfl).ay) cr bp h32 (fun m=>(m.aY 0 rfl).ay) [] rfl [0] rfl ⟨y4,rfl,rfl,rfl,rfl⟩
      ·have hP:=Dn (d:=x.d) (bb:=bb) h1 (by rw[←hd1];exact h2) (by rw[←hd1,←hd2];exact h3)
       rw[←hd1,←hd2,←hd3]at hP
       have e0:=my hbg h6 h0 hP
       rw[if_neg h3]at e0
       rw[e0]
       refine aD<|ag<|ah<|ah<|aj<|hy (fun _=>aa rfl)<|hy (fun _=>dN rfl rfl)<|ai<|al (ρ' :=[(68,_),(61,_),(9,_),(50,_),(43,_),(28,_),(24,_),(7,_),(12,_),(6,_),(5,_),(4,_),(2,_),(0,_),(1,_)]) ⟨rfl,rfl,rfl,rfl,rfl,rfl,rfl,rfl,rfl,rfl,rfl,rfl,rfl,rfl,rfl,trivial⟩<|ag<| ?_
       refine ib rfl ((decide_eq_true h3)) ?_
       refine ah<|aj<|hy (fun m=>yV (a6 rfl cE bu rfl ((m.aY 0 rfl).ay)) ((rfl:_=Value.agg y3.cs.toArray)))<|hy (fun _=>yV (eC dL rfl (by kernel_rfl)) ((rfl:_=Value.agg (aQ dR).toArray)))<|hy (fun _=>aa rfl)<| ?_
       refine cI (aJ 4 rfl rfl rfl bu rfl bN rfl ?_)
       refine cI (aJ 4 rfl rfl rfl bp z32 aS rfl ?_)
       refine hy (fun _=>ab rfl)<|ai<|al (ρ' :=[(6,_),(68,_),(61,_),(9,_),(50,_),(43,_),(28,_),(24,_),(7,_),(12,_),(5,_),(4,_),(2,_),(0,_),(1,_)]) ⟨rfl,rfl,rfl,rfl,rfl,rfl,rfl,rfl,rfl,rfl,rfl,rfl,rfl,rfl,rfl,trivial⟩<|ak (X' :=[_,_,_,_,_]) (S' :=[_,_,_,_,_,_]) (fun _ m=>m)<|ag<|aU<|ax<| ?_
       exact eV trivial rfl rfl rfl rfl cE bu rfl (fun m=>(m.aY 1 rfl).ay) cr bp z32 (fun m=>(m.aY 0 rfl).ay) [] rfl [0] rfl ⟨y3,rfl,rfl,rfl,rfl⟩
     ·have hP:=Ee (d:=x.d) (bb:=bb) h1 (by rw[←hd1];exact h2)
      rw[←hd1,←hd2]at hP
      have e0:=my hbg h6 h0 hP
      rw[if_neg h2]at e0
      rw[e0]
      refine aD<|ag<|ah<|ah<|aj<|hy (fun _=>aa rfl)<|hy (fun _=>cH rfl rfl)<|ai<|al (ρ' :=[(61,_),(50,_),(9,_),(43,_),(28,_),(24,_),(7,_),(12,_),(6,_),(5,_),(4,_),(2,_),(0,_),(1,_)]) ⟨rfl,rfl,rfl,rfl,rfl,rfl,rfl,rfl,rfl,rfl,rfl,rfl,rfl,rfl,trivial⟩<|ag<| ?_
      refine dP rfl ((decide_eq_false h2)) ?_
      refine aD<|ag<|ah<|ah<|aj<|hy (fun _=>aa rfl)<|hy (fun _=>dN rfl rfl)<|ai<|al (ρ' :=[(68,_),(61,_),(50,_),(9,_),(43,_),(28,_),(24,_),(7,_),(12,_),(6,_),(5,_),(4,_),(2,_),(0,_),(1,_)]) ⟨rfl,rfl,rfl,rfl,rfl,rfl,rfl,rfl,rfl,rfl,rfl,rfl,rfl,rfl,rfl,trivial⟩<|ag<| ?_
      refine ib rfl ((decide_eq_true h2)) ?_
      refine ah<|aj<|hy (fun m=>yV (a6 rfl cE bu rfl ((m.aY 0 rfl).ay)) ((rfl:_=Value.agg y2.cs.toArray)))<|hy (fun _=>yV (eC dL rfl (by kernel_rfl)) ((rfl:_=Value.agg (aQ dR).toArray)))<|hy (fun _=>aa rfl)<| ?_
      refine cI (aJ 4 rfl rfl rfl bu rfl bN rfl ?_)
      refine cI (aJ 4 rfl rfl rfl bp z32 aS rfl ?_)
      refine hy (fun _=>ab rfl)<|ai<|al (ρ' :=[(6,_),(68,_),(61,_),(50,_),(9,_),(43,_),(28,_),(24,_),(7,_),(12,_),(5,_),(4,_),(2,_),(0,_),(1,_)]) ⟨rfl,rfl,rfl,rfl,rfl,rfl,rfl,rfl,rfl,rfl,rfl,rfl,rfl,rfl,rfl,trivial⟩<|ak (X' :=[_,_,_,_,_]) (S' :=[_,_,_,_,_]) (fun _ m=>m)<|ag<|aU<|ax<| ?_
      exact eV trivial rfl rfl rfl rfl cE bu rfl (fun m=>(m.aY 1 rfl).ay) cr bp z32 (fun m=>(m.aY 0 rfl).ay) [] rfl [0] rfl ⟨y2,rfl,rfl,rfl,rfl⟩
    ·have hP:=Dv (d:=x.d) (bb:=bb) h1
     have e0:=my hbg h6 h0 hP
     rw[if_neg h1]at e0
     rw[e0,←hd1]
     refine aD<|ag<|ah<|ah<|aj<|hy (fun _=>aa rfl)<|hy (fun _=>cH rfl rfl)<|ai<|al (ρ' :=[(50,_),(43,_),(9,_),(28,_),(24,_),(7,_),(12,_),(6,_),(5,_),(4,_),(2,_),(0,_),(1,_)]) ⟨rfl,rfl,rfl,rfl,rfl,rfl,rfl,rfl,rfl,rfl,rfl,rfl,rfl,trivial⟩<|ag<| ?_
     refine dP rfl ((decide_eq_false h1)) ?_
     refine aD<|ag<|ah<|ah<|aj<|hy (fun _=>aa rfl)<|hy (fun _=>cH rfl rfl)<|ai<|al (ρ' :=[(61,_),(50,_),(43,_),(9,_),(28,_),(24,_),(7,_),(12,_),(6,_),(5,_),(4,_),(2,_),(0,_),(1,_)]) ⟨rfl,rfl,rfl,rfl,rfl,rfl,rfl,rfl,rfl,rfl,rfl,rfl,rfl,rfl,trivial⟩<|ag<| ?_
     refine dP rfl ((decide_eq_false h1)) ?_
     refine aD<|ag<|ah<|ah<|aj<|hy (fun _=>aa rfl)<|hy (fun _=>dN rfl rfl)<|ai<|al (ρ' :=[(68,_),(61,_),(50,_),(43,_),(9,_),(28,_),(24,_),(7,_),(12,_),(6,_),(5,_),(4,_),(2,_),(0,_),(1,_)]) ⟨rfl,rfl,rfl,rfl,rfl,rfl,rfl,rfl,rfl,rfl,rfl,rfl,rfl,rfl,rfl,trivial⟩<|ag<| ?_
     refine ib rfl ((decide_eq_true h1)) ?_
     refine ah<|aj<|hy (fun m=>yV (a6 rfl cE bu rfl ((m.aY 0 rfl).ay)) ((rfl:_=Value.agg y.cs.toArray)))<|hy (fun _=>yV (eC dL rfl (by kernel_rfl)) ((rfl:_=Value.agg (aQ dR).toArray)))<|hy (fun _=>aa rfl)<| ?_
     refine cI (aJ 4 rfl rfl rfl bu rfl bN rfl ?_)
     refine cI (aJ 4 rfl rfl rfl bp z32 aS rfl ?_)
     refine hy (fun _=>ab rfl)<|ai<|al (ρ' :=[(6,_),(68,_),(61,_),(50,_),(43,_),(9,_),(28,_),(24,_),(7,_),(12,_),(5,_),(4,_),(2,_),(0,_),(1,_)]) ⟨rfl,rfl,rfl,rfl,rfl,rfl,rfl,rfl,rfl,rfl,rfl,rfl,rfl,rfl,rfl,trivial⟩<|ak (X' :=[_,_,_,_,_]) (S' :=[_,_,_,_]) (fun _ m=>m)<|ag<|aU<|ax<| ?_
     exact eV trivial rfl rfl rfl rfl cE bu rfl (fun m=>(m.aY 1 rfl).ay) cr bp z32 (fun m=>(m.aY 0 rfl).ay) [] rfl [0] rfl ⟨y,rfl,rfl,rfl,rfl⟩
end Go.Proofs.YtmibdabdlgmafaaGreatDoor
end
section
set_option maxRecDepth 20000
set_option maxHeartbeats 4000000
namespace Go.Proofs.YtmibdabdlgmafaaGreatDoor
open Go.Eng Go.Hx
def rT(acc:List (List UInt8))(p:List UInt8):List (List UInt8):=match mJ p with|some nm=>ek acc nm|none=>acc
def vX(d:RD)(i:Nat):List (List UInt8):=((d.seen.take i).map (·.1)).foldl rT []
end Go.Proofs.YtmibdabdlgmafaaGreatDoor
end
section
set_option maxRecDepth 20000
set_option maxHeartbeats 4000000
namespace Go.Proofs.YtmibdabdlgmafaaGreatDoor
open Go.Eng Go.Hx
abbrev It:=oo×Int
structure IX where
 mn:Int
 av:Int
 mx:Int
 vJ:oo
 kT:List It
 A:Option Addr
 c:Nat
def xF(t:It):List Value:=aQ t.1.b++[.int .i64 t.2]
def zI(l:List It):List Value:=l.flatMap xF
theorem kP(t:It):(xF t).length=33:=by simp[xF,az,t.1.h]
theorem wa(t:It):∀u∈xF t,u.oneCell' =true:=by
 intro u hu
 rcases List.mem_append.1 hu with h|h
 ·exact gk u h
 ·rw[List.mem_singleton.1 h];rfl
theorem ue(a b:List It):zI (a++b)=zI a++zI b:=by simp[zI]
theorem AT{l:List It}:∀u∈zI l,u.oneCell' =true:=by
 intro u hu
 obtain⟨t,_,h⟩:=List.mem_flatMap.1 hu
 exact wa t u h
def IX.cs(x:IX):List Value:=[.int .i64 x.mn,.int .i64 x.av,.int .i64 x.mx]++aQ x.vJ.b++[.slice x.A x.kT.length x.c]
theorem IX.dy(x:IX):x.cs.length=36:=by simp[IX.cs,az,x.vJ.h]
theorem IX.bN(x:IX):∀u∈x.cs,u.oneCell' =true:=by
 intro u hu
 rcases List.mem_append.1 hu with h|h
 ·rcases List.mem_append.1 h with h|h
  ·simp only[List.mem_cons,List.not_mem_nil,or_false]at h
   rcases h with rfl|rfl|rfl <;> rfl
  ·exact gk u h
 ·rw[List.mem_singleton.1 h];rfl
theorem IX.zN(x:IX):x.cs[35]? =some (.slice x.A x.kT.length x.c):=by
 have:([Value.int .i64 x.mn,.int .i64 x.av,.int .i64 x.mx]++aQ x.vJ.b).length=35:=by simp[az,x.vJ.h]
 unfold IX.cs
 rw[List.getElem?_append_right (by omega),this]
 rfl
def Cz(L:List IX):List Value:=L.flatMap IX.cs
def IX.oB(x:IX):bg:=c6 33 x.A x.kT.length (zI x.kT)
def IX.names(x:IX):List (List UInt8):=x.kT.map (·.1.b)
def dG(L:List IX):List (List UInt8):=L.flatMap IX.names
theorem qu(x:IX):mN x.names:=fun d hd=>by
 obtain⟨t,_,rfl⟩:=List.mem_map.1 hd
 exact t.1.h
theorem km(L:List IX):mN (dG L):=fun d hd=>by
 obtain⟨x,_,h⟩:=List.mem_flatMap.1 hd
 exact qu x d h
theorem qH{L:List IX}{i:Nat}{x:IX}(h:L[i]? =some x):dG (L.take (i+1))=dG (L.take i)++x.names:=by
 obtain⟨hi,rfl⟩:=List.getElem?_eq_some_iff.1 h
 rw[List.take_succ_eq_append_getElem hi,dG,List.flatMap_append,List.flatMap_cons,List.flatMap_nil,List.append_nil]
 rfl
theorem uv{x:IX}{j:Nat}{t:It}(h:x.kT[j]? =some t):x.names.take (j+1)=x.names.take j++[t.1.b]:=by
 obtain⟨hj,rfl⟩:=List.getElem?_eq_some_iff.1 h
 have hj2:j<x.names.length:=by rw[IX.names,List.length_map];exact hj
 rw[List.take_succ_eq_append_getElem hj2]
 simp[IX.names]
theorem gQ(x:IX):x.names.length=x.kT.length:=List.length_map ..
theorem BC{L:List IX}{i:Nat}{x:IX}(h:L[i]? =some x):(dG (L.take i)).length+x.kT.length≤(dG L).length:=by
 have h1:=qH h
 have h2:dG L=dG (L.take (i+1))++dG (L.drop (i+1)):=by
  unfold dG
  rw[←List.flatMap_append,List.take_append_drop]
 rw[h2,h1,List.length_append,List.length_append,gQ]
 omega
theorem vK{w:World}{g:Nat}{ty:TypeId}{a b:List Value}(h:fb w g ty (a++b)):∀(j:Nat) (u:Value),a[j]? =some u→w.cell? (((⟨g,0,none⟩:Addr).add 0).add j)=some u:=fun j u hu=>by
 have:=h.ay j u (by rw[List.getElem?_append_left (List.getElem?_eq_some_iff.1 hu).1];exact hu)
 rw[add_add,Nat.zero_add]
 exact this
theorem DG{w:World}{A:Option Addr}{n i:Nat}{l:List It}{t:It}(h:Rd w 33 A n (zI l))(hx:l[i]? =some t):∀(j:Nat) (u:Value),(aQ t.1.b)[j]? =some u→w.cell? ((((A.getD d0).add (i*33)).add 0).add j)=some u:=fun j u hu=>by
 have:=lE (f:=xF) kP h hx j u (by rw[xF,List.getElem?_append_left (List.getElem?_eq_some_iff.1 hu).1];exact hu)
 rw[add_add,Nat.zero_add]
 exact this
theorem qt{K:Option Addr}{n c:Nat}{L:List IX}(hL:L.length=n)(hn:n≤100000)(hs:(dG L).length≤100000):cf Tryz.prog 146 [.slice K n c] [] [c6 36 K n (Cz L),lM (L.map IX.oB)] (fun v_ X_ S_=>∃A1 k c1,v_=(.slice A1 k c1)∧X_=[aG 53 32 (.slice A1 k c1) k (dc ((dG L).foldl ek []))]∧S_=[]∧(k=((dG L).foldl ek []).length∧k≤c1)):=by
 refine aP (N:=32) Tryz.func146 rfl rfl (by simp) fun b=> ?_
 refine aZ (fun m=>jq (m.rd 0 rfl)) ?_
 rintro⟨hl_r,hA_r⟩
 refine ah<|aj<|hy (fun _=>ab rfl)<|ai<|ag<|ah<|aj<|hy (fun _=>ab rfl)<|ai<|ag<|ah<|ah<|aj<|hy (fun _=>aa rfl)<|hy (fun _=>aX rfl Tryz.underlying125)<|hy (fun _=>aa rfl)<|ai<|ag<|aK<| ?_
 refine bB (fun w m=>m.dx (r' :=aG 53 32 (.slice none 0 0) 0 []) (.refl _ _) (Own.nil _ _ _ _) (fun k hk=>hk.elim)) ?_
 refine kr (fun i k A1 c1=>n-i) (fun i k A1 c1=>[(3,.slice A1 k c1),(10,.int .i64 (i:Nat))]) (fun i k A1 c1=>[aG 53 32 (.slice A1 k c1) k (dc (dG (L.take i)))]) (fun i k A1 c1=>[]) (fun i k A1 c1=>i≤n∧k=(dG (L.take i)).length) 0 0 none 0 [(9,_),(8,_),(2,_),(0,_)] ⟨rfl,rfl,rfl,rfl,trivial⟩ [0] rfl [] rfl (⟨Nat.zero_le _,rfl⟩) ⟨rfl,rfl,trivial⟩ (fun i k A1 c1 ⟨hin,hk⟩=> ?_)
 refine ah<|aj<|hy (fun _=>bw rfl rfl)<|ai<|ag<|ah<| ?_
 refine cD rfl (fun hlt=> ?_) (fun hlt=> ?_)
 ·have hi:i<L.length:=by omega
  obtain⟨x,hxi⟩:∃x,L[i]? =some x:=⟨_,List.getElem?_eq_getElem hi⟩
  have hle:=BC hxi
  have hsu:=qH hxi
  refine bB (fun w m=>m.j6 1 rfl (View.n0 i (by rw[List.getElem?_map,hxi];rfl))) ?_
  refine aZ (fun m=>jq (m.rd 0 rfl)) ?_
  rintro⟨hl_it,hA_it⟩
  refine aZ (fun m=>(m.rd 0 rfl).2.1) fun hA_it=> ?_
  refine aD<|ag<|ah<|aK<|ah<|aj<|hy (fun _=>cQ rfl rfl Tryz.underlying125 wT hA_r rfl (by omega))<|hy (fun m=>yV (a6 rfl C8 wT x.dy (lE (f:=IX.cs) IX.dy (m.rd 1 rfl) hxi)) ((rfl:_=Value.agg x.cs.toArray)))<| ?_
  refine hx (aN wO (fun g5=> ?_))
  refine cI (aJ 0 rfl rfl rfl wT x.dy x.bN rfl ?_)
  refine ai<|al (ρ' :=[(5,_),(11,_),(3,_),(10,_),(9,_),(8,_),(2,_),(0,_)]) ⟨rfl,rfl,rfl,rfl,rfl,rfl,rfl,rfl,trivial⟩<|ak (X' :=[_,_]) (S' :=[_,_,_]) (fun _ m=>m)<|ag<|ah<|aj<|hy (fun _=>aL rfl Er (by decide))<|hy (fun m=>aw rfl zP (aA (m.aY 0 rfl) (i:=35) x.zN))<|hy (fun _=>aX rfl Tryz.underlying80)<|hy (fun _=>aa rfl)<|ai<|al (ρ' :=[(17,_),(16,_),(15,_),(5,_),(11,_),(3,_),(10,_),(9,_),(8,_),(2,_),(0,_)]) ⟨rfl,rfl,rfl,rfl,rfl,rfl,rfl,rfl,rfl,rfl,rfl,trivial⟩<|ag<|aK<| ?_
  have e0:dc (dG (L.take i))=dc (dG (L.take i)++x.names.take 0):=by rw[List.take_zero,List.append_nil]
  rw[e0]
  refine kr (fun j k2 A2 c2=>x.kT.length-j) (fun j k2 A2 c2=>[(3,.slice A2 k2 c2),(17,.int .i64 (j:Nat))]) (fun j k2 A2 c2=>[aG 53 32 (.slice A2 k2 c2) k2 (dc (dG (L.take i)++x.names.take j))]) (fun j k2 A2 c2=>[]) (fun j k2 A2 c2=>j≤x.kT.length∧k2=k+j) 0 k A1 c1 [(16,_),(15,_),(5,_),(11,_),(10,_),(9,_),(8,_),(2,_),(0,_)] ⟨rfl,rfl,rfl,rfl,rfl,rfl,rfl,rfl,rfl,trivial⟩ [1] rfl [] rfl (⟨Nat.zero_le _,rfl⟩) ⟨rfl,rfl,trivial⟩ (fun j k2 A2 c2 ⟨hj,hk2⟩=> ?_)
  refine ah<|aj<|hy (fun _=>bw rfl rfl)<|ai<|ag<|ah<| ?_
  refine cD rfl (fun hlt2=> ?_) (fun hlt2=> ?_)
  ·have hj2:j<x.kT.length:=by omega
   obtain⟨t,ht⟩:∃t,x.kT[j]? =some t:=⟨_,List.getElem?_eq_getElem hj2⟩
   have hns:=uv ht
   have h32:(aQ t.1.b).length=32:=by rw[az,t.1.h]
   refine aD<|ag<|ah<|aK<|ah<|aj<|hy (fun _=>cQ rfl rfl Tryz.underlying80 vW hA_it rfl (by omega))<|hy (fun m=>yV (a6 rfl ET vW (kP t) (lE (f:=xF) kP (m.rd 0 rfl) ht)) ((rfl:_=Value.agg (xF t).toArray)))<| ?_
   refine hx (aN wq (fun g7=> ?_))
   refine cI (aJ 0 rfl rfl rfl vW (kP t) (wa t) rfl ?_)
   refine ai<|al (ρ' :=[(7,_),(18,_),(3,_),(17,_),(16,_),(15,_),(5,_),(11,_),(10,_),(9,_),(8,_),(2,_),(0,_)]) ⟨rfl,rfl,rfl,rfl,rfl,rfl,rfl,rfl,rfl,rfl,rfl,rfl,rfl,trivial⟩<|ak (X' :=[_,_,_]) (S' :=[_,_,_]) (fun _ m=>m)<|ag<|aj<|hy (fun _=>aa rfl)<|hy (fun _=>aL rfl vM (by decide))<|hy (fun m=>a6 rfl cr bp h32 (vK (m.aY 0 rfl)))<| ?_
   refine hx (bV Tryz.underlying33 dL rfl rfl rfl (by simpa[Value.cells,B8]using h32) (by decide) (by decide) (fun g24=> ?_))
   have hA_b24:0<1→(some (⟨g24,0,none⟩:Addr))≠none:=fun _ h=>by cases h
   refine aR (fun w m=>m.bO 0 rfl (show _=aG 53 32 (.slice (some ⟨g24,0,none⟩) 1 1) 1 (dc [t.1.b])from rfl)) ?_
   refine hx (bH 2 rfl rfl rfl Tryz.underlying33 Tryz.underlying33 (by exact .inl rfl) dL rfl (fun m=>Src.bY (m.ord 0 rfl)) jx (by unfold maxLen;omega) (by omega) (fun u=> ?_))
   refine aB (fun m=>(m.own 0 rfl).slice) ?_
   rintro⟨A_o,c_o,rfl,hc_o⟩
   refine aB (fun m=>(m.ord 0 rfl).2.1) fun hA_o=> ?_
   refine aR (fun w m=>m.bO 0 rfl (show _=aG 53 32 (.slice A_o (k2+1) c_o) (k2+1) (dc (dG (L.take i)++x.names.take (j+1)))from congrArg (aG _ _ _ _) (by rw[hns,←List.append_assoc,fj _ [t.1.b]]))) ?_
   refine hy (fun _=>ab rfl)<|ai<|al (ρ' :=[(3,_),(7,_),(18,_),(17,_),(16,_),(15,_),(5,_),(11,_),(10,_),(9,_),(8,_),(2,_),(0,_)]) ⟨rfl,rfl,rfl,rfl,rfl,rfl,rfl,rfl,rfl,rfl,rfl,rfl,rfl,trivial⟩<|ak (X' :=[_,_,_,_]) (S' :=[_,_,_]) (fun _ m=>m)<|aT<|ag<|aj<|hy (fun _=>aM rfl rfl (bD (by omega) (by omega)))<|hy (fun _=>aa rfl)<|ai<|al (ρ' :=[(17,_),(3,_),(7,_),(18,_),(16,_),(15,_),(5,_),(11,_),(10,_),(9,_),(8,_),(2,_),(0,_)]) ⟨rfl,rfl,rfl,rfl,rfl,rfl,rfl,rfl,rfl,rfl,rfl,rfl,rfl,trivial⟩<| ?_
   refine gr (j+1) (k2+1) A_o c_o ⟨rfl,rfl,rfl,rfl,rfl,rfl,rfl,rfl,rfl,rfl,rfl,trivial⟩ [0,2] rfl [0,1,2] rfl (⟨by omega,by omega⟩) (by omega)
  ·obtain rfl:j=x.kT.length:=by omega
   have e1:dG (L.take i)++x.names.take x.kT.length=dG (L.take (i+1)):=by rw[hsu,List.take_of_length_le (l:=x.names) (by rw[gQ];exact Nat.le_refl _)]
   rw[e1]
   refine bK<|ao<|ao<|aC<|aT<|ag<|aj<|hy (fun _=>aM rfl rfl (bD (by omega) (by omega)))<|hy (fun _=>aa rfl)<|ai<|al (ρ' :=[(10,_),(18,_),(3,_),(17,_),(16,_),(15,_),(5,_),(11,_),(9,_),(8,_),(2,_),(0,_)]) ⟨rfl,rfl,rfl,rfl,rfl,rfl,rfl,rfl,rfl,rfl,rfl,rfl,trivial⟩<| ?_
   refine gr (i+1) k2 A2 c2 ⟨rfl,rfl,rfl,rfl,rfl,rfl,trivial⟩ [0] rfl [1,2] rfl (⟨by omega,by rw[hsu,List.length_append,gQ];omega⟩) (by omega)
 ·obtain rfl:i=n:=by omega
  have e2:L.take i=L:=List.take_of_length_le (by omega)
  rw[e2]at hk
  rw[e2]
  have hsl:=te (dG L)
  have hsD:mN (jK (dG L)):=fun d hd=>km L d ((jj _).mem_iff.1 hd)
  refine aZ (fun m=>(Own.rd (m.own 0 rfl)).2.1) fun hcc=> ?_
  refine bK<|ao<|ao<|aC<|ag<|ah<|aj<|hy (fun _=>aa rfl)<| ?_
  refine hx (aq rfl Tryz.call147 (qb (km L) (by omega)) [0] rfl [] rfl ?_)
  rintro _ _ _ ⟨rfl,rfl,rfl⟩
  refine ai<|al (ρ' :=[(11,_),(3,_),(10,_),(9,_),(8,_),(2,_),(0,_)]) ⟨rfl,rfl,rfl,rfl,rfl,rfl,rfl,trivial⟩<|ak (X' :=[_]) (S' :=[_,_]) (fun _ m=>m)<|ag<|ah<|aj<|hy (fun _=>aa rfl)<| ?_
  refine hx (aq rfl Tryz.call205 (za hsD (by omega) hcc (by omega)) [0] rfl [] rfl ?_)
  rintro _ _ _ ⟨k2,rfl,rfl,rfl,hk3⟩
  refine hy (fun _=>ab rfl)<|ai<|al (ρ' :=[(2,_),(11,_),(3,_),(10,_),(9,_),(8,_),(0,_)]) ⟨rfl,rfl,rfl,rfl,rfl,rfl,rfl,trivial⟩<|ak (X' :=[_]) (S' :=[_,_]) (fun _ m=>m)<|ag<|aU<| ?_
  have hk4:=vN (jK (dG L))
  rw[tr]at hk3 hk4
  rw[tr]
  exact bc trivial rfl rfl [0] rfl [] rfl ⟨_,_,_,rfl,rfl,rfl,⟨hk3,by omega⟩⟩
end Go.Proofs.YtmibdabdlgmafaaGreatDoor
end
section
namespace Go.Proofs.YtmibdabdlgmafaaGreatDoor
open Go.Eng Go.Hx
theorem sI:∀{a b:List UInt8},a<b→cb a b<0
 | [],[],h=>absurd h (List.lt_irrefl _)
 | [],y::s,_=>by show(-1:Int)<0;decide
 |x::r,[],h=>absurd h (List.not_lt_nil _)
 |x::r,y::s,h=>by
  rw[List.cons_lt_cons_iff]at h
  rw[iz]
  rcases h with h|⟨rfl,h⟩
  ·rw[if_pos h];decide
  ·rw[if_neg (UInt8.lt_irrefl _),if_neg (UInt8.lt_irrefl _)]
   exact sI h
theorem Ar{a b:List UInt8}(ha:a.length=32)(hb:b.length=32)(h:aF a<aF b):cb a b<0:=by
 have eE:∀{n:List UInt8},n.length=32→∃x y r,bW n=x::y::r∧aF n=99::47::x::y::47::bW n:=fun{n} hn=>by
  have h64:(bW n).length=64:=by rw[dA,hn]
  match hq:bW n with
  | []=>rw[hq]at h64;cases h64
  | [_]=>rw[hq]at h64;cases h64
  |x::y::r=>exact⟨x,y,r,rfl,by unfold aF;rw[hq];rfl⟩
 obtain⟨x,y,r,h1,h2⟩:=eE ha
 obtain⟨x',y',r',h3,h4⟩:=eE hb
 rw[h2,h4]at h
 rw[←v8]
 apply sI
 simp only[List.cons_lt_cons_iff,UInt8.lt_irrefl,false_or,true_and]at h
 rw[h1,h3]at h ⊢
 simp only[List.cons_lt_cons_iff]at h ⊢
 rcases h with h|⟨rfl,h⟩
 ·exact .inl h
 ·rcases h with h|⟨rfl,h⟩
  ·exact .inr ⟨rfl,.inl h⟩
  ·exact h
theorem na:∀(l acc:List (List UInt8)),l.Pairwise (· <·)→(∀a∈acc,∀p∈l,∀nm,mJ p=some nm→cb a nm<0)→l.foldl rT acc=acc++l.filterMap mJ
 | [],acc,_,_=>by simp
 |p::r,acc,hs,hA=>by
  rw[List.pairwise_cons]at hs
  rw[List.foldl_cons,List.filterMap_cons]
  cases hq:mJ p with
  |none=>
   have:rT acc p=acc:=by unfold rT;rw[hq]
   rw[this]
   exact na r acc hs.2 (fun a ha q hq2 nm h=>hA a ha q (List.mem_cons_of_mem _ hq2) nm h)
  |some nm=>
   have hp:nm.length=32∧p=aF nm:=by
    rw[←j7]at hq
    exact eA hq
   have hd:rT acc p=acc++[nm]:=by
    unfold rT
    rw[hq]
    have:=vg acc nm acc.length (Nat.le_refl _) (fun i hi=>by
     rw[List.getD,List.getElem?_eq_getElem hi]
     exact hA _ (List.getElem_mem hi) p (List.mem_cons_self ..) nm hq) (fun h=>absurd h (Nat.lt_irrefl _))
    rw[if_neg (fun h=>absurd h.1 (Nat.lt_irrefl _)),List.take_length,List.drop_length,List.append_nil]at this
    exact this
   rw[hd,na r (acc++[nm]) hs.2 (fun a ha q hq2 nm2 h=>by
    rcases List.mem_append.1 ha with ha|ha
    ·exact hA a ha q (List.mem_cons_of_mem _ hq2) nm2 h
    ·rw[List.mem_singleton.1 ha]
     have hp2:nm2.length=32∧q=aF nm2:=by
      rw[←j7]at h
      exact eA h
     refine Ar hp.1 hp2.1 ?_
     rw[←hp.2,←hp2.2]
     exact hs.1 q hq2)]
   simp
theorem uj{d:RD}(h:lN d.seen):vX d d.seen.length=bL d:=by
 unfold vX bL
 rw[List.take_length,na _ _ h (fun a ha=>(List.not_mem_nil ha).elim)]
 rfl
end Go.Proofs.YtmibdabdlgmafaaGreatDoor
end
section
set_option maxRecDepth 100000
namespace Go.Hx
def FB(b:List UInt8)(w:List UInt32):Bool:=(List.range 64).all fun i=>w.getD i 0 == (if i<16 then kj b (4*i)else ml w i)
theorem wh{b:List UInt8}{w:List UInt32}(hl:w.length=64)(h:FB b w=true):∀n,n≤64→wl b n=w.take n
 |0,_=>by simp[wl]
 |n+1,hn=>by
  have ih:=wh hl h n (by omega)
  have hc:w.getD n 0=(if n<16 then kj b (4*n)else ml w n):=by
   have:=List.all_eq_true.1 h n (List.mem_range.2 (by omega))
   exact eq_of_beq this
  have hg:∀j,j<n→(w.take n).getD j 0=w.getD j 0:=fun j hj=>by simp only[List.getD,List.getElem?_take,if_pos hj]
  have hw:w.take (n+1)=w.take n++[w.getD n 0]:=by
   rw[List.take_add_one,List.getElem?_eq_getElem (by omega)]
   simp[List.getD,List.getElem?_eq_getElem (show n<w.length by omega)]
  rw[wl,ih,hw,hc]
  congr 2
  split
  ·rfl
  ·unfold ml
   rw[hg _ (by omega),hg _ (by omega),hg _ (by omega),hg _ (by omega)]
def BR(w v:List UInt32):List (List UInt32)→List UInt32→List UInt32→Bool
 | [],_,_=>true
 |y::r,k,u=>y == Gt v (k.getD 0 0) (u.getD 0 0) && BR w y r k.tail u.tail
theorem su{w v:List UInt32}:∀(t:List (List UInt32)) (n:Nat) (s:List UInt32),kB w v n=s→BR w s t (fy.drop n) (w.drop n)=true→kB w v (n+t.length)=(s::t).getLastD []
 | [],n,s,hs,_=>by simpa using hs
 |y::r,n,s,hs,h=>by
  simp only[BR,Bool.and_eq_true]at h
  have e:kB w v (n+1)=y:=by
   rw[eq_of_beq h.1,kB,hs]
   simp only[List.getD,List.getElem?_drop,Nat.add_zero]
  have:=su r (n+1) y e (by rw[←List.tail_drop,←List.tail_drop];exact h.2)
  rw[List.length_cons,show n+(r.length+1)=n+1+r.length by omega,this]
  rfl
theorem k0{b m:List UInt8}{w:List UInt32}{t:List (List UInt32)}(hp:iJ b=m)(hm:m.length=64)(hw:w.length=64)(ht:t.length=64)(h1:FB m w=true)(h2:BR w lT t fy w=true):
  ba b=eF (fA ((lT::t).getLastD []) lT 8):=by
 have e1:fa lT m=eg lT m:=by
  unfold fa
  rw[hm]
  show nD 0 (eg lT (m.take 64)) (m.drop 64)=_
  rw[List.take_of_length_le (by omega)]
  rfl
 have e2:wl m 64=w:=by rw[wh hw h1 64 (Nat.le_refl _),List.take_of_length_le (by omega)]
 have e3:=su (w:=w) (v:=lT) t 0 lT rfl (by simpa using h2)
 rw[Nat.zero_add,ht]at e3
 unfold ba
 rw[hp,e1,eg,e2,e3]
def bd(k:Nat):List UInt8:=(List.range (3*k)).map fun i=>[UInt8.ofNat (65+k),1,UInt8.ofNat k].getD (i % 3) 0
theorem iU(k:Nat):(bd k).length=3*k:=by simp[bd]
def G0:List UInt32:=[2147483648,0,0,0,0,0,0,0,0,0,0,0,0,0,0,0,2147483648,0,2117632,0,570427392,0,84448578,2147483648,1476919296,4235264,1451269,1711282176,3592562048,337794312,3594910044,3374850048,3287351444,676112230,109604294,2742808854,1904000662,4274181962,2813755136,2165675682,2561075048,62000258,1562224585,2975250741,3286092305,614207615,3297584367,1575308336,3741240933,748767245,1008022316,30329261,369937616,195877528,907775968,3526495142,43741191,1967544444,133517113,4161330627,3704256008,1581412744,1153231965,996066459]
def Ha:List (List UInt32):=[[2080933965,1779033703,3144134277,1013904242,415752866,1359893119,2600822924,528734635],[2632279248,2080933965,1779033703,3144134277,536982102,415752866,1359893119,2600822924],[3299628326,2632279248,2080933965,1779033703,1876632314,536982102,415752866,1359893119],[1277422283,3299628326,2632279248,2080933965,808968629,1876632314,536982102,415752866],[1130821424,1277422283,3299628326,2632279248,3889194014,808968629,1876632314,536982102],[690895682,1130821424,1277422283,3299628326,1332035834,3889194014,808968629,1876632314],[4028650896,690895682,1130821424,1277422283,2196627567,1332035834,3889194014,808968629],[2060825014,4028650896,690895682,1130821424,1408847307,2196627567,1332035834,3889194014],[4113392549,2060825014,4028650896,690895682,2058339864,1408847307,2196627567,1332035834],[4025007953,4113392549,2060825014,4028650896,1392976521,2058339864,1408847307,2196627567],[361478433,4025007953,4113392549,2060825014,3795207118,1392976521,2058339864,1408847307],[4114828352,361478433,4025007953,4113392549,3621813394,3795207118,1392976521,2058339864],[553833165,4114828352,361478433,4025007953,3455974994,3621813394,3795207118,1392976521],[1170215847,553833165,4114828352,361478433,725774998,3455974994,3621813394,3795207118],[3096116699,1170215847,553833165,4114828352,483372089,725774998,3455974994,3621813394],[3019933109,3096116699,1170215847,553833165,1555621987,483372089,725774998,3455974994],[1192056138,3019933109,3096116699,1170215847,1892956839,1555621987,483372089,725774998],[3717831211,1192056138,3019933109,3096116699,1619825619,1892956839,1555621987,483372089],[812095850,3717831211,1192056138,3019933109,3550010602,1619825619,1892956839,1555621987],[172493064,812095850,3717831211,1192056138,2416781228,3550010602,1619825619,1892956839],[1976037592,172493064,812095850,3717831211,966081741,2416781228,3550010602,1619825619],[2577845017,1976037592,172493064,812095850,3263666206,966081741,2416781228,3550010602],[1078820948,2577845017,1976037592,172493064,2976200464,3263666206,966081741,2416781228],[2556161365,1078820948,2577845017,1976037592,741081741,2976200464,3263666206,966081741],[2062996621,2556161365,1078820948,2577845017,4116679717,741081741,2976200464,3263666206],[3317175470,2062996621,2556161365,1078820948,3850028020,4116679717,741081741,2976200464],[747317945,3317175470,2062996621,2556161365,2677228163,3850028020,4116679717,741081741],[1837942423,747317945,3317175470,2062996621,1726829818,2677228163,3850028020,4116679717],[1690082844,1837942423,747317945,3317175470,2506713973,1726829818,2677228163,3850028020],[1926471693,1690082844,1837942423,747317945,2957685293,2506713973,1726829818,2677228163],[2696613087,1926471693,1690082844,1837942423,1447716390,2957685293,2506713973,1726829818],[300352095,2696613087,1926471693,1690082844,3151463532,1447716390,2957685293,2506713973],[3817927606,300352095,2696613087,1926471693,3436338571,3151463532,1447716390,2957685293],[2705438357,3817927606,300352095,2696613087,197416927,3436338571,3151463532,1447716390],[1151435175,2705438357,3817927606,300352095,1769188034,197416927,3436338571,3151463532],[1679812728,1151435175,2705438357,3817927606,980442793,1769188034,197416927,3436338571],[2694206301,1679812728,1151435175,2705438357,4206914285,980442793,1769188034,197416927],[1457773646,2694206301,1679812728,1151435175,3892832895,4206914285,980442793,1769188034],[2656625711,1457773646,2694206301,1679812728,2242319396,3892832895,4206914285,980442793],[1234768305,2656625711,1457773646,2694206301,1902882853,2242319396,3892832895,4206914285],[4270245939,1234768305,2656625711,1457773646,2224585183,1902882853,2242319396,3892832895],[580450446,4270245939,1234768305,2656625711,4123364073,2224585183,1902882853,2242319396],[3686090155,580450446,4270245939,1234768305,3762306745,4123364073,2224585183,1902882853],[3907209042,3686090155,580450446,4270245939,692219050,3762306745,4123364073,2224585183],[2752082644,3907209042,3686090155,580450446,2855016464,692219050,3762306745,4123364073],[855262251,2752082644,3907209042,3686090155,3531982457,2855016464,692219050,3762306745],[1419259244,855262251,2752082644,3907209042,2322236082,3531982457,2855016464,692219050],[911881421,1419259244,855262251,2752082644,3417569515,2322236082,3531982457,2855016464],[1655188062,911881421,1419259244,855262251,1286303114,3417569515,2322236082,3531982457],[2543384045,1655188062,911881421,1419259244,3909789552,1286303114,3417569515,2322236082],[3244542753,2543384045,1655188062,911881421,906398686,3909789552,1286303114,3417569515],[3579709122,3244542753,2543384045,1655188062,2710884687,906398686,3909789552,1286303114],[2981272720,3579709122,3244542753,2543384045,1134943992,2710884687,906398686,3909789552],[974034039,2981272720,3579709122,3244542753,4254700398,1134943992,2710884687,906398686],[749689034,974034039,2981272720,3579709122,3850954136,4254700398,1134943992,2710884687],[23298068,749689034,974034039,2981272720,2918796810,3850954136,4254700398,1134943992],[2126991890,23298068,749689034,974034039,2035393328,2918796810,3850954136,4254700398],[3891021244,2126991890,23298068,749689034,3802734300,2035393328,2918796810,3850954136],[3911429062,3891021244,2126991890,23298068,148956906,3802734300,2035393328,2918796810],[71572494,3911429062,3891021244,2126991890,2867830852,148956906,3802734300,2035393328],[4095722474,71572494,3911429062,3891021244,477227836,2867830852,148956906,3802734300],[1586299222,4095722474,71572494,3911429062,2232532848,477227836,2867830852,148956906],[3717492111,1586299222,4095722474,71572494,3382061760,2232532848,477227836,2867830852],[2040978907,3717492111,1586299222,4095722474,3600805733,3382061760,2232532848,477227836]]
def GJ:List UInt8:=[227,176,196,66,152,252,28,20,154,251,244,200,153,111,185,36,39,174,65,228,100,155,147,76,164,149,153,27,120,82,184,85]
theorem Eo:ba (bd 0)=GJ:=(k0 (m:=[128,0,0,0,0,0,0,0,0,0,0,0,0,0,0,0,0,0,0,0,0,0,0,0,0,0,0,0,0,0,0,0,0,0,0,0,0,0,0,0,0,0,0,0,0,0,0,0,0,0,0,0,0,0,0,0,0,0,0,0,0,0,0,0]) (w:=G0) (t:=Ha) (by decide+kernel) rfl rfl rfl (by decide+kernel) (by decide+kernel)).trans (by decide+kernel)
def Hf:List UInt32:=[1107362176,0,0,0,0,0,0,0,0,0,0,0,0,0,0,24,1107362176,983040,2699077888,1610613702,1099463750,25426944,834374402,3280036238,3036426248,1034355432,4264064947,2729372909,915670732,3716110779,2000263722,1165897113,1039646088,281299352,3980104470,3761427724,3658363895,2305949932,3028413559,1303837579,2832082812,861919844,704850085,842796679,1808702238,1428493387,355076516,262993471,3617218607,4116430181,1277468746,1831645101,997864768,3820563998,3255109888,1037898284,4233045264,807309956,415727611,2688463381,2024334792,1869650284,61815304,1221856994]
def He:List (List UInt32):=[[1040812493,1779033703,3144134277,1013904242,3670598690,1359893119,2600822924,528734635],[2933991511,1040812493,1779033703,3144134277,2306459197,3670598690,1359893119,2600822924],[305863567,2933991511,1040812493,1779033703,1911864870,2306459197,3670598690,1359893119],[2689951969,305863567,2933991511,1040812493,3617446406,1911864870,2306459197,3670598690],[548066125,2689951969,305863567,2933991511,1099388481,3617446406,1911864870,2306459197],[4247765051,548066125,2689951969,305863567,315033534,1099388481,3617446406,1911864870],[396587438,4247765051,548066125,2689951969,1209652816,315033534,1099388481,3617446406],[3339597200,396587438,4247765051,548066125,2891510804,1209652816,315033534,1099388481],[2907775726,3339597200,396587438,4247765051,1362660984,2891510804,1209652816,315033534],[1595668996,2907775726,3339597200,396587438,3701338122,1362660984,2891510804,1209652816],[3097299680,1595668996,2907775726,3339597200,1494823656,3701338122,1362660984,2891510804],[2495058246,3097299680,1595668996,2907775726,2443417408,1494823656,3701338122,1362660984],[3937365664,2495058246,3097299680,1595668996,168074123,2443417408,1494823656,3701338122],[3094349113,3937365664,2495058246,3097299680,1823925988,168074123,2443417408,1494823656],[3837998543,3094349113,3937365664,2495058246,1558452064,1823925988,168074123,2443417408],[97767242,3837998543,3094349113,3937365664,1443849710,1558452064,1823925988,168074123],[157455394,97767242,3837998543,3094349113,2602895388,1443849710,1558452064,1823925988],[1168195621,157455394,97767242,3837998543,1328892379,2602895388,1443849710,1558452064],[3503166658,1168195621,157455394,97767242,3664420442,1328892379,2602895388,1443849710],[655817290,3503166658,1168195621,157455394,3230838127,3664420442,1328892379,2602895388],[2070899622,655817290,3503166658,1168195621,1053688013,3230838127,3664420442,1328892379],[2546074497,2070899622,655817290,3503166658,3956158565,1053688013,3230838127,3664420442],[3103291562,2546074497,2070899622,655817290,3767396667,3956158565,1053688013,3230838127],[3462026065,3103291562,2546074497,2070899622,2935844591,3767396667,3956158565,1053688013],[2864794835,3462026065,3103291562,2546074497,117490617,2935844591,3767396667,3956158565],[4287121506,2864794835,3462026065,3103291562,1666426747,117490617,2935844591,3767396667],[2520095682,4287121506,2864794835,3462026065,2190567029,1666426747,117490617,2935844591],[3566786262,2520095682,4287121506,2864794835,914031713,2190567029,1666426747,117490617],[3026728640,3566786262,2520095682,4287121506,667213488,914031713,2190567029,1666426747],[2176691638,3026728640,3566786262,2520095682,2974331702,667213488,914031713,2190567029],[276430399,2176691638,3026728640,3566786262,3599312549,2974331702,667213488,914031713],[2876947361,276430399,2176691638,3026728640,494654400,3599312549,2974331702,667213488],[3855850741,2876947361,276430399,2176691638,3146031214,494654400,3599312549,2974331702],[884922106,3855850741,2876947361,276430399,1146660805,3146031214,494654400,3599312549],[1402976943,884922106,3855850741,2876947361,4235796835,1146660805,3146031214,494654400],[754556834,1402976943,884922106,3855850741,3814518060,4235796835,1146660805,3146031214],[1550721331,754556834,1402976943,884922106,2100336359,3814518060,4235796835,1146660805],[3252933238,1550721331,754556834,1402976943,865945473,2100336359,3814518060,4235796835],[1473052570,3252933238,1550721331,754556834,2985952915,865945473,2100336359,3814518060],[1403004595,1473052570,3252933238,1550721331,3486181957,2985952915,865945473,2100336359],[3948605229,1403004595,1473052570,3252933238,2449457099,3486181957,2985952915,865945473],[2509938093,3948605229,1403004595,1473052570,2612013495,2449457099,3486181957,2985952915],[1524924783,2509938093,3948605229,1403004595,4237955955,2612013495,2449457099,3486181957],[2072908380,1524924783,2509938093,3948605229,2743951822,4237955955,2612013495,2449457099],[1574677093,2072908380,1524924783,2509938093,962518812,2743951822,4237955955,2612013495],[2949412848,1574677093,2072908380,1524924783,2124612093,962518812,2743951822,4237955955],[2150510118,2949412848,1574677093,2072908380,3046824961,2124612093,962518812,2743951822],[1129255911,2150510118,2949412848,1574677093,3347572455,3046824961,2124612093,962518812],[1598741872,1129255911,2150510118,2949412848,3325168739,3347572455,3046824961,2124612093],[3197823805,1598741872,1129255911,2150510118,1408481104,3325168739,3347572455,3046824961],[4279166295,3197823805,1598741872,1129255911,3255467814,1408481104,3325168739,3347572455],[410751663,4279166295,3197823805,1598741872,1842780739,3255467814,1408481104,3325168739],[3066744009,410751663,4279166295,3197823805,2597202916,1842780739,3255467814,1408481104],[944794031,3066744009,410751663,4279166295,399797342,2597202916,1842780739,3255467814],[1866775977,944794031,3066744009,410751663,1932359240,399797342,2597202916,1842780739],[282090807,1866775977,944794031,3066744009,1184764235,1932359240,399797342,2597202916],[1337731485,282090807,1866775977,944794031,1631464235,1184764235,1932359240,399797342],[2855027434,1337731485,282090807,1866775977,2735041572,1631464235,1184764235,1932359240],[580666429,2855027434,1337731485,282090807,2051984567,2735041572,1631464235,1184764235],[1179881486,580666429,2855027434,1337731485,336116513,2051984567,2735041572,1631464235],[2208710711,1179881486,580666429,2855027434,1369389600,336116513,2051984567,2735041572],[1993106377,2208710711,1179881486,580666429,2785874755,1369389600,336116513,2051984567],[1722319979,1993106377,2208710711,1179881486,3490118991,2785874755,1369389600,336116513],[4198305097,1722319979,1993106377,2208710711,2164499240,3490118991,2785874755,1369389600]]
def GV:List UInt8:=[100,70,243,176,34,16,50,240,179,59,87,59,40,246,53,113,210,17,245,167,107,12,101,219,197,144,236,238,173,128,7,57]
theorem D4:ba (bd 1)=GV:=(k0 (m:=[66,1,1,128,0,0,0,0,0,0,0,0,0,0,0,0,0,0,0,0,0,0,0,0,0,0,0,0,0,0,0,0,0,0,0,0,0,0,0,0,0,0,0,0,0,0,0,0,0,0,0,0,0,0,0,0,0,0,0,0,0,0,0,24]) (w:=Hf) (t:=He) (by decide+kernel) rfl rfl rfl (by decide+kernel) (by decide+kernel)).trans (by decide+kernel)
def G1:List UInt32:=[1124139587,16941056,0,0,0,0,0,0,0,0,0,0,0,0,0,48,3810744195,18907136,3238610208,1342195860,2315533044,759996946,2584106364,2825082794,3780632534,2182307592,1680491018,1313476752,2527729170,3830452708,1381894837,3130175299,1232444601,1889327910,3182576678,3565149627,3800348971,339090578,3050780477,97854861,2781692531,4278943766,4017797749,2474762115,2255184555,1350487740,1900803956,999275052,1107640373,1446613587,4085947598,3158374171,4065327008,2330063767,1246901643,3001339339,713557620,1253248229,309444691,221893369,2859793821,2299060968,3071715676,99404356]
def G6:List (List UInt32):=[[1057589904,1779033703,3144134277,1013904242,3687376101,1359893119,2600822924,528734635],[2330236836,1057589904,1779033703,3144134277,249561725,3687376101,1359893119,2600822924],[2952625882,2330236836,1057589904,1779033703,865584597,249561725,3687376101,1359893119],[2211839873,2952625882,2330236836,1057589904,2501966966,865584597,249561725,3687376101],[1289089281,2211839873,2952625882,2330236836,887231697,2501966966,865584597,249561725],[1289192874,1289089281,2211839873,2952625882,3135962609,887231697,2501966966,865584597],[916623403,1289192874,1289089281,2211839873,3109612191,3135962609,887231697,2501966966],[2451091062,916623403,1289192874,1289089281,40197896,3109612191,3135962609,887231697],[2239294834,2451091062,916623403,1289192874,103872825,40197896,3109612191,3135962609],[601085176,2239294834,2451091062,916623403,2968703906,103872825,40197896,3109612191],[3413854578,601085176,2239294834,2451091062,2657018364,2968703906,103872825,40197896],[1650988189,3413854578,601085176,2239294834,1553445622,2657018364,2968703906,103872825],[3244664986,1650988189,3413854578,601085176,2269109542,1553445622,2657018364,2968703906],[350344466,3244664986,1650988189,3413854578,320837474,2269109542,1553445622,2657018364],[1627290034,350344466,3244664986,1650988189,1092326513,320837474,2269109542,1553445622],[1502232881,1627290034,350344466,3244664986,3468823584,1092326513,320837474,2269109542],[3457802380,1502232881,1627290034,350344466,3349716604,3468823584,1092326513,320837474],[1280799126,3457802380,1502232881,1627290034,3359418660,3349716604,3468823584,1092326513],[289125459,1280799126,3457802380,1502232881,3820807298,3359418660,3349716604,3468823584],[550473630,289125459,1280799126,3457802380,2788603820,3820807298,3359418660,3349716604],[2441531240,550473630,289125459,1280799126,2487508294,2788603820,3820807298,3359418660],[235924764,2441531240,550473630,289125459,79638958,2487508294,2788603820,3820807298],[2821390622,235924764,2441531240,550473630,1677650773,79638958,2487508294,2788603820],[2981348562,2821390622,235924764,2441531240,997690261,1677650773,79638958,2487508294],[3246309241,2981348562,2821390622,235924764,1693422423,997690261,1677650773,79638958],[2782565069,3246309241,2981348562,2821390622,2705504097,1693422423,997690261,1677650773],[3050952480,2782565069,3246309241,2981348562,649692277,2705504097,1693422423,997690261],[1231532091,3050952480,2782565069,3246309241,1645315027,649692277,2705504097,1693422423],[403846042,1231532091,3050952480,2782565069,1718752980,1645315027,649692277,2705504097],[3680510200,403846042,1231532091,3050952480,365747316,1718752980,1645315027,649692277],[2850954302,3680510200,403846042,1231532091,1422430802,365747316,1718752980,1645315027],[1551427412,2850954302,3680510200,403846042,411055101,1422430802,365747316,1718752980],[1624128134,1551427412,2850954302,3680510200,3512122945,411055101,1422430802,365747316],[184953684,1624128134,1551427412,2850954302,143490275,3512122945,411055101,1422430802],[1338214341,184953684,1624128134,1551427412,1888941543,143490275,3512122945,411055101],[3688828661,1338214341,184953684,1624128134,2295087027,1888941543,143490275,3512122945],[1088629599,3688828661,1338214341,184953684,3632761830,2295087027,1888941543,143490275],[846324263,1088629599,3688828661,1338214341,3947187417,3632761830,2295087027,1888941543],[1008002537,846324263,1088629599,3688828661,515361640,3947187417,3632761830,2295087027],[3858954506,1008002537,846324263,1088629599,1570023267,515361640,3947187417,3632761830],[998071185,3858954506,1008002537,846324263,3424387064,1570023267,515361640,3947187417],[2823007980,998071185,3858954506,1008002537,895995303,3424387064,1570023267,515361640],[3069835281,2823007980,998071185,3858954506,4110206827,895995303,3424387064,1570023267],[923220316,3069835281,2823007980,998071185,398239941,4110206827,895995303,3424387064],[3184211690,923220316,3069835281,2823007980,1732236141,398239941,4110206827,895995303],[689804862,3184211690,923220316,3069835281,3835265982,1732236141,398239941,4110206827],[488756834,689804862,3184211690,923220316,1226687022,3835265982,1732236141,398239941],[738821552,488756834,689804862,3184211690,1929778112,1226687022,3835265982,1732236141],[2968668012,738821552,488756834,689804862,1092494996,1929778112,1226687022,3835265982],[3373777451,2968668012,738821552,488756834,3620662399,1092494996,1929778112,1226687022],[3237603739,3373777451,2968668012,738821552,2046091717,3620662399,1092494996,1929778112],[2839057249,3237603739,3373777451,2968668012,3104326460,2046091717,3620662399,1092494996],[3656148329,2839057249,3237603739,3373777451,2929065458,3104326460,2046091717,3620662399],[2677316219,3656148329,2839057249,3237603739,2987592159,2929065458,3104326460,2046091717],[398776029,2677316219,3656148329,2839057249,3635542219,2987592159,2929065458,3104326460],[2032015724,398776029,2677316219,3656148329,2723075718,3635542219,2987592159,2929065458],[2546740428,2032015724,398776029,2677316219,2766272617,2723075718,3635542219,2987592159],[3557301658,2546740428,2032015724,398776029,3903591484,2766272617,2723075718,3635542219],[2209589700,3557301658,2546740428,2032015724,1288279647,3903591484,2766272617,2723075718],[788646974,2209589700,3557301658,2546740428,1881657852,1288279647,3903591484,2766272617],[4199117116,788646974,2209589700,3557301658,504503469,1881657852,1288279647,3903591484],[3445242612,4199117116,788646974,2209589700,1672409445,504503469,1881657852,1288279647],[3197903022,3445242612,4199117116,788646974,3337296605,1672409445,504503469,1881657852],[3373711470,3197903022,3445242612,4199117116,527439296,3337296605,1672409445,504503469]]
def GL:List UInt8:=[51,32,166,213,122,3,207,51,9,201,46,102,159,153,102,118,112,126,104,63,97,240,131,105,131,50,203,16,121,242,233,198]
theorem Dl:ba (bd 2)=GL:=(k0 (m:=[67,1,2,67,1,2,128,0,0,0,0,0,0,0,0,0,0,0,0,0,0,0,0,0,0,0,0,0,0,0,0,0,0,0,0,0,0,0,0,0,0,0,0,0,0,0,0,0,0,0,0,0,0,0,0,0,0,0,0,0,0,0,0,48]) (w:=G1) (t:=G6) (by decide+kernel) rfl rfl rfl (by decide+kernel) (by decide+kernel)).trans (by decide+kernel)
def G7:List UInt32:=[1140917060,16991233,58720256,0,0,0,0,0,0,0,0,0,0,0,0,72,388182412,27739361,41042361,1257031990,1760247271,4256126745,4183122927,1483988035,526097337,2553421177,161039318,3055628671,2269313736,3088255367,178413635,3689017700,1049657886,3020784591,1633468929,1352163298,333438537,3297703059,1691286498,3542784866,3714428513,374239595,1660205554,4294149558,4056242316,4001770671,2479578727,2825521600,47514449,2606633742,1549601676,1978401328,2839736375,1346797053,2894866791,2061679664,1396136360,1125379689,3024278158,2249711822,1047373075,2990048713,2332048730,815665083]
def G2:List (List UInt32):=[[1074367377,1779033703,3144134277,1013904242,3704153574,1359893119,2600822924,528734635],[3176516285,1074367377,1779033703,3144134277,1695868930,3704153574,1359893119,2600822924],[26902674,3176516285,1074367377,1779033703,3882218862,1695868930,3704153574,1359893119],[1293634117,26902674,3176516285,1074367377,3340157221,3882218862,1695868930,3704153574],[2940876474,1293634117,26902674,3176516285,1978812471,3340157221,3882218862,1695868930],[3962731527,2940876474,1293634117,26902674,1704011504,1978812471,3340157221,3882218862],[4163118845,3962731527,2940876474,1293634117,970999910,1704011504,1978812471,3340157221],[23667932,4163118845,3962731527,2940876474,2296707300,970999910,1704011504,1978812471],[587437523,23667932,4163118845,3962731527,1745122613,2296707300,970999910,1704011504],[2355125510,587437523,23667932,4163118845,4016243276,1745122613,2296707300,970999910],[1576112430,2355125510,587437523,23667932,2321298403,4016243276,1745122613,2296707300],[2317307709,1576112430,2355125510,587437523,2782702691,2321298403,4016243276,1745122613],[2227224665,2317307709,1576112430,2355125510,3036382177,2782702691,2321298403,4016243276],[2484213650,2227224665,2317307709,1576112430,849560408,3036382177,2782702691,2321298403],[210113958,2484213650,2227224665,2317307709,2492919959,849560408,3036382177,2782702691],[1527116642,210113958,2484213650,2227224665,710652834,2492919959,849560408,3036382177],[3368503794,1527116642,210113958,2484213650,392414478,710652834,2492919959,849560408],[4167440128,3368503794,1527116642,210113958,1668316491,392414478,710652834,2492919959],[3852417662,4167440128,3368503794,1527116642,4221286321,1668316491,392414478,710652834],[4228943466,3852417662,4167440128,3368503794,1473662058,4221286321,1668316491,392414478],[2073985712,4228943466,3852417662,4167440128,3118810442,1473662058,4221286321,1668316491],[3750929690,2073985712,4228943466,3852417662,1760261098,3118810442,1473662058,4221286321],[136781122,3750929690,2073985712,4228943466,411931353,1760261098,3118810442,1473662058],[2595776544,136781122,3750929690,2073985712,1187373872,411931353,1760261098,3118810442],[2160957157,2595776544,136781122,3750929690,3685719794,1187373872,411931353,1760261098],[415342372,2160957157,2595776544,136781122,2388800008,3685719794,1187373872,411931353],[2167988794,415342372,2160957157,2595776544,4146737074,2388800008,3685719794,1187373872],[3327806631,2167988794,415342372,2160957157,2385920854,4146737074,2388800008,3685719794],[1508940369,3327806631,2167988794,415342372,1556816942,2385920854,4146737074,2388800008],[746713584,1508940369,3327806631,2167988794,1026234986,1556816942,2385920854,4146737074],[3878429258,746713584,1508940369,3327806631,2553107154,1026234986,1556816942,2385920854],[1786591995,3878429258,746713584,1508940369,2820782819,2553107154,1026234986,1556816942],[2317605531,1786591995,3878429258,746713584,2083999988,2820782819,2553107154,1026234986],[1069545557,2317605531,1786591995,3878429258,3369461210,2083999988,2820782819,2553107154],[106680318,1069545557,2317605531,1786591995,1352704089,3369461210,2083999988,2820782819],[2522343208,106680318,1069545557,2317605531,1631587852,1352704089,3369461210,2083999988],[1735625500,2522343208,106680318,1069545557,2548665615,1631587852,1352704089,3369461210],[1172465236,1735625500,2522343208,106680318,4030391975,2548665615,1631587852,1352704089],[278953827,1172465236,1735625500,2522343208,625246388,4030391975,2548665615,1631587852],[3800549903,278953827,1172465236,1735625500,1949313866,625246388,4030391975,2548665615],[222237638,3800549903,278953827,1172465236,2082035556,1949313866,625246388,4030391975],[2007279354,222237638,3800549903,278953827,3685678282,2082035556,1949313866,625246388],[3425814698,2007279354,222237638,3800549903,1015629818,3685678282,2082035556,1949313866],[1710021656,3425814698,2007279354,222237638,3385223849,1015629818,3685678282,2082035556],[464726823,1710021656,3425814698,2007279354,2021980220,3385223849,1015629818,3685678282],[1117196338,464726823,1710021656,3425814698,420570052,2021980220,3385223849,1015629818],[246283186,1117196338,464726823,1710021656,1236374124,420570052,2021980220,3385223849],[3567535223,246283186,1117196338,464726823,1174675876,1236374124,420570052,2021980220],[599506119,3567535223,246283186,1117196338,2973969487,1174675876,1236374124,420570052],[4174349155,599506119,3567535223,246283186,1955833916,2973969487,1174675876,1236374124],[2327326573,4174349155,599506119,3567535223,3449093489,1955833916,2973969487,1174675876],[2904652266,2327326573,4174349155,599506119,3716818634,3449093489,1955833916,2973969487],[1125555086,2904652266,2327326573,4174349155,3694038821,3716818634,3449093489,1955833916],[4158895903,1125555086,2904652266,2327326573,1319728953,3694038821,3716818634,3449093489],[3163540978,4158895903,1125555086,2904652266,2487817420,1319728953,3694038821,3716818634],[2468231903,3163540978,4158895903,1125555086,1228289851,2487817420,1319728953,3694038821],[1043680106,2468231903,3163540978,4158895903,2129379087,1228289851,2487817420,1319728953],[1013009554,1043680106,2468231903,3163540978,1949609007,2129379087,1228289851,2487817420],[433104357,1013009554,1043680106,2468231903,695152670,1949609007,2129379087,1228289851],[133114063,433104357,1013009554,1043680106,852533809,695152670,1949609007,2129379087],[4131030619,133114063,433104357,1013009554,3681409961,852533809,695152670,1949609007],[2667475899,4131030619,133114063,433104357,2652675044,3681409961,852533809,695152670],[696760596,2667475899,4131030619,133114063,682407608,2652675044,3681409961,852533809],[34514896,696760596,2667475899,4131030619,1863985830,682407608,2652675044,3681409961]]
def GS:List UInt8:=[108,24,142,55,228,239,103,153,219,109,103,45,155,138,123,149,192,40,125,37,195,178,31,68,189,160,117,143,55,78,168,194]
theorem En:ba (bd 3)=GS:=(k0 (m:=[68,1,3,68,1,3,68,1,3,128,0,0,0,0,0,0,0,0,0,0,0,0,0,0,0,0,0,0,0,0,0,0,0,0,0,0,0,0,0,0,0,0,0,0,0,0,0,0,0,0,0,0,0,0,0,0,0,0,0,0,0,0,0,72]) (w:=G7) (t:=G2) (by decide+kernel) rfl rfl rfl (by decide+kernel) (by decide+kernel)).trans (by decide+kernel)
def GX:List UInt32:=[1157694533,17057025,71631108,2147483648,0,0,0,0,0,0,0,0,0,0,0,96,1482933424,1241608244,2954715344,370027548,475941205,3548908109,3985062550,1556051559,3290708721,101042917,2955280308,2022566917,327733686,958622402,2411765748,921434055,4167693370,1855320601,2671403633,2899406949,1444433080,4163654709,1829314888,3950801097,2680592831,1544625443,2074687057,3590621697,597181596,1505529371,458483992,3313405381,565098904,3924790625,2215728022,1892783026,2506497494,3831278732,2458352844,2613239268,3859052678,4120955187,3687966388,369149225,4122030787,798167293,2792361242,805199733]
def G8:List (List UInt32):=[[1091144850,1779033703,3144134277,1013904242,3720931047,1359893119,2600822924,528734635],[3401082888,1091144850,1779033703,3144134277,3376122503,3720931047,1359893119,2600822924],[3716357130,3401082888,1091144850,1779033703,3147329954,3376122503,3720931047,1359893119],[527271158,3716357130,3401082888,1091144850,1688755943,3147329954,3376122503,3720931047],[3425570780,527271158,3716357130,3401082888,387337784,1688755943,3147329954,3376122503],[1328571049,3425570780,527271158,3716357130,1189555228,387337784,1688755943,3147329954],[3408161992,1328571049,3425570780,527271158,3530472897,1189555228,387337784,1688755943],[1942557634,3408161992,1328571049,3425570780,4275423411,3530472897,1189555228,387337784],[3870601216,1942557634,3408161992,1328571049,1091799453,4275423411,3530472897,1189555228],[1247752676,3870601216,1942557634,3408161992,1249986958,1091799453,4275423411,3530472897],[2005704911,1247752676,3870601216,1942557634,4267822126,1249986958,1091799453,4275423411],[4251862743,2005704911,1247752676,3870601216,561971277,4267822126,1249986958,1091799453],[2443340809,4251862743,2005704911,1247752676,2282346000,561971277,4267822126,1249986958],[1239795462,2443340809,4251862743,2005704911,285369284,2282346000,561971277,4267822126],[3153088120,1239795462,2443340809,4251862743,473923960,285369284,2282346000,561971277],[2041678935,3153088120,1239795462,2443340809,1094669875,473923960,285369284,2282346000],[1592306524,2041678935,3153088120,1239795462,4222768528,1094669875,473923960,285369284],[616800924,1592306524,2041678935,3153088120,46345821,4222768528,1094669875,473923960],[2388047650,616800924,1592306524,2041678935,3121192213,46345821,4222768528,1094669875],[4273952426,2388047650,616800924,1592306524,693168801,3121192213,46345821,4222768528],[2414662440,4273952426,2388047650,616800924,1213938736,693168801,3121192213,46345821],[3736708841,2414662440,4273952426,2388047650,1787463880,1213938736,693168801,3121192213],[1354243236,3736708841,2414662440,4273952426,1507181073,1787463880,1213938736,693168801],[595113329,1354243236,3736708841,2414662440,838951368,1507181073,1787463880,1213938736],[1795414298,595113329,1354243236,3736708841,2796881229,838951368,1507181073,1787463880],[442558204,1795414298,595113329,1354243236,946481345,2796881229,838951368,1507181073],[3828809881,442558204,1795414298,595113329,1454050548,946481345,2796881229,838951368],[1080107388,3828809881,442558204,1795414298,1475711047,1454050548,946481345,2796881229],[3475436133,1080107388,3828809881,442558204,1514795052,1475711047,1454050548,946481345],[1837673856,3475436133,1080107388,3828809881,1217667437,1514795052,1475711047,1454050548],[3257638147,1837673856,3475436133,1080107388,57324965,1217667437,1514795052,1475711047],[386850232,3257638147,1837673856,3475436133,3513010463,57324965,1217667437,1514795052],[2373373785,386850232,3257638147,1837673856,1109210362,3513010463,57324965,1217667437],[3915488159,2373373785,386850232,3257638147,219065777,1109210362,3513010463,57324965],[3820052636,3915488159,2373373785,386850232,2007813048,219065777,1109210362,3513010463],[4198244564,3820052636,3915488159,2373373785,776993997,2007813048,219065777,1109210362],[1661729329,4198244564,3820052636,3915488159,1017519794,776993997,2007813048,219065777],[3259548611,1661729329,4198244564,3820052636,567270255,1017519794,776993997,2007813048],[2065282662,3259548611,1661729329,4198244564,2940143218,567270255,1017519794,776993997],[661518022,2065282662,3259548611,1661729329,1936980095,2940143218,567270255,1017519794],[3662059444,661518022,2065282662,3259548611,1373060316,1936980095,2940143218,567270255],[864091437,3662059444,661518022,2065282662,3910296922,1373060316,1936980095,2940143218],[1681218179,864091437,3662059444,661518022,93127107,3910296922,1373060316,1936980095],[2679033829,1681218179,864091437,3662059444,2090560620,93127107,3910296922,1373060316],[435481691,2679033829,1681218179,864091437,412994425,2090560620,93127107,3910296922],[2440004148,435481691,2679033829,1681218179,807868360,412994425,2090560620,93127107],[1640009882,2440004148,435481691,2679033829,2685362932,807868360,412994425,2090560620],[1200042080,1640009882,2440004148,435481691,3060808838,2685362932,807868360,412994425],[1978906896,1200042080,1640009882,2440004148,3221136380,3060808838,2685362932,807868360],[3789036759,1978906896,1200042080,1640009882,4066963181,3221136380,3060808838,2685362932],[1148192741,3789036759,1978906896,1200042080,3248687549,4066963181,3221136380,3060808838],[2143515582,1148192741,3789036759,1978906896,3006320353,3248687549,4066963181,3221136380],[2284109871,2143515582,1148192741,3789036759,2289731133,3006320353,3248687549,4066963181],[2969166764,2284109871,2143515582,1148192741,3590057415,2289731133,3006320353,3248687549],[1012186034,2969166764,2284109871,2143515582,4044198402,3590057415,2289731133,3006320353],[382705631,1012186034,2969166764,2284109871,3719572279,4044198402,3590057415,2289731133],[1376333768,382705631,1012186034,2969166764,2686191209,3719572279,4044198402,3590057415],[3755781794,1376333768,382705631,1012186034,738776961,2686191209,3719572279,4044198402],[999002063,3755781794,1376333768,382705631,1891057029,738776961,2686191209,3719572279],[430163461,999002063,3755781794,1376333768,910537433,1891057029,738776961,2686191209],[2426673421,430163461,999002063,3755781794,3452539221,910537433,1891057029,738776961],[594512889,2426673421,430163461,999002063,2911303277,3452539221,910537433,1891057029],[3913270616,594512889,2426673421,430163461,1776725259,2911303277,3452539221,910537433],[3937322967,3913270616,594512889,2426673421,1938106743,1776725259,2911303277,3452539221]]
def GU:List UInt8:=[84,184,174,62,164,167,115,221,95,222,127,107,53,244,14,71,196,147,123,246,4,236,21,151,205,10,208,24,41,170,94,110]
theorem DB:ba (bd 4)=GU:=(k0 (m:=[69,1,4,69,1,4,69,1,4,69,1,4,128,0,0,0,0,0,0,0,0,0,0,0,0,0,0,0,0,0,0,0,0,0,0,0,0,0,0,0,0,0,0,0,0,0,0,0,0,0,0,0,0,0,0,0,0,0,0,0,0,0,0,96]) (w:=GX) (t:=G8) (by decide+kernel) rfl rfl rfl (by decide+kernel) (by decide+kernel)).trans (by decide+kernel)
def Hg:List UInt32:=[1174472006,17122817,88473861,1174472064,0,0,0,0,0,0,0,0,0,0,0,120,2577655635,2350601076,3721923420,167302874,83002197,1907637238,297868991,876446517,950496787,1338589013,1690216822,3175514023,4081126744,29988691,3415685839,2143215247,2411765741,1178288788,2011265610,3498442124,2237012830,3124998028,1820871492,1626925787,2556965076,2044513611,450304145,780656460,3771677329,3404485060,1298046685,2821474260,2536625460,3503199596,4082429708,1962723328,545094747,2623036696,2798367542,3543923744,3282434516,3592258802,1041428831,3008631655,678229056,305282415,3000868737,3547768376]
def Hc:List (List UInt32):=[[1107922323,1779033703,3144134277,1013904242,3737708520,1359893119,2600822924,528734635],[555264572,1107922323,1779033703,3144134277,1498394887,3737708520,1359893119,2600822924],[3854917243,555264572,1107922323,1779033703,68389883,1498394887,3737708520,1359893119],[1999072993,3854917243,555264572,1107922323,1615868138,68389883,1498394887,3737708520],[3935551999,1999072993,3854917243,555264572,270399930,1615868138,68389883,1498394887],[724912506,3935551999,1999072993,3854917243,2859092336,270399930,1615868138,68389883],[796201445,724912506,3935551999,1999072993,2512995085,2859092336,270399930,1615868138],[2062979530,796201445,724912506,3935551999,3056931648,2512995085,2859092336,270399930],[3939962445,2062979530,796201445,724912506,3746325557,3056931648,2512995085,2859092336],[188882617,3939962445,2062979530,796201445,1989981158,3746325557,3056931648,2512995085],[1705874349,188882617,3939962445,2062979530,1793740086,1989981158,3746325557,3056931648],[3945020464,1705874349,188882617,3939962445,2282009404,1793740086,1989981158,3746325557],[527303671,3945020464,1705874349,188882617,1398955530,2282009404,1793740086,1989981158],[1220875487,527303671,3945020464,1705874349,2221832179,1398955530,2282009404,1793740086],[3263204081,1220875487,527303671,3945020464,2083621739,2221832179,1398955530,2282009404],[2569529046,3263204081,1220875487,527303671,344075869,2083621739,2221832179,1398955530],[1021424452,2569529046,3263204081,1220875487,2221131126,344075869,2083621739,2221832179],[1844713340,1021424452,2569529046,3263204081,172158552,2221131126,344075869,2083621739],[3080109023,1844713340,1021424452,2569529046,3412980660,172158552,2221131126,344075869],[201567586,3080109023,1844713340,1021424452,4248794176,3412980660,172158552,2221131126],[2872749190,201567586,3080109023,1844713340,3554712791,4248794176,3412980660,172158552],[2834387455,2872749190,201567586,3080109023,1133040477,3554712791,4248794176,3412980660],[1562511574,2834387455,2872749190,201567586,3422431609,1133040477,3554712791,4248794176],[906792154,1562511574,2834387455,2872749190,1057292053,3422431609,1133040477,3554712791],[972620793,906792154,1562511574,2834387455,3484527639,1057292053,3422431609,1133040477],[1120155305,972620793,906792154,1562511574,4174713853,3484527639,1057292053,3422431609],[3138739286,1120155305,972620793,906792154,4031356851,4174713853,3484527639,1057292053],[769529145,3138739286,1120155305,972620793,252949959,4031356851,4174713853,3484527639],[1851641733,769529145,3138739286,1120155305,3784880188,252949959,4031356851,4174713853],[2579086735,1851641733,769529145,3138739286,1553891949,3784880188,252949959,4031356851],[3634367821,2579086735,1851641733,769529145,2029203278,1553891949,3784880188,252949959],[2608809179,3634367821,2579086735,1851641733,1412422486,2029203278,1553891949,3784880188],[3976489545,2608809179,3634367821,2579086735,2224605022,1412422486,2029203278,1553891949],[1020121636,3976489545,2608809179,3634367821,3300650597,2224605022,1412422486,2029203278],[1067613549,1020121636,3976489545,2608809179,2979743325,3300650597,2224605022,1412422486],[3629543176,1067613549,1020121636,3976489545,148660928,2979743325,3300650597,2224605022],[3195938740,3629543176,1067613549,1020121636,1456249025,148660928,2979743325,3300650597],[3147928308,3195938740,3629543176,1067613549,1330924807,1456249025,148660928,2979743325],[4162932925,3147928308,3195938740,3629543176,1044855575,1330924807,1456249025,148660928],[2707282164,4162932925,3147928308,3195938740,1089327747,1044855575,1330924807,1456249025],[511720407,2707282164,4162932925,3147928308,2336941121,1089327747,1044855575,1330924807],[2734734655,511720407,2707282164,4162932925,2359906480,2336941121,1089327747,1044855575],[185371910,2734734655,511720407,2707282164,1550014982,2359906480,2336941121,1089327747],[300620288,185371910,2734734655,511720407,3481326292,1550014982,2359906480,2336941121],[3468679402,300620288,185371910,2734734655,1915039260,3481326292,1550014982,2359906480],[3029113298,3468679402,300620288,185371910,3225654801,1915039260,3481326292,1550014982],[2026169738,3029113298,3468679402,300620288,2639270156,3225654801,1915039260,3481326292],[3303871904,2026169738,3029113298,3468679402,945192752,2639270156,3225654801,1915039260],[643798827,3303871904,2026169738,3029113298,3622238592,945192752,2639270156,3225654801],[4214868284,643798827,3303871904,2026169738,1013338549,3622238592,945192752,2639270156],[342733707,4214868284,643798827,3303871904,380087168,1013338549,3622238592,945192752],[16996030,342733707,4214868284,643798827,2682582357,380087168,1013338549,3622238592],[3237077793,16996030,342733707,4214868284,2638053597,2682582357,380087168,1013338549],[1768304600,3237077793,16996030,342733707,3045002533,2638053597,2682582357,380087168],[2218582915,1768304600,3237077793,16996030,1528925684,3045002533,2638053597,2682582357],[1052737880,2218582915,1768304600,3237077793,1890639230,1528925684,3045002533,2638053597],[3773763218,1052737880,2218582915,1768304600,2050414731,1890639230,1528925684,3045002533],[2998255097,3773763218,1052737880,2218582915,113629920,2050414731,1890639230,1528925684],[1467956937,2998255097,3773763218,1052737880,3546642523,113629920,2050414731,1890639230],[69021763,1467956937,2998255097,3773763218,4033814956,3546642523,113629920,2050414731],[171166681,69021763,1467956937,2998255097,2634497209,4033814956,3546642523,113629920],[1546963208,171166681,69021763,1467956937,893355256,2634497209,4033814956,3546642523],[2469774181,1546963208,171166681,69021763,1376994897,893355256,2634497209,4033814956],[1901195306,2469774181,1546963208,171166681,2991379945,1376994897,893355256,2634497209]]
def GO:List UInt8:=[219,91,214,145,78,157,113,234,152,163,188,122,175,131,193,19,3,91,40,104,237,24,174,221,84,195,94,163,248,232,9,210]
theorem El:ba (bd 5)=GO:=(k0 (m:=[70,1,5,70,1,5,70,1,5,70,1,5,70,1,5,128,0,0,0,0,0,0,0,0,0,0,0,0,0,0,0,0,0,0,0,0,0,0,0,0,0,0,0,0,0,0,0,0,0,0,0,0,0,0,0,0,0,0,0,0,0,0,0,120]) (w:=Hg) (t:=Hc) (by decide+kernel) rfl rfl rfl (by decide+kernel) (by decide+kernel)).trans (by decide+kernel)
def F6:List (List UInt8):=[GJ,GV,GL,GS,GU,GO]
theorem qx{k:Nat}(h:k<6):ba (bd k)=F6.getD k []:=by
 match k,h with
 |0,_=>exact Eo
 |1,_=>exact D4
 |2,_=>exact Dl
 |3,_=>exact En
 |4,_=>exact DB
 |5,_=>exact El
theorem AU:∀i<6,∀j<6,F6.getD i []=F6.getD j []→i=j:=by decide+kernel
theorem w9{i j:Nat}(hi:i<6)(hj:j<6)(h:ba (bd i)=ba (bd j)):i=j:=AU i hi j hj (by rw[←qx hi,←qx hj,h])
end Go.Hx
end
section
set_option maxRecDepth 20000
set_option maxHeartbeats 4000000
namespace Go.Proofs.YtmibdabdlgmafaaGreatDoor
open Go.Eng Go.Hx
theorem uA{k:Nat}(hk:k<6):fill [UInt8.ofNat (65+k),1,UInt8.ofNat k] (3*k)=bd k:=by
 match k,hk with
 |0,_=>decide
 |1,_=>decide
 |2,_=>decide
 |3,_=>decide
 |4,_=>decide
 |5,_=>decide
theorem lF{z:Int}{k:Nat}(h0:-9223372036854775808≤z∧z≤9223372036854775807)(hz:dU z 6=(k:Int))(hk:k<6):cf Tryz.prog 27 [.int .i64 z] [] [] (fun v_ X_ S_=>∃v,v_=v∧X_=[aG 5 1 v (3*k) (aQ (bd k))]∧S_=[]):=by
 refine aP (N:=15) Tryz.func27 rfl rfl (by simp) fun b=> ?_
 refine ah<|aj<|hy (fun _=>ab rfl)<|ai<|ag<|ah<|aj<|hy (fun _=>aa rfl)<| ?_
 refine hx (aq rfl Tryz.call16 (wG (by omega) (by omega) (by omega)) [] rfl [] rfl ?_)
 rintro _ _ _ ⟨rfl,rfl,rfl⟩
 rw[hz]
 refine hy (fun _=>ab rfl)<|ai<|al (ρ' :=[(3,_),(2,_),(0,_)]) ⟨rfl,rfl,rfl,trivial⟩<|ak (X' :=[]) (S' :=[]) (fun _ m=>m)<|ag<|ah<|aj<|hy (fun _=>aa rfl)<|hy (fun _=>yV (aM rfl rfl (bD (by omega) (by omega))) ((show Value.int .i64 ((65:Int)+(k:Int))= .int .i64 ((65+k:Nat):Int) by congr 1)))<|hy (fun _=>yV (bT rfl Tryz.underlying3 Tryz.underlying5 (gA (65+k))) ((show Value.int .u8 _=B8 (UInt8.ofNat (65+k))from rfl)))<|hy (fun _=>aa rfl)<|hy (fun _=>yV (bT rfl Tryz.underlying3 Tryz.underlying5 (gA k)) ((show Value.int .u8 _=B8 (UInt8.ofNat k)from rfl)))<| ?_
 refine hx (bV Tryz.underlying27 eP rfl rfl rfl (by simp[Value.cells,B8]) (by decide) (by decide) (fun g11=> ?_))
 have hA_b11:0<3→(some (⟨g11,0,none⟩:Addr))≠none:=fun _ h=>by cases h
 refine hy (fun _=>aa rfl)<|hy (fun _=>yV (fp rfl rfl (bD (by omega) (by omega))) ((show Value.int .i64 ((3:Int)*(k:Int))= .int .i64 ((3*k:Nat):Int)from rfl)))<| ?_
 refine aR (fun w m=>m.bO 0 rfl (show _=aG 5 1 (.slice (some ⟨g11,0,none⟩) 3 3) 3 (aQ [UInt8.ofNat (65+k),1,UInt8.ofNat k])from rfl)) ?_
 refine hx (cC rfl Tryz.call101 (Fo (show 3≤140737488351232 by decide) (show 3*k≤1000000 by omega) (l:=[UInt8.ofNat (65+k),1,UInt8.ofNat k])) [] rfl (.x 0 rfl .own .nil) ?_)
 rintro _ _ _ ⟨v,rfl,rfl,rfl⟩
 refine⟨rfl, ?_⟩
 refine aB (fun m=>(m.own 0 rfl).slice) ?_
 rintro⟨A_x,c_x,rfl,hc_x⟩
 refine aB (fun m=>(m.ord 0 rfl).2.1) fun hA_x=> ?_
 refine hy (fun _=>ab rfl)<|ai<|al (ρ' :=[(2,_),(3,_),(0,_)]) ⟨rfl,rfl,rfl,trivial⟩<|ak (X' :=[_,_]) (S' :=[]) (fun _ m=>m)<|ag<|aU<| ?_
 rw[uA hk]
 exact bc trivial rfl rfl [0] rfl [] rfl ⟨_,rfl,rfl,rfl⟩
theorem oh{z:Int}{k:Nat}(h0:-9223372036854775808≤z∧z≤9223372036854775807)(hz:dU z 6=(k:Int))(hk:k<6):cf Tryz.prog 30 [.int .i64 z] [] [ef] (fun v_ X_ S_=>v_=(.agg (aQ (ba (bd k))).toArray)∧X_=[]∧S_=[]):=by
 have h32:(aQ (ba (bd k))).length=32:=by rw[az,bj]
 refine aP (N:=6) Tryz.func30 rfl rfl (by simp) fun b=> ?_
 refine ah<|aj<| ?_
 refine hx (aN dL (fun g2=> ?_))
 refine ai<|ak (X' :=[_]) (S' :=[_]) (fun _ m=>m)<|ag<|ah<|aj<|hy (fun _=>aa rfl)<| ?_
 refine hx (aq rfl Tryz.call27 (lF h0 hz hk) [] rfl [] rfl ?_)
 rintro _ _ _ ⟨v,rfl,rfl,rfl⟩
 refine aB (fun m=>(m.own 0 rfl).slice) ?_
 rintro⟨A_x,c_x,rfl,hc_x⟩
 refine aB (fun m=>(m.ord 0 rfl).2.1) fun hA_x=> ?_
 refine hx (cC rfl Tryz.call56 (oK (by omega)) [] rfl (.x 0 rfl .own .nil) ?_)
 rintro _ _ _ ⟨rfl,rfl,rfl⟩
 refine⟨rfl, ?_⟩
 refine cI (aJ 1 rfl rfl rfl bp h32 aS rfl ?_)
 refine ai<|al (ρ' :=[(2,_),(0,_)]) ⟨rfl,rfl,trivial⟩<|ak (X' :=[_,_]) (S' :=[_]) (fun _ m=>m)<|ag<|aU<| ?_
 exact fe trivial rfl rfl cr bp h32 (fun m=>(m.aY 0 rfl).ay) [] rfl [] rfl ⟨rfl,rfl,rfl⟩
end Go.Proofs.YtmibdabdlgmafaaGreatDoor
end
section
set_option maxRecDepth 20000
namespace Go.Proofs.YtmibdabdlgmafaaGreatDoor
open Go.Eng Go.Hx
theorem lA(d:RD):mN (bL d):=fun x hx=>by
 obtain⟨p,_,h⟩:=List.mem_filterMap.1 hx
 rw[←j7]at h
 exact(eA h).1
end Go.Proofs.YtmibdabdlgmafaaGreatDoor
end
section
set_option maxRecDepth 20000
set_option maxHeartbeats 4000000
namespace Go.Proofs.YtmibdabdlgmafaaGreatDoor
open Go.Eng Go.Hx
theorem pr(d:RD):(bL d).length≤d.seen.length:=by
 unfold bL
 have:=List.length_filterMap_le mJ (d.seen.map (·.1))
 rwa [List.length_map]at this
end Go.Proofs.YtmibdabdlgmafaaGreatDoor
end
section
set_option maxRecDepth 20000
set_option maxHeartbeats 4000000
namespace Go.Proofs.YtmibdabdlgmafaaGreatDoor
open Go.Eng Go.Hx
theorem mh:∀(l1 l2:List (RD→RD×Int)) (d:RD),cg (l1++l2) d=if(cg l1 d).2≠0 then cg l1 d else cg l2 (cg l1 d).1
 | [],l2,d=>by rw[if_neg (by show¬(0:Int)≠0;decide)];rfl
 |f::r,l2,d=>by
  rw[List.cons_append,cg,cg]
  by_cases h:(f d).2≠0
  ·rw[if_pos h,if_pos h,if_pos h]
  ·rw[if_neg h,if_neg h]
   exact mh r l2 (f d).1
end Go.Proofs.YtmibdabdlgmafaaGreatDoor
end
section
set_option maxRecDepth 20000
set_option maxHeartbeats 4000000
namespace Go.Proofs.YtmibdabdlgmafaaGreatDoor
open Go.Eng Go.Hx
def jY(d:RD)(ds:List (List UInt8)):List (List UInt8):=ds.filter fun nm=>decide (d.dY nm≠0)
theorem um(d:RD){ds:List (List UInt8)}{i:Nat}(h:i<ds.length):jY d (ds.take (i+1))=jY d (ds.take i)++(if d.dY (ds.getD i [])≠0 then [ds.getD i []]else []):=by
 have h1:ds.take (i+1)=ds.take i++[ds.getD i []]:=by
  rw[List.take_add_one,List.getElem?_eq_getElem h]
  simp[List.getD,List.getElem?_eq_getElem h]
 unfold jY
 rw[h1,List.filter_append]
 generalize ds.getD i []=x
 by_cases hq:d.dY x=0 <;> simp[hq]
theorem Fk{g:Nat}{st:cG}{d:RD}{kk:Nat}{A:Option Addr}{n c:Nat}{ds:List (List UInt8)}(hD:DS st d kk)(hds:mN ds)(hn:n≤1000000):cf Tryz.prog 77 [.pointer (some ⟨g,0,none⟩),.slice A n c] [bn g st] [c6 32 A n (dc ds),ef] (fun v_ X_ S_=>∃v k,v_=v∧X_=[bn g st,aG 53 32 v k (dc (jY d ds))]∧S_=[]∧(k=(jY d ds).length)):=by
 refine aP (N:=24) Tryz.func77 rfl rfl (by simp) fun b=> ?_
 refine aZ (fun m=>jq (m.rd 0 rfl)) ?_
 rintro⟨hl_r,hA_r⟩
 refine aZ (fun m=>Ed (m.rd 0 rfl) hds) fun hln=> ?_
 refine ah<|aj<|hy (fun _=>ab rfl)<|ai<|ag<|ah<|aj<|hy (fun _=>ab rfl)<|ai<|ag<|ah<|ah<|aj<|hy (fun _=>aa rfl)<|hy (fun _=>aX rfl Tryz.underlying33)<|hy (fun _=>aa rfl)<|ai<|ag<|aK<| ?_
 refine bB (fun w m=>m.dx (r' :=aG 53 32 (.slice none 0 0) 0 []) (.refl _ _) (Own.nil _ _ _ _) (fun k hk=>hk.elim)) ?_
 refine kr (fun i k A1 c1=>n-i) (fun i k A1 c1=>[(5,.slice A1 k c1),(10,.int .i64 (i:Nat))]) (fun i k A1 c1=>[aG 53 32 (.slice A1 k c1) k (dc (jY d (ds.take i))),bn g st]) (fun i k A1 c1=>[]) (fun i k A1 c1=>i≤n∧k=(jY d (ds.take i)).length∧k≤i) 0 0 none 0 [(9,_),(8,_),(4,_),(0,_),(1,_)] ⟨rfl,rfl,rfl,rfl,rfl,trivial⟩ [0,0] rfl [] rfl (⟨Nat.zero_le _,rfl,Nat.le_refl _⟩) ⟨rfl,rfl,trivial⟩ (fun i k A1 c1 ⟨hin,hk,hki⟩=> ?_)
 refine ah<|aj<|hy (fun _=>bw rfl rfl)<|ai<|ag<|ah<| ?_
 refine cD rfl (fun hlt=> ?_) (fun hlt=> ?_)
 ·have hi2:i<ds.length:=by omega
  have hm:(ds.getD i []).length=32:=iu hds hi2
  have h32:(aQ (ds.getD i [])).length=32:=by rw[az,hm]
  have hsn:=um d hi2
  refine aD<|ag<|ah<|aK<|ah<|aj<|hy (fun _=>cQ rfl rfl Tryz.underlying33 bp hA_r rfl (by omega))<|hy (fun m=>a6 rfl cr bp h32 ((m.rd 0 rfl).k7 hds hi2))<| ?_
  refine hx (aN dL (fun g7=> ?_))
  refine cI (aJ 0 rfl rfl rfl bp h32 aS rfl ?_)
  generalize hnm:ds.getD i []=nm at hm h32 hsn ⊢
  refine ai<|al (ρ' :=[(7,_),(11,_),(5,_),(10,_),(9,_),(8,_),(4,_),(0,_),(1,_)]) ⟨rfl,rfl,rfl,rfl,rfl,rfl,rfl,rfl,rfl,trivial⟩<|ak (X' :=[_,_,_]) (S' :=[_,_]) (fun _ m=>m)<|ag<|ah<|aj<|hy (fun _=>aa rfl)<|hy (fun m=>a6 rfl cr bp h32 ((m.aY 0 rfl).ay))<| ?_
  refine hx (aq rfl Tryz.call145 (DJ hD hm) [2] rfl [1] rfl ?_)
  rintro _ _ _ ⟨rfl,rfl,rfl⟩
  refine hy (fun _=>iI rfl)<|ai<|al (ρ' :=[(17,_),(7,_),(11,_),(5,_),(10,_),(9,_),(8,_),(4,_),(0,_),(1,_)]) ⟨rfl,rfl,rfl,rfl,rfl,rfl,rfl,rfl,rfl,rfl,trivial⟩<|ak (X' :=[_,_,_]) (S' :=[_,_]) (fun _ m=>m)<|ag<| ?_
  refine zw rfl (fun h0=> ?_) (fun h0=> ?_)
  ·have hne:d.dY nm≠0:=by simpa using h0
   rw[if_pos hne]at hsn
   refine aj<|hy (fun _=>aa rfl)<|hy (fun m=>a6 rfl cr bp h32 ((m.aY 1 rfl).ay))<| ?_
   refine hx (bV Tryz.underlying33 dL rfl rfl rfl (by simpa[Value.cells,B8]using h32) (by decide) (by decide) (fun g20=> ?_))
   have hA_b20:0<1→(some (⟨g20,0,none⟩:Addr))≠none:=fun _ h=>by cases h
   refine aR (fun w m=>m.bO 0 rfl (show _=aG 53 32 (.slice (some ⟨g20,0,none⟩) 1 1) 1 (dc [nm])from rfl)) ?_
   refine hx (bH 3 rfl rfl rfl Tryz.underlying33 Tryz.underlying33 (by exact .inl rfl) dL rfl (fun m=>Src.bY (m.ord 0 rfl)) jx (by unfold maxLen;omega) (by omega) (fun u=> ?_))
   refine aB (fun m=>(m.own 0 rfl).slice) ?_
   rintro⟨A_o,c_o,rfl,hc_o⟩
   refine aB (fun m=>(m.ord 0 rfl).2.1) fun hA_o=> ?_
   refine aR (fun w m=>m.bO 0 rfl (show _=aG 53 32 (.slice A_o (k+1) c_o) (k+1) (dc (jY d (ds.take (i+1))))from congrArg (aG _ _ _ _) (by rw[hsn,fj]))) ?_
   refine hy (fun _=>ab rfl)<|ai<|al (ρ' :=[(5,_),(17,_),(7,_),(11,_),(10,_),(9,_),(8,_),(4,_),(0,_),(1,_)]) ⟨rfl,rfl,rfl,rfl,rfl,rfl,rfl,rfl,rfl,rfl,trivial⟩<|ak (X' :=[_,_,_,_]) (S' :=[_,_]) (fun _ m=>m)<|aT<|ag<|aj<|hy (fun _=>aM rfl rfl (bD (by omega) (by omega)))<|hy (fun _=>aa rfl)<|ai<|al (ρ' :=[(10,_),(5,_),(17,_),(7,_),(11,_),(9,_),(8,_),(4,_),(0,_),(1,_)]) ⟨rfl,rfl,rfl,rfl,rfl,rfl,rfl,rfl,rfl,rfl,trivial⟩<| ?_
   refine gr (i+1) (k+1) A_o c_o ⟨rfl,rfl,rfl,rfl,rfl,rfl,rfl,trivial⟩ [0,1] rfl [0,1] rfl (⟨by omega,by rw[hsn,hk,List.length_append];rfl,by omega⟩) (by omega)
  ·have hne:¬d.dY nm≠0:=by simpa using h0
   rw[if_neg hne,List.append_nil]at hsn
   refine aD<|aT<|ag<|aj<|hy (fun _=>aM rfl rfl (bD (by omega) (by omega)))<|hy (fun _=>aa rfl)<|ai<|al (ρ' :=[(10,_),(17,_),(7,_),(11,_),(5,_),(9,_),(8,_),(4,_),(0,_),(1,_)]) ⟨rfl,rfl,rfl,rfl,rfl,rfl,rfl,rfl,rfl,rfl,trivial⟩<| ?_
   refine ak (fun w m=>m.bO 2 rfl (show _=aG 53 32 (.slice A1 k c1) k (dc (jY d (ds.take (i+1))))from by rw[hsn])) ?_
   refine gr (i+1) k A1 c1 ⟨rfl,rfl,rfl,rfl,rfl,rfl,rfl,trivial⟩ [0,0] rfl [0,1] rfl (⟨by omega,by rw[hsn,hk],by omega⟩) (by omega)
 ·obtain rfl:i=n:=by omega
  rw[List.take_of_length_le (by omega)]at hk ⊢
  refine bK<|ao<|ao<|aC<|ag<|ah<|aj<|hy (fun _=>aa rfl)<|hy (fun _=>ab rfl)<|ai<|al (ρ' :=[(4,_),(11,_),(5,_),(10,_),(9,_),(8,_),(0,_),(1,_)]) ⟨rfl,rfl,rfl,rfl,rfl,rfl,rfl,rfl,trivial⟩<|ag<|aU<| ?_
  exact bc trivial rfl rfl [1,0] rfl [] rfl ⟨_,_,rfl,rfl,rfl,hk⟩
end Go.Proofs.YtmibdabdlgmafaaGreatDoor
end
