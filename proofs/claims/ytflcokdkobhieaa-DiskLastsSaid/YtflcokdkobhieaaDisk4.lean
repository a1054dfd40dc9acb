/- The disk's example (lives of layer 12), computed. -/
import Derived.Test.YtflcokdkobhieaaDisk3
import Derived.Test.YtflcokdkobhieaaCon2
set_option linter.unusedVariables false
set_option linter.unusedSimpArgs false
set_option maxRecDepth 20000
namespace Go.Proofs.Ytflcokdkobhieaa
open Go.Eng Go.Hx
theorem wrote_of {st st1 : DSt} {p : List UInt8} {n : Nat} {r : BRow} {A : Option Addr} {c : Nat} (h : (writeE st p n ≠ 0 ∧ st1 = st) ∨ (writeE st p n = 0 ∧ st1 = st.wrote p r A c)) (e : writeE st p n = 0) : st1 = st.wrote p r A c := by
  rcases h with ⟨h, _⟩ | ⟨_, h⟩
  · exact absurd e h
  · exact h
theorem named1 {x : UInt8} (h : x ≠ 0) : Named [x] := ⟨by simp, by simp, by simp; exact fun e => h e.symm⟩
theorem lives12C  : Con Try.prog 29 [] [] [] (fun v_ X_ S_ => v_ = (.bool true) ∧ X_ = [] ∧ S_ = []) := by
  refine henter (N := 59) Try.func29 rfl rfl (by simp) fun b => ?_
  refine hseq <| hreg <| hy (fun _ => y_assign rfl) <| hend <| hthen <| hseq <| hreg <| ?_
  refine hx (xh_call rfl Try.call22 (newC (by omega) (by omega) (n := 100)) [] rfl [] rfl ?_)
  rintro _ _ _ ⟨g, gs, gl, rfl, rfl, rfl⟩
  refine hy (fun _ => y_move rfl) <| hy (fun _ => y_extract rfl rfl) <| hy (fun _ => y_extract rfl rfl) <| hy (fun _ => y_assign rfl) <| hy (fun _ => y_assign rfl) <| hend <| hsub (ρ' := [(2, _), (1, _), (0, _)]) ⟨rfl, rfl, rfl, trivial⟩ <| hmemQ (X' := [_]) (S' := []) (fun _ m => m) <| hthen <| hseq <| hseq <| hreg <| hy (fun _ => y_move rfl) <| hy (fun _ => y_eqPn rfl rfl (by kernel_rfl)) <| hy (fun _ => y_move rfl) <| ?_
  refine hyg (o := _) rfl rfl rfl (fun _ => y_move rfl) <| hyg (o := _) rfl rfl rfl (fun _ => y_neq rfl rfl) <| hy (fun _ => y_pickF rfl rfl) <| hend <| hsub (ρ' := [(18, _), (2, _), (1, _), (0, _)]) ⟨rfl, rfl, rfl, rfl, trivial⟩ <| hthen <| ?_
  refine hiff rfl ((by decide)) ?_
  refine hcskip <| hthen <| hseq <| hreg <| hy (fun _ => y_move rfl) <| ?_
  refine hx (xh_bsl Try.underlying44 ti5 rfl rfl rfl (by simp [Value.cells, B8]) (by decide) (by decide) (fun g20 => ?_))
  have hA_b20 : 0 < 4 → (some (⟨g20, 0, none⟩ : Addr)) ≠ none := fun _ h => by cases h
  refine hmemL (fun w m => m.eqX 0 rfl (show _ = ROwn 5 1 (.slice (some ⟨g20, 0, none⟩) 4 4) 4 (b8s [49, 50, 51, 52]) from rfl)) ?_
  refine hx (xh_cvS 0 rfl rfl Try.underlying44 Try.underlying5 ?_)
  refine hx (xh_calll rfl Try.call25 (writeC (DOk.init (by decide)) (by omega) (by omega) (k := 0) (l := [49, 50, 51, 52])) [1] rfl (.x 0 rfl .own .nil) ?_)
  rintro _ _ _ ⟨st1, B, c1, A1, c2, rfl, rfl, rfl, hp⟩
  refine ⟨rfl, ?_⟩
  have e1 : writeE (dinit 100 gs gl) [97] 4 = 0 := by simp [writeE, named1, dinit, tot, aget]
  obtain rfl := wrote_of hp e1
  rw [e1]
  have ok1 := (DOk.init (n := 100) (gs := gs) (gl := gl) (by decide)).wrote (p := [97]) (r := ⟨B, 4, c1, [49, 50, 51, 52]⟩) (show 4 ≤ 1048576 by decide) A1 c2
  have wr1 : Wr ((dinit 100 gs gl).wrote [97] ⟨B, 4, c1, [49, 50, 51, 52]⟩ A1 c2) := fun c hc => by
    obtain rfl := List.mem_singleton.1 hc
    exact ⟨_, _, rfl⟩
  refine hy (fun _ => y_assign rfl) <| hend <| hsub (ρ' := [(3, _), (18, _), (2, _), (1, _), (0, _)]) ⟨rfl, rfl, rfl, rfl, rfl, trivial⟩ <| hmemQ (X' := [_, _]) (S' := []) (fun _ m => m) <| hthen <| hseq <| hreg <| hy (fun _ => y_move rfl) <| ?_
  refine hx (xh_bsl Try.underlying27 ti4 rfl rfl rfl (by simp [Value.cells, B8]) (by decide) (by decide) (fun g24 => ?_))
  have hA_b24 : 0 < 2 → (some (⟨g24, 0, none⟩ : Addr)) ≠ none := fun _ h => by cases h
  refine hmemL (fun w m => m.eqX 0 rfl (show _ = ROwn 4 1 (.slice (some ⟨g24, 0, none⟩) 2 2) 2 (bools [true, false]) from rfl)) ?_
  refine hx (xh_calll rfl Try.call13 (restartC (by omega) wr1 ok1.sm (by have := ok1.rest; omega) (bs := [true, false])) [1] rfl (.x 0 rfl .own .nil) ?_)
  rintro _ _ _ ⟨gs2, rfl, rfl, rfl⟩
  refine ⟨rfl, ?_⟩
  have ok2 := ok1.started [true, false] gs2
  generalize hst : DSt.started _ _ _ = st2 at ok2 ⊢
  have s1 : st2.seen = [([97], ⟨B, 2, c1, [49, 50]⟩)] := by rw [← hst]; simp [DSt.started, rfold, rstep, DSt.wrote, DSt.spent, dinit, aput, BRow.half]
  have s2 : st2.waits = [] := by rw [← hst]; rfl
  have s3 : st2.power = -1 := by rw [← hst]; rfl
  have s4 : st2.room = 100 := by rw [← hst]; rfl
  have s5 : st2.lasts = st2.seen := by rw [← hst]; rfl
  clear hst
  refine hend <| hsub (ρ' := [(3, _), (18, _), (2, _), (1, _), (0, _)]) ⟨rfl, rfl, rfl, rfl, rfl, trivial⟩ <| hmemQ (X' := [_, _, _]) (S' := []) (fun _ m => m) <| hthen <| hseq <| hreg <| hy (fun _ => y_move rfl) <| ?_
  refine hx (xh_call rfl Try.call32 (readC ok2.sm) [0] rfl [] rfl ?_)
  rintro _ _ _ ⟨v, rfl, rfl, rfl⟩
  refine hfactL (fun m => (m.own 1 rfl).slice) ?_
  rintro ⟨A_x, c_x, rfl, hc_x⟩
  refine hfactL (fun m => (m.ord 1 rfl).2.1) fun hA_x => ?_
  have e2 : foundE st2 [97] = 0 := by simp [foundE, s1, s3, aget]
  have e3 : readB st2 [97] = [49, 50] := by simp [readB, e2, s1, aget]
  rw [e2, e3]
  rw [e3] at hA_x hc_x
  refine hmemL (fun w m => m.addS (r' := RRd 1 none 0 []) (.refl _ _) (Rd.nil _ _ _) (fun k hk => absurd rfl hk.1)) ?_
  have hA_z : 0 < 0 → (none : Option Addr) ≠ none := fun h => absurd h (by decide)
  refine hy (fun _ => y_move rfl) <| hy (fun _ => y_extract rfl rfl) <| hy (fun _ => y_extract rfl rfl) <| hy (fun _ => y_assign rfl) <| hy (fun _ => y_assign rfl) <| hend <| hsub (ρ' := [(5, _), (4, _), (3, _), (18, _), (2, _), (1, _), (0, _)]) ⟨rfl, rfl, rfl, rfl, rfl, rfl, rfl, trivial⟩ <| hmemQ (X' := [_, _, _, _]) (S' := [_]) (fun _ m => m) <| hthen <| hseq <| hreg <| hy (fun _ => y_move rfl) <| ?_
  refine hx (xh_call rfl Try.call25 (writeC ok2 (by omega) (by omega) (k := 1) (l := [])) [0] rfl [0] rfl ?_)
  rintro _ _ _ ⟨st12, B2, c12, A12, c22, rfl, rfl, rfl, hp2⟩
  have e4 : writeE st2 [98] 0 = 0 := by simp [writeE, named1, s1, s3, s4, tot, aget]
  obtain rfl := wrote_of hp2 e4
  rw [e4]
  have ok3 := ok2.wrote (p := [98]) (r := ⟨B2, 0, c12, []⟩) (show 0 ≤ 1048576 by decide) A12 c22
  have wr3 : Wr (st2.wrote [98] ⟨B2, 0, c12, []⟩ A12 c22) := fun c hc => by
    rw [show (st2.wrote [98] ⟨B2, 0, c12, []⟩ A12 c22).waits = st2.waits ++ [.written [98] ⟨B2, 0, c12, []⟩] from rfl, s2] at hc
    obtain rfl := List.mem_singleton.1 hc
    exact ⟨_, _, rfl⟩
  refine hy (fun _ => y_assign rfl) <| hend <| hsub (ρ' := [(6, _), (5, _), (4, _), (3, _), (18, _), (2, _), (1, _), (0, _)]) ⟨rfl, rfl, rfl, rfl, rfl, rfl, rfl, rfl, trivial⟩ <| hmemQ (X' := [_, _, _, _]) (S' := [_]) (fun _ m => m) <| hthen <| hseq <| hreg <| hy (fun _ => y_move rfl) <| ?_
  refine hx (xh_call rfl Try.call13 (restartC (by omega) wr3 ok3.sm (by have := ok3.rest; omega) (bs := [])) [0] rfl [0] rfl ?_)
  rintro _ _ _ ⟨gs3, rfl, rfl, rfl⟩
  have ok4 := ok3.started [] gs3
  have s6 : (((st2.wrote [98] ⟨B2, 0, c12, []⟩ A12 c22).started [] gs3).seen) = st2.seen := by rw [← s5]; simp [DSt.started, rfold, rstep, DSt.wrote, DSt.spent, s2]
  have s7 : (((st2.wrote [98] ⟨B2, 0, c12, []⟩ A12 c22).started [] gs3).power) = -1 := rfl
  generalize DSt.started _ _ _ = st4 at ok4 s6 s7 ⊢
  refine hend <| hsub (ρ' := [(6, _), (5, _), (4, _), (3, _), (18, _), (2, _), (1, _), (0, _)]) ⟨rfl, rfl, rfl, rfl, rfl, rfl, rfl, rfl, trivial⟩ <| hmemQ (X' := [_, _, _, _]) (S' := [_]) (fun _ m => m) <| hthen <| hseq <| hreg <| hy (fun _ => y_move rfl) <| ?_
  refine hx (xh_call rfl Try.call32 (readC ok4.sm) [0] rfl [] rfl ?_)
  rintro _ _ _ ⟨v2, rfl, rfl, rfl⟩
  refine hfactL (fun m => (m.own 1 rfl).slice) ?_
  rintro ⟨A_x2, c_x2, rfl, hc_x2⟩
  refine hfactL (fun m => (m.ord 1 rfl).2.1) fun hA_x2 => ?_
  have e5 : foundE st4 [98] = 4 := by simp [foundE, s6, s1, s7, aget]
  rw [e5]
  refine hy (fun _ => y_move rfl) <| hy (fun _ => y_extract rfl rfl) <| hy (fun _ => y_extract rfl rfl) <| hy (fun _ => y_assign rfl) <| hy (fun _ => y_assign rfl) <| hend <| hsub (ρ' := [(8, _), (6, _), (5, _), (4, _), (3, _), (18, _), (2, _), (1, _), (0, _)]) ⟨rfl, rfl, rfl, rfl, rfl, rfl, rfl, rfl, rfl, trivial⟩ <| hmemQ (X' := [_, _, _, _, _]) (S' := [_]) (fun _ m => m) <| hthen <| hseq <| hreg <| hy (fun _ => y_move rfl) <| hy (fun _ => y_eql rfl rfl) <| hy (fun _ => y_move rfl) <| hyg (o := _) rfl rfl rfl (fun _ => y_move rfl) <| hyg (o := _) rfl rfl rfl (fun _ => y_eql rfl rfl) <| hy (fun _ => y_pickT rfl rfl) <| hy (fun _ => y_move rfl) <| hyg (o := _) rfl rfl rfl (fun _ => y_move rfl) <| hyg (o := _) rfl rfl rfl (fun m => y_b2s rfl Try.underlying44 Try.underlying5 Try.underlying9 (m.ord 2 rfl)) <| hyg (o := _) rfl rfl rfl (fun _ => yT (y_seq rfl rfl) ((decide_eq_true rfl))) <| hy (fun _ => y_pickT rfl rfl) <| hy (fun _ => y_move rfl) <| hyg (o := _) rfl rfl rfl (fun _ => y_move rfl) <| hyg (o := _) rfl rfl rfl (fun _ => y_eql rfl rfl) <| hy (fun _ => y_pickT rfl rfl) <| hy (fun _ => y_move rfl) <| hyg (o := _) rfl rfl rfl (fun _ => y_move rfl) <| hyg (o := _) rfl rfl rfl (fun _ => y_eql rfl rfl) <| hy (fun _ => y_pickT rfl rfl) <| hy (fun _ => y_assign rfl) <| hend <| hsub (ρ' := [(0, _), (8, _), (6, _), (5, _), (4, _), (3, _), (18, _), (2, _), (1, _)]) ⟨rfl, rfl, rfl, rfl, rfl, rfl, rfl, rfl, rfl, trivial⟩ <| hthen <| hret <| ?_
  exact hret1 trivial rfl rfl [] rfl [] rfl ⟨rfl, rfl, rfl⟩
end Go.Proofs.Ytflcokdkobhieaa
