/- Contracts: texts in order (slices.Sort of at most 12). -/
import Derived.Test.YtflcokdkobhieaaRefD4
set_option linter.unusedVariables false
set_option linter.unusedSimpArgs false
set_option maxRecDepth 20000
namespace Go.Proofs.Ytflcokdkobhieaa
open Go.Eng Go.Hx
def ss (l : List (List UInt8)) : List Value := l.map SV
theorem ss_get {l : List (List UInt8)} {i : Nat} (h : i < l.length) : (ss l)[i]? = some (SV (l.getD i [])) := by simp [ss, List.getElem?_map, List.getElem?_eq_getElem h, List.getD]
theorem ss_set (l : List (List UInt8)) (i : Nat) (x : List UInt8) : (ss l).set i (SV x) = ss (l.set i x) := by simp [ss, List.map_set]
theorem ss_one {l : List (List UInt8)} : ∀ u ∈ ss l, u.oneCell' = true := by
  intro u hu
  obtain ⟨x, _, rfl⟩ := List.mem_map.1 hu
  rfl
theorem nanC {a : List UInt8} : Con Try.prog 117 [.string (strOf a)] [] [] (fun v_ X_ S_ => v_ = (.bool false) ∧ X_ = [] ∧ S_ = []) := by
  refine henter (N := 6) Try.func117 rfl rfl (by simp) fun b => ?_
  refine hseq <| hreg <| hy (fun _ => y_assign rfl) <| hend <| hthen <| hseq <| hreg <| hy (fun _ => y_move rfl) <| hy (fun _ => y_move rfl) <| hy (fun _ => yF (y_sne rfl rfl) ((decide_eq_false (not_not_intro rfl)))) <| hy (fun _ => y_assign rfl) <| hend <| hsub (ρ' := [(2, _), (0, _)]) ⟨rfl, rfl, trivial⟩ <| hthen <| hret <| ?_
  exact hret1 trivial rfl rfl [] rfl [] rfl ⟨rfl, rfl, rfl⟩
theorem lessSC {a bb : List UInt8} : Con Try.prog 103 [.string (strOf a), .string (strOf bb)] [] [] (fun v_ X_ S_ => v_ = (.bool (sless a bb)) ∧ X_ = [] ∧ S_ = []) := by
  refine henter (N := 17) Try.func103 rfl rfl (by simp) fun b => ?_
  refine hseq <| hreg <| hy (fun _ => y_assign rfl) <| hend <| hthen <| hseq <| hreg <| hy (fun _ => y_move rfl) <| ?_
  refine hx (xh_call rfl Try.call117 (nanC) [] rfl [] rfl ?_)
  rintro _ _ _ ⟨rfl, rfl, rfl⟩
  refine hy (fun _ => y_move rfl) <| hskip rfl rfl rfl (by decide) <| hskip rfl rfl rfl (by decide) <| hskip rfl rfl rfl (by decide) <| hy (fun _ => y_pickF rfl rfl) <| hy (fun _ => y_move rfl) <| hyg (o := _) rfl rfl rfl (fun _ => y_move rfl) <| hyg (o := _) rfl rfl rfl (fun _ => y_move rfl) <| hyg (o := _) rfl rfl rfl (fun _ => y_slt rfl rfl) <| hy (fun _ => y_pickF rfl rfl) <| hy (fun _ => y_assign rfl) <| hend <| hsub (ρ' := [(4, _), (0, _), (1, _)]) ⟨rfl, rfl, rfl, trivial⟩ <| hmemQ (X' := []) (S' := []) (fun _ m => m) <| hthen <| hret <| ?_
  exact hret1 trivial rfl rfl [] rfl [] rfl ⟨rfl, rfl, rfl⟩
end Go.Proofs.Ytflcokdkobhieaa
