/- Contracts: strings.Contains of one letter; a text's names. -/
import Derived.Test.YtflcokdkobhieaaCon1
import Derived.Lib.BytesEntry
import Derived.Lib.IndexAny
set_option linter.unusedVariables false
set_option linter.unusedSimpArgs false
set_option maxRecDepth 20000
namespace Go.Proofs.Ytflcokdkobhieaa
open Go.Eng Go.Hx
theorem sIndexByteC {l : List UInt8} {c : UInt8} : Con Try.prog 120 [.string (strOf l), B8 c] [] [] (fun v_ X_ S_ => v_ = (.int .i64 (Lib.indexByte l c)) ∧ X_ = [] ∧ S_ = []) := by
  refine henter (N := 8) Try.func120 rfl rfl (by simp) fun b => ?_
  refine hseq <| hreg <| hy (fun _ => y_assign rfl) <| hend <| hthen <| hseq <| hreg <| hy (fun _ => y_move rfl) <| hy (fun _ => y_move rfl) <| ?_
  refine hx (xh_y (fun m => y_ext rfl Try.func126 (by kernel_rfl) (by kernel_rfl) (by kernel_rfl) (show _ = some Extern.BytealgIndexByte.indexByte by kernel_rfl) (Lib.run_indexByteString _ _ _)) ?_)
  refine hy (fun _ => y_assign rfl) <| hend <| hsub (ρ' := [(4, _), (0, _), (1, _)]) ⟨rfl, rfl, rfl, trivial⟩ <| hthen <| hret <| ?_
  exact hret1 trivial rfl rfl [] rfl [] rfl ⟨(by congr 2; simp), rfl, rfl⟩
theorem slIndex1C {l : List UInt8} {c : UInt8} : Con Try.prog 111 [.string (strOf l), .string (strOf [c])] [] [] (fun v_ X_ S_ => v_ = (.int .i64 (Lib.indexByte l c)) ∧ X_ = [] ∧ S_ = []) := by
  refine henter (N := 143) Try.func111 rfl rfl (by simp) fun b => ?_
  refine hseq <| hreg <| hy (fun _ => y_assign rfl) <| hend <| hthen <| hseq <| hreg <| hy (fun _ => y_move rfl) <| hy (fun _ => yV (y_lenStr rfl Try.underlying9) ((rfl : _ = Value.int .i64 1))) <| hy (fun _ => y_assign rfl) <| hend <| hsub (ρ' := [(5, _), (4, _), (0, _), (1, _)]) ⟨rfl, rfl, rfl, rfl, trivial⟩ <| hthen <| hseq <| hblock <| hseq <| hreg <| hy (fun _ => y_move rfl) <| hy (fun _ => y_eql rfl rfl) <| hy (fun _ => y_move rfl) <| ?_
  refine hyg (o := _) rfl rfl rfl (fun _ => y_move rfl) <| hyg (o := _) rfl rfl rfl (fun _ => y_move rfl) <| hyg (o := _) rfl rfl rfl (fun _ => y_seq rfl rfl) <| hy (fun _ => y_pickF rfl rfl) <| hy (fun _ => y_assign rfl) <| hend <| hsub (ρ' := [(16, _), (5, _), (4, _), (0, _), (1, _)]) ⟨rfl, rfl, rfl, rfl, rfl, trivial⟩ <| hthen <| ?_
  refine hif rfl (fun h => ?_) (fun h => ?_)
  · obtain rfl := strOf_inj.1 h
    refine hseq <| hreg <| hy (fun _ => y_assign rfl) <| hend <| hthen <| hret <| hqblock_ret <| hthen_ret <| ?_
    exact hret1 trivial rfl rfl [] rfl [] rfl ⟨(by simp [Lib.indexByte]), rfl, rfl⟩
  · refine hseq <| hreg <| hy (fun _ => y_move rfl) <| hy (fun _ => y_eql rfl rfl) <| hy (fun _ => y_assign rfl) <| hend <| hsub (ρ' := [(24, _), (16, _), (5, _), (4, _), (0, _), (1, _)]) ⟨rfl, rfl, rfl, rfl, rfl, rfl, trivial⟩ <| hthen <| ?_
    refine hift rfl (rfl) ?_
    refine hseq <| hreg <| hy (fun _ => y_move rfl) <| hy (fun _ => y_move rfl) <| hy (fun _ => yV (y_idxStr rfl rfl Try.underlying9 rfl (strOf_at (by simp))) ((rfl : _ = B8 c))) <| ?_
    refine hx (xh_call rfl Try.call120 (sIndexByteC) [] rfl [] rfl ?_)
    rintro _ _ _ ⟨rfl, rfl, rfl⟩
    refine hy (fun _ => y_assign rfl) <| hend <| hsub (ρ' := [(4, _), (24, _), (16, _), (5, _), (0, _), (1, _)]) ⟨rfl, rfl, rfl, rfl, rfl, rfl, trivial⟩ <| hmemQ (X' := []) (S' := []) (fun _ m => m) <| hthen <| hret <| hqblock_ret <| hthen_ret <| ?_
    exact hret1 trivial rfl rfl [] rfl [] rfl ⟨rfl, rfl, rfl⟩
theorem stringsIndex1C {l : List UInt8} {c : UInt8} : Con Try.prog 96 [.string (strOf l), .string (strOf [c])] [] [] (fun v_ X_ S_ => v_ = (.int .i64 (Lib.indexByte l c)) ∧ X_ = [] ∧ S_ = []) := by
  refine henter (N := 8) Try.func96 rfl rfl (by simp) fun b => ?_
  refine hseq <| hreg <| hy (fun _ => y_assign rfl) <| hend <| hthen <| hseq <| hreg <| hy (fun _ => y_move rfl) <| hy (fun _ => y_move rfl) <| ?_
  refine hx (xh_call rfl Try.call111 (slIndex1C) [] rfl [] rfl ?_)
  rintro _ _ _ ⟨rfl, rfl, rfl⟩
  refine hy (fun _ => y_assign rfl) <| hend <| hsub (ρ' := [(4, _), (0, _), (1, _)]) ⟨rfl, rfl, rfl, trivial⟩ <| hmemQ (X' := []) (S' := []) (fun _ m => m) <| hthen <| hret <| ?_
  exact hret1 trivial rfl rfl [] rfl [] rfl ⟨rfl, rfl, rfl⟩
theorem contains1C {l : List UInt8} {c : UInt8} : Con Try.prog 83 [.string (strOf l), .string (strOf [c])] [] [] (fun v_ X_ S_ => v_ = (.bool (decide (c ∈ l))) ∧ X_ = [] ∧ S_ = []) := by
  refine henter (N := 9) Try.func83 rfl rfl (by simp) fun b => ?_
  refine hseq <| hreg <| hy (fun _ => y_assign rfl) <| hend <| hthen <| hseq <| hreg <| hy (fun _ => y_move rfl) <| hy (fun _ => y_move rfl) <| ?_
  refine hx (xh_call rfl Try.call96 (stringsIndex1C) [] rfl [] rfl ?_)
  rintro _ _ _ ⟨rfl, rfl, rfl⟩
  refine hy (fun _ => y_geq rfl rfl) <| hy (fun _ => y_assign rfl) <| hend <| hsub (ρ' := [(4, _), (0, _), (1, _)]) ⟨rfl, rfl, rfl, trivial⟩ <| hmemQ (X' := []) (S' := []) (fun _ m => m) <| hthen <| hret <| ?_
  exact hret1 trivial rfl rfl [] rfl [] rfl ⟨(by congr 1; rw [← Lib.contains_iff_indexByte]; simp), rfl, rfl⟩
/-- may a text be a name? -/
def Named (p : List UInt8) : Prop := p ≠ [] ∧ p.length ≤ 96 ∧ ¬ (0 : UInt8) ∈ p
instance (p : List UInt8) : Decidable (Named p) := by unfold Named; infer_instance
theorem str_nil (p : List UInt8) : strOf p ≠ ⟨#[]⟩ ↔ p ≠ [] := by
  rw [show (⟨#[]⟩ : ByteArray) = strOf [] from rfl]
  simp only [ne_eq, strOf_inj]
theorem namedC {p : List UInt8} : Con Try.prog 57 [.string (strOf p)] [] [] (fun v_ X_ S_ => v_ = (.bool (decide (Named p))) ∧ X_ = [] ∧ S_ = []) := by
  have hsz := strOf_size p
  refine henter (N := 15) Try.func57 rfl rfl (by simp) fun b => ?_
  refine hseq <| hreg <| hy (fun _ => y_assign rfl) <| hend <| hthen <| hseq <| hreg <| hy (fun _ => y_move rfl) <| hy (fun _ => y_sne rfl rfl) <| hy (fun _ => y_move rfl) <| ?_
  refine hsplit 5 rfl (fun h1 => ?_) (fun h1 => ?_)
  · have h1' := (str_nil p).1 h1
    refine hyg (o := _) rfl rfl rfl (fun _ => y_move rfl) <| hyg (o := _) rfl rfl rfl (fun _ => y_lenStr rfl Try.underlying9) <| hyg (o := _) rfl rfl rfl (fun _ => y_leq rfl rfl) <| hy (fun _ => y_pickT rfl rfl) <| hy (fun _ => y_move rfl) <| ?_
    refine hsplit 10 rfl (fun h2 => ?_) (fun h2 => ?_)
    · have h2' : p.length ≤ 96 := by omega
      refine hyg (o := _) rfl rfl rfl (fun _ => y_move rfl) <| ?_
      refine hxg (o := _) rfl rfl rfl (xh_call rfl Try.call83 (contains1C) [] rfl [] rfl ?_)
      rintro _ _ _ ⟨rfl, rfl, rfl⟩
      refine hyg (o := _) rfl rfl rfl (fun _ => y_notp rfl) <| hy (fun _ => y_pickT rfl rfl) <| hy (fun _ => y_assign rfl) <| hend <| hsub (ρ' := [(2, _), (0, _)]) ⟨rfl, rfl, trivial⟩ <| hmemQ (X' := []) (S' := []) (fun _ m => m) <| hthen <| hret <| ?_
      exact hret1 trivial rfl rfl [] rfl [] rfl ⟨(by congr 1; simp only [Named]; simp [h1', h2']), rfl, rfl⟩
    · have h2' : ¬ p.length ≤ 96 := by omega
      refine hskip rfl rfl rfl (by decide) <| hskip rfl rfl rfl (by decide) <| hskip rfl rfl rfl (by decide) <| hy (fun _ => y_pickF rfl rfl) <| hy (fun _ => y_assign rfl) <| hend <| hsub (ρ' := [(2, _), (0, _)]) ⟨rfl, rfl, trivial⟩ <| hthen <| hret <| ?_
      exact hret1 trivial rfl rfl [] rfl [] rfl ⟨(by congr 1; simp only [Named]; simp [h2']), rfl, rfl⟩
  · have h1' : ¬ p ≠ [] := fun h => h1 ((str_nil p).2 h)
    refine hskip rfl rfl rfl (by decide) <| hskip rfl rfl rfl (by decide) <| hskip rfl rfl rfl (by decide) <| hy (fun _ => y_pickF rfl rfl) <| hy (fun _ => y_move rfl) <| ?_
    refine hskip rfl rfl rfl (by decide) <| hskip rfl rfl rfl (by decide) <| hskip rfl rfl rfl (by decide) <| hy (fun _ => y_pickF rfl rfl) <| hy (fun _ => y_assign rfl) <| hend <| hsub (ρ' := [(2, _), (0, _)]) ⟨rfl, rfl, trivial⟩ <| hthen <| hret <| ?_
    exact hret1 trivial rfl rfl [] rfl [] rfl ⟨(by congr 1; simp only [Named]; simp [h1']), rfl, rfl⟩
end Go.Proofs.Ytflcokdkobhieaa
