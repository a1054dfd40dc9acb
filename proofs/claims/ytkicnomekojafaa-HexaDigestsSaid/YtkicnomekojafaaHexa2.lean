/- Contract of hexa.Text. -/
import Derived.Test.YtkicnomekojafaaHexa1
import Derived.Test.YtkicnomekojafaaPlain1
set_option linter.unusedVariables false
set_option linter.unusedSimpArgs false
namespace Go.Proofs.Ytkicnomekojafaa
open Go.Eng Go.Hx
theorem text (A : Option Addr) (n c : Nat) (l : List UInt8) (w : World) (hr : Rd w 1 A n (b8s l)) (hn : n ≤ 70368744177664) :
    Calls Try.prog 9 #[.slice A n c] w fun e w' => e = .returned (.string (strOf (hexs l))) ∧ Fr No w w' := by
  have hl : l.length = n := by have := hr.1; rw [b8s_length] at this; omega
  refine enter (N := 28) Try.func9 rfl rfl (by simp) ?_
  refine cseq <| creg <| nq (y_assign rfl) <| nend <| qthen <| cseq <| creg <| nq (y_assign rfl) <| nend <| qthen <| cseq <| cseq <| creg <| nq (y_move rfl) <| nq (y_lenS rfl Try.underlying22) <| nq (y_move rfl) <| nend <| qsub (sub_cons (t := 7) rfl <| sub_cons (t := 6) rfl <| sub_cons (t := 3) rfl <| sub_cons (t := 2) rfl <| sub_cons (t := 0) rfl <| sub_nil) <| qthen <| cblock <| ?_
  refine cloop2 (fun k _ => n - k) (fun k v => [(0, .slice A n c), (3, v), (6, .int .i64 n), (7, .int .i64 (k : Nat))]) (fun k v w' => k ≤ n ∧ Own w' w.heap.size 5 1 v (2 * k) (b8s (hexs (l.take k))) ∧ Fr No w w') 0 (.slice none 0 0) (⟨Nat.zero_le _, Own.nil w w.heap.size _ 1, Fr.refl _ _⟩) (sub_cons (t := 0) rfl <| sub_cons (t := 3) rfl <| sub_cons (t := 6) rfl <| sub_cons (t := 7) rfl <| sub_nil) (fun k v w1 ⟨hk, ho, hf⟩ => ?_)
  refine cseq <| creg <| nq (y_lss rfl rfl) <| nend <| qthen <| cseq <| ?_
  refine cif rfl (fun h => ?_) (fun h => ?_)
  · have hkn : k < n := by omega
    have hb := (l.getD k 0).toNat_lt
    refine cskip <| qthen <| cseq <| cblock <| cseq <| creg <| nq (y_move rfl) <| nq (y_assign rfl) <| nend <| qsub (sub_cons (t := 4) rfl <| sub_cons (t := 8) rfl <| sub_cons (t := 0) rfl <| sub_cons (t := 3) rfl <| sub_cons (t := 6) rfl <| sub_cons (t := 7) rfl <| sub_nil) <| qthen <| ?_
    refine cdrw [(0, false), (1, false), (2, false), (3, false), (4, false), (5, false), (6, false), (7, false), (8, false), (9, false), (10, false), (11, false), (12, false), (13, true), (14, true), (15, false)] (by kernel_rfl) (by kernel_rfl) rfl (fun w' => Fr No w w') (hf.trans0 (Fr.drew _)) (fun w2 hf2 hS2 => ?_)
    refine sq (fun w_ hS_ => y_move rfl) <| sq (fun w_ hS_ => y_move rfl) <| sq (fun w_ hS_ => y_move rfl) <| sq (fun w_ hS_ => y_idxS1 rfl rfl Try.underlying22 sz5 hr.2.1 rfl (by omega)) <| sq (fun w_ hS_ => y_ld1 rfl ag5 (((hr.fr0 hS_).cell (b8s_get (by omega))))) <| sq (fun w_ hS_ => y_shr (p := 16) rfl rfl (by decide) (by decide) (by decide)) <| sq (fun w_ hS_ => y_idxStr rfl rfl Try.underlying9 rfl ((hexd_hi _))) <| sq (fun w_ hS_ => y_move rfl) <| sq (fun w_ hS_ => y_move rfl) <| sq (fun w_ hS_ => y_idxS1 rfl rfl Try.underlying22 sz5 hr.2.1 rfl (by omega)) <| sq (fun w_ hS_ => y_ld1 rfl ag5 (((hr.fr0 hS_).cell (b8s_get (by omega))))) <| sq (fun w_ hS_ => y_bits (by simp) rfl rfl ((and15 _))) <| sq (fun w_ hS_ => y_idxStr rfl rfl Try.underlying9 rfl ((hexd_lo _))) <| ?_
    refine sx (x_bsl Try.underlying22 ti5 rfl rfl rfl (by simp [Value.cells]) (by decide) (by decide) fun g w3 hg hf3 hb3 => ?_)
    have hS3 : Fr No w w3 := hS2.trans0 hf3
    refine ⟨hS3, ?_⟩
    refine sx (x_app rfl rfl Try.underlying22 Try.underlying22 (by exact .inl rfl) ti5 rfl (ho.fr0 (hf2.trans0 hf3)) (Src.of_rd (Own.rd (Own.made hb3 (Nat.le_refl _) (Nat.le_refl _) (by decide) (by rfl))).2.2) (by simp [Value.cells]; exact ⟨rfl, rfl⟩) (by unfold maxLen; omega) (by omega) hS3.size fun v4 w4 ho4 hf4 hv4 => ?_)
    have hS4 : Fr No w w4 := hS3.new hf4 (fun i hi => (ho.from hi).1)
    refine ⟨hS4, ?_⟩
    refine sq (fun w_ hS_ => y_assign rfl) <| send <| qsub (sub_cons (t := 3) rfl <| sub_cons (t := 4) rfl <| sub_cons (t := 8) rfl <| sub_cons (t := 0) rfl <| sub_cons (t := 6) rfl <| sub_cons (t := 7) rfl <| sub_nil) <| qblock <| qthen <| creg <| nq (y_add rfl rfl (w64 (by omega) (by omega))) <| nq (y_move rfl) <| nend <| qsub (sub_cons (t := 7) rfl <| sub_cons (t := 3) rfl <| sub_cons (t := 4) rfl <| sub_cons (t := 8) rfl <| sub_cons (t := 0) rfl <| sub_cons (t := 6) rfl <| sub_nil) <| ?_
    refine qloop2 (k + 1) v4 (sub_cons (t := 0) rfl <| sub_cons (t := 3) rfl <| sub_cons (t := 6) rfl <| sub_cons (t := 7) rfl <| sub_nil) (⟨by omega, ?_, hS4⟩) (by omega)
    have e1 : 2 * k + 2 = 2 * (k + 1) := by omega
    have e2 : hexs (l.take (k + 1)) = hexs (l.take k) ++ hex1 (l.getD k 0) := hexs_snoc (by omega)
    rw [e1] at ho4
    rw [e2, b8s_append]
    exact ho4
  · obtain rfl : k = n := by omega
    obtain ⟨A', c', rfl, hc'⟩ := ho.slice
    have hro := (Own.rd ho).2.2
    rw [List.take_of_length_le (by omega)] at hro
    refine cexit <| qthen_exit <| qthen_exit <| qblock_exit <| qthen <| cseq <| creg <| nq (y_move rfl) <| nq (y_b2s rfl Try.underlying22 Try.underlying5 Try.underlying9 hro) <| nq (y_assign rfl) <| nend <| qsub (sub_cons (t := 2) rfl <| sub_cons (t := 8) rfl <| sub_cons (t := 0) rfl <| sub_cons (t := 3) rfl <| sub_cons (t := 6) rfl <| sub_cons (t := 7) rfl <| sub_nil) <| qthen <| cret <| ?_
    exact ret1 trivial rfl rfl ⟨rfl, hf⟩
end Go.Proofs.Ytkicnomekojafaa
