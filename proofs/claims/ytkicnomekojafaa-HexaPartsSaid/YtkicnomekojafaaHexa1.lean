/- Contracts of the functions that turn bytes into digits. -/
import Derived.Test.YtkicnomekojafaaTy
set_option linter.unusedVariables false
set_option linter.unusedSimpArgs false
namespace Go.Proofs.Ytkicnomekojafaa
open Go.Eng
theorem few (A : Option Addr) (n c : Nat) (l : List UInt8) (m : Nat) (w : World) (hr : Rd w 1 A n (b8s l)) (hc : n ≤ c) (hn : n ≤ 140737488351232) :
    Calls Try.prog 8 #[.slice A n c, .int .i64 (m : Int)] w fun e w' => ∃ v, e = .returned v ∧ Own w' w.heap.size 5 1 v (min n m) (b8s (l.take m)) ∧ Fr No w w' := by
  have hl : l.length = n := by have := hr.1; rw [b8s_length] at this; omega
  have hrd : Rd w 1 A (min (n : Int) (m : Int)).toNat (b8s (l.take m)) := by
    have := hr.take (k := min n m) (by omega)
    have e : (b8s l).take (min n m * 1) = b8s (l.take m) := by
      rw [b8s, b8s, ← List.map_take, Nat.mul_one]
      congr 1
      by_cases h : m ≤ n
      · congr 1; omega
      · rw [List.take_of_length_le (by omega), List.take_of_length_le (by omega)]
    rw [e] at this
    have e2 : (min (n : Int) (m : Int)).toNat = min n m := by omega
    rw [e2]
    exact this
  refine enter (N := 14) Try.func8 rfl rfl (by simp) ?_
  refine cseq <| creg <| nq (y_assign rfl) <| nend <| qthen <| cseq <| creg <| nq (y_assign rfl) <| nend <| qthen <| cseq <| creg <| nq (y_move rfl) <| nq (y_move rfl) <| nq (y_move rfl) <| nq (y_lenS rfl Try.underlying22) <| nq (y_move rfl) <| nq (y_min rfl rfl) <| nq (y_slTo rfl rfl Try.underlying22 sz5 (by omega) (by omega)) <| ?_
  refine nx (x_app rfl rfl Try.underlying22 Try.underlying22 (by exact .inl rfl) ti5 rfl (Own.nil w w.heap.size _ 1) (Src.of_rd hrd) b8s_one (by unfold maxLen; omega) (by omega) (by omega) fun v w1 ho hf hv => ?_)
  refine nq (y_assign rfl) <| nend <| qsub (sub_cons (t := 4) rfl <| sub_cons (t := 5) rfl <| sub_cons (t := 0) rfl <| sub_cons (t := 1) rfl <| sub_nil) <| qthen <| cret <| ?_
  refine ret1 trivial rfl rfl ⟨v, rfl, ?_, hf.mono (fun _ _ e => e.elim)⟩
  have e2 : (min (n : Int) (m : Int)).toNat = min n m := by omega
  simpa [e2] using ho
end Go.Proofs.Ytkicnomekojafaa
