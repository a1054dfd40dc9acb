/- Contracts of small functions on bytes (from Dig1, Crc), for seats without digests. -/
import Derived.Test.YtflcokdkobhieaaTy
import Derived.Test.YtflcokdkobhieaaEng7
import Derived.Test.YtflcokdkobhieaaPlain3
import Derived.Test.YtflcokdkobhieaaPlain2
set_option linter.unusedVariables false
set_option linter.unusedSimpArgs false
set_option maxRecDepth 20000
namespace Go.Proofs.Ytflcokdkobhieaa
open Go.Eng Go.Hx
theorem few (A : Option Addr) (n c : Nat) (l : List UInt8) (m : Nat) (w : World) (hr : Rd w 1 A n (b8s l)) (hc : n ≤ c) (hn : n ≤ 140737488351232) :
    Calls Try.prog 65 #[.slice A n c, .int .i64 (m : Int)] w fun e w' => ∃ v, e = .returned v ∧ Own w' w.heap.size 5 1 v (min n m) (b8s (l.take m)) ∧ Fr No w w' := by
  have hl : l.length = n := by have := hr.1; rw [b8s_length] at this; omega
  have hrd : Rd w 1 A (min n m) (b8s (l.take m)) := by
    have := hr.take (k := min n m) (by omega)
    have e : (b8s l).take (min n m * 1) = b8s (l.take m) := by
      rw [b8s, b8s, ← List.map_take, Nat.mul_one]
      congr 1
      by_cases h : m ≤ n
      · congr 1; omega
      · rw [List.take_of_length_le (by omega), List.take_of_length_le (by omega)]
    rw [e] at this
    exact this
  refine enter (N := 14) Try.func65 rfl rfl (by simp) ?_
  refine cseq <| creg <| nq (y_assign rfl) <| nend <| qthen <| cseq <| creg <| nq (y_assign rfl) <| nend <| qthen <| cseq <| creg <| nq (y_move rfl) <| nq (y_move rfl) <| nq (y_move rfl) <| nq (y_lenS rfl Try.underlying44) <| nq (y_move rfl) <| nq (y_min rfl rfl) <| nq (y_slTo rfl rfl Try.underlying44 sz5 (show ((min n m : Nat) : Int) = _ by omega) ((by omega))) <| ?_
  refine nx (x_app rfl rfl Try.underlying44 Try.underlying44 (by exact .inl rfl) ti5 rfl (Own.nil w w.heap.size _ 1) (Src.of_rd hrd) b8s_one (by unfold maxLen; omega) (by omega) (by omega) fun v w1 ho hf hv => ?_)
  refine nq (y_assign rfl) <| nend <| qsub (sub_cons (t := 4) rfl <| sub_cons (t := 5) rfl <| sub_cons (t := 0) rfl <| sub_cons (t := 1) rfl <| sub_nil) <| qthen <| cret <| ?_
  refine ret1 trivial rfl rfl ⟨v, rfl, ?_, hf.mono (fun _ _ e => e.elim)⟩
  simpa using ho
def around (n m : Int) : Int := (if n < 0 then -(n + 1) else n) % m
theorem around_lt (n m : Int) (hm : 0 < m) : 0 ≤ around n m ∧ around n m < m := ⟨Int.emod_nonneg _ (by omega), Int.emod_lt_of_pos _ hm⟩
theorem around_c (n m : Int) (w : World) (h1 : -9223372036854775808 ≤ n) (h2 : n ≤ 9223372036854775807) (hm : 0 < m) :
    Calls Try.prog 20 #[.int .i64 n, .int .i64 m] w fun e w' => e = .returned (.int .i64 (around n m)) ∧ w = w' := by
  refine enter (N := 13) Try.func20 rfl rfl (by simp) ?_
  refine cseq <| creg <| nq (y_assign rfl) <| nend <| qthen <| cseq <| cseq <| creg <| nq (y_move rfl) <| nq (y_lss rfl rfl) <| nend <| qsub (sub_cons (t := 6) rfl <| sub_cons (t := 4) rfl <| sub_cons (t := 0) rfl <| sub_cons (t := 1) rfl <| sub_nil) <| qthen <| ?_
  refine cif rfl (fun h => ?_) (fun h => ?_)
  · refine creg <| nq (y_move rfl) <| nq (y_add rfl rfl (w64 (by omega) (by omega))) <| nq (y_neg rfl (w64 (by omega) (by omega))) <| nq (y_assign rfl) <| nend <| qsub (sub_cons (t := 0) rfl <| sub_cons (t := 6) rfl <| sub_cons (t := 4) rfl <| sub_cons (t := 1) rfl <| sub_nil) <| qthen <| cseq <| creg <| nq (y_move rfl) <| nq (y_move rfl) <| nq (y_rem rfl rfl (by omega) (by omega)) <| nq (y_assign rfl) <| nend <| qsub (sub_cons (t := 4) rfl <| sub_cons (t := 0) rfl <| sub_cons (t := 6) rfl <| sub_cons (t := 1) rfl <| sub_nil) <| qthen <| cret <| ?_
    refine ret1 trivial rfl rfl ⟨?_, rfl⟩
    simp only [around, if_pos h]
  · refine cskip <| qthen <| cseq <| creg <| nq (y_move rfl) <| nq (y_move rfl) <| nq (y_rem rfl rfl (by omega) (by omega)) <| nq (y_assign rfl) <| nend <| qsub (sub_cons (t := 4) rfl <| sub_cons (t := 6) rfl <| sub_cons (t := 0) rfl <| sub_cons (t := 1) rfl <| sub_nil) <| qthen <| cret <| ?_
    refine ret1 trivial rfl rfl ⟨?_, rfl⟩
    simp only [around, if_neg h]
theorem short_c (s : List UInt8) (m : Nat) (w : World) : Calls Try.prog 21 #[.string (strOf s), .int .i64 (m : Int)] w fun e w' => e = .returned (.string (strOf (s.take m))) ∧ w = w' := by
  refine enter (N := 13) Try.func21 rfl rfl (by simp) ?_
  refine cseq <| creg <| nq (y_assign rfl) <| nend <| qthen <| cseq <| cseq <| creg <| nq (y_move rfl) <| nq (y_lenStr rfl Try.underlying9) <| nq (y_move rfl) <| nq (y_gtr rfl rfl) <| nend <| qsub (sub_cons (t := 8) rfl <| sub_cons (t := 4) rfl <| sub_cons (t := 0) rfl <| sub_cons (t := 1) rfl <| sub_nil) <| qthen <| ?_
  refine cif rfl (fun h => ?_) (fun h => ?_)
  · rw [strOf_size] at h
    refine cseq <| creg <| nq (y_move rfl) <| nq (y_move rfl) <| nq (y_strTo rfl rfl Try.underlying9 rfl ((by rw [bytesOf_strOf]; omega))) <| nq (y_assign rfl) <| nend <| qsub (sub_cons (t := 4) rfl <| sub_cons (t := 8) rfl <| sub_cons (t := 0) rfl <| sub_cons (t := 1) rfl <| sub_nil) <| qthen <| cret <| qthen_ret <| ?_
    exact ret1 trivial rfl rfl ⟨rfl, rfl⟩
  · rw [strOf_size] at h
    refine cskip <| qthen <| cseq <| creg <| nq (y_move rfl) <| nq (y_assign rfl) <| nend <| qsub (sub_cons (t := 4) rfl <| sub_cons (t := 8) rfl <| sub_cons (t := 0) rfl <| sub_cons (t := 1) rfl <| sub_nil) <| qthen <| cret <| ?_
    refine ret1 trivial rfl rfl ⟨?_, rfl⟩
    rw [List.take_of_length_le (by omega)]
theorem clone (A : Option Addr) (n c : Nat) (l : List UInt8) (w : World) (hr : Rd w 1 A n (b8s l)) (hn : n ≤ 140737488351232) :
    Calls Try.prog 59 #[.slice A n c] w fun e w' => ∃ v, e = .returned v ∧ Own w' w.heap.size 5 1 v n (b8s l) ∧ Fr No w w' := by
  have hl : l.length = n := by have := hr.1; rw [b8s_length] at this; omega
  refine enter (N := 8) Try.func59 rfl rfl (by simp) ?_
  refine cseq <| creg <| nq (y_assign rfl) <| nend <| qthen <| cseq <| cseq <| creg <| nq (y_move rfl) <| nq (y_eqSn rfl rfl Try.underlying44) <| nend <| qsub (sub_cons (t := 4) rfl <| sub_cons (t := 2) rfl <| sub_cons (t := 0) rfl <| sub_nil) <| qthen <| ?_
  cases A with
  | none =>
    have h0 : n = 0 := by
      rcases Nat.eq_zero_or_pos n with h | h
      · exact h
      · exact absurd rfl (hr.2.1 h)
    subst h0
    obtain rfl : l = [] := List.eq_nil_of_length_eq_zero hl
    refine cift rfl (rfl) ?_
    refine cseq <| creg <| nq (y_assign rfl) <| nend <| qthen <| cret <| qthen_ret <| ?_
    exact ret1 trivial rfl rfl ⟨_, rfl, Own.nil _ _ _ _, Fr.refl _ _⟩
  | some a =>
    refine ciff rfl (rfl) ?_
    refine cskip <| qthen <| cseq <| creg <| ?_
    refine nx (x_bsl0 Try.underlying44 ti5 fun g w1 hg hf1 hb1 => ?_)
    refine nq (y_move rfl) <| ?_
    refine nx (x_app rfl rfl Try.underlying44 Try.underlying44 (by exact .inl rfl) ti5 rfl (Own.made0 hb1 hg) (Src.of_rd (hr.fr0 hf1)) b8s_oneCell (by unfold maxLen; omega) (by omega) hf1.size fun v w2 ho hf2 hv => ?_)
    refine nq (y_assign rfl) <| nend <| qsub (sub_cons (t := 2) rfl <| sub_cons (t := 4) rfl <| sub_cons (t := 0) rfl <| sub_nil) <| qthen <| cret <| ?_
    refine ret1 trivial rfl rfl ⟨v, rfl, ?_, hf1.new hf2 (fun i hi => by have : i = g := hi; omega)⟩
    simpa using ho
end Go.Proofs.Ytflcokdkobhieaa
