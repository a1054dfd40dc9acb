/- Contracts of small functions on bytes and digests (as in my Hexa texts). -/
import Derived.Test.YtpcgpnijhpcbeaaTy
import Derived.Test.YtpcgpnijhpcbeaaEng7
import Derived.Test.YtpcgpnijhpcbeaaPlain3
set_option linter.unusedVariables false
set_option linter.unusedSimpArgs false
set_option maxRecDepth 20000
namespace Go.Proofs.Ytpcgpnijhpcbeaa
open Go.Eng Go.Hx
theorem few (A : Option Addr) (n c : Nat) (l : List UInt8) (m : Nat) (w : World) (hr : Rd w 1 A n (b8s l)) (hc : n ≤ c) (hn : n ≤ 140737488351232) :
    Calls Try.prog 17 #[.slice A n c, .int .i64 (m : Int)] w fun e w' => ∃ v, e = .returned v ∧ Own w' w.heap.size 5 1 v (min n m) (b8s (l.take m)) ∧ Fr No w w' := by
  have hl : l.length = n := by have := hr.1; rw [b8s_length] at this; omega
  have hrd : Rd w 1 A (min n m) (b8s (l.take m)) := by
    have := hr.take (k := min n m) (by omega)
    have e : (b8s l).take (min n m * 1) = b8s (l.take m) := by
      rw [b8s, b8s, ← List.map_take, Nat.mul_one]
      congr 1
      by_cases h : m ≤ n
      · congr 1; omega
      · rw [List.take_of_length_le (by omega), List.take_of_length_le (by omega)]
    rw [e] at this
    exact this
  refine enter (N := 14) Try.func17 rfl rfl (by simp) ?_
  refine cseq <| creg <| nq (y_assign rfl) <| nend <| qthen <| cseq <| creg <| nq (y_assign rfl) <| nend <| qthen <| cseq <| creg <| nq (y_move rfl) <| nq (y_move rfl) <| nq (y_move rfl) <| nq (y_lenS rfl Try.underlying29) <| nq (y_move rfl) <| nq (y_min rfl rfl) <| nq (y_slTo rfl rfl Try.underlying29 sz5 (show ((min n m : Nat) : Int) = _ by omega) ((by omega))) <| ?_
  refine nx (x_app rfl rfl Try.underlying29 Try.underlying29 (by exact .inl rfl) ti5 rfl (Own.nil w w.heap.size _ 1) (Src.of_rd hrd) b8s_one (by unfold maxLen; omega) (by omega) (by omega) fun v w1 ho hf hv => ?_)
  refine nq (y_assign rfl) <| nend <| qsub (sub_cons (t := 4) rfl <| sub_cons (t := 5) rfl <| sub_cons (t := 0) rfl <| sub_cons (t := 1) rfl <| sub_nil) <| qthen <| cret <| ?_
  refine ret1 trivial rfl rfl ⟨v, rfl, ?_, hf.mono (fun _ _ e => e.elim)⟩
  simpa using ho
def around (n m : Int) : Int := (if n < 0 then -(n + 1) else n) % m
theorem around_lt (n m : Int) (hm : 0 < m) : 0 ≤ around n m ∧ around n m < m := ⟨Int.emod_nonneg _ (by omega), Int.emod_lt_of_pos _ hm⟩
theorem around_c (n m : Int) (w : World) (h1 : -9223372036854775808 ≤ n) (h2 : n ≤ 9223372036854775807) (hm : 0 < m) :
    Calls Try.prog 13 #[.int .i64 n, .int .i64 m] w fun e w' => e = .returned (.int .i64 (around n m)) ∧ w = w' := by
  refine enter (N := 13) Try.func13 rfl rfl (by simp) ?_
  refine cseq <| creg <| nq (y_assign rfl) <| nend <| qthen <| cseq <| cseq <| creg <| nq (y_move rfl) <| nq (y_lss rfl rfl) <| nend <| qsub (sub_cons (t := 6) rfl <| sub_cons (t := 4) rfl <| sub_cons (t := 0) rfl <| sub_cons (t := 1) rfl <| sub_nil) <| qthen <| ?_
  refine cif rfl (fun h => ?_) (fun h => ?_)
  · refine creg <| nq (y_move rfl) <| nq (y_add rfl rfl (w64 (by omega) (by omega))) <| nq (y_neg rfl (w64 (by omega) (by omega))) <| nq (y_assign rfl) <| nend <| qsub (sub_cons (t := 0) rfl <| sub_cons (t := 6) rfl <| sub_cons (t := 4) rfl <| sub_cons (t := 1) rfl <| sub_nil) <| qthen <| cseq <| creg <| nq (y_move rfl) <| nq (y_move rfl) <| nq (y_rem rfl rfl (by omega) (by omega)) <| nq (y_assign rfl) <| nend <| qsub (sub_cons (t := 4) rfl <| sub_cons (t := 0) rfl <| sub_cons (t := 6) rfl <| sub_cons (t := 1) rfl <| sub_nil) <| qthen <| cret <| ?_
    refine ret1 trivial rfl rfl ⟨?_, rfl⟩
    simp only [around, if_pos h]
  · refine cskip <| qthen <| cseq <| creg <| nq (y_move rfl) <| nq (y_move rfl) <| nq (y_rem rfl rfl (by omega) (by omega)) <| nq (y_assign rfl) <| nend <| qsub (sub_cons (t := 4) rfl <| sub_cons (t := 6) rfl <| sub_cons (t := 0) rfl <| sub_cons (t := 1) rfl <| sub_nil) <| qthen <| cret <| ?_
    refine ret1 trivial rfl rfl ⟨?_, rfl⟩
    simp only [around, if_neg h]
theorem short_c (s : List UInt8) (m : Nat) (w : World) : Calls Try.prog 39 #[.string (strOf s), .int .i64 (m : Int)] w fun e w' => e = .returned (.string (strOf (s.take m))) ∧ w = w' := by
  refine enter (N := 13) Try.func39 rfl rfl (by simp) ?_
  refine cseq <| creg <| nq (y_assign rfl) <| nend <| qthen <| cseq <| cseq <| creg <| nq (y_move rfl) <| nq (y_lenStr rfl Try.underlying9) <| nq (y_move rfl) <| nq (y_gtr rfl rfl) <| nend <| qsub (sub_cons (t := 8) rfl <| sub_cons (t := 4) rfl <| sub_cons (t := 0) rfl <| sub_cons (t := 1) rfl <| sub_nil) <| qthen <| ?_
  refine cif rfl (fun h => ?_) (fun h => ?_)
  · rw [strOf_size] at h
    refine cseq <| creg <| nq (y_move rfl) <| nq (y_move rfl) <| nq (y_strTo rfl rfl Try.underlying9 rfl ((by rw [bytesOf_strOf]; omega))) <| nq (y_assign rfl) <| nend <| qsub (sub_cons (t := 4) rfl <| sub_cons (t := 8) rfl <| sub_cons (t := 0) rfl <| sub_cons (t := 1) rfl <| sub_nil) <| qthen <| cret <| qthen_ret <| ?_
    exact ret1 trivial rfl rfl ⟨rfl, rfl⟩
  · rw [strOf_size] at h
    refine cskip <| qthen <| cseq <| creg <| nq (y_move rfl) <| nq (y_assign rfl) <| nend <| qsub (sub_cons (t := 4) rfl <| sub_cons (t := 8) rfl <| sub_cons (t := 0) rfl <| sub_cons (t := 1) rfl <| sub_nil) <| qthen <| cret <| ?_
    refine ret1 trivial rfl rfl ⟨?_, rfl⟩
    rw [List.take_of_length_le (by omega)]
theorem bytesCompare (A : Option Addr) (n c : Nat) (l : List UInt8) (A' : Option Addr) (n' c' : Nat) (l' : List UInt8) (w : World) (h : Rd w 1 A n (b8s l)) (h' : Rd w 1 A' n' (b8s l')) :
    Calls Try.prog 74 #[.slice A n c, .slice A' n' c'] w fun e w' => e = .returned (.int .i64 (cb l l')) ∧ w = w' := by
  refine enter (N := 8) Try.func74 rfl rfl (by simp) ?_
  refine cseq <| creg <| nq (y_assign rfl) <| nend <| qthen <| cseq <| creg <| nq (y_move rfl) <| nq (y_move rfl) <| ?_
  refine nq (y_ext rfl Try.func83 (by kernel_rfl) (by kernel_rfl) (by kernel_rfl) (show _ = some Extern.BytealgCompare.compare by kernel_rfl) (run_compare h h')) ?_
  refine nq (y_assign rfl) <| nend <| qsub (sub_cons (t := 4) rfl <| sub_cons (t := 0) rfl <| sub_cons (t := 1) rfl <| sub_nil) <| qthen <| cret <| ?_
  exact ret1 trivial rfl rfl ⟨rfl, rfl⟩
theorem compare (a b : List UInt8) (w : World) (ha : a.length = 32) (hb : b.length = 32) :
    Calls Try.prog 59 #[.agg (b8s a).toArray, .agg (b8s b).toArray] w fun e w' => e = .returned (.int .i64 (cb a b)) ∧ Fr No w w' := by
  refine enter (N := 8) Try.func59 rfl rfl (by simp) ?_
  refine cseq <| creg <| ?_
  refine nx (x_box rfl fun g1 w1 hg1 hf1 hb1 => ?_)
  refine nx (x_box rfl fun g2 w2 hg2 hf2 hb2 => ?_)
  rw [cells_agg] at hb1 hb2
  refine nq (y_assign rfl) <| nend <| qthen <| cseq <| ?_
  refine cdrw [(0, false), (1, false), (2, true), (3, false)] (by kernel_rfl) (by kernel_rfl) rfl (fun w' => Fr No w2 w') (Fr.drew _) (fun w3 hf3 hS3 => ?_)
  refine sq (fun w_ hS_ => y_slArr rfl Try.underlying23 sz5) <| sq (fun w_ hS_ => y_slArr rfl Try.underlying23 sz5) <| ?_
  refine sx (x_call rfl Try.call74 (bytesCompare _ _ _ a _ _ _ b _ (Rd.of_blk ((hb1.fr0 hf2).fr0 hf3) (by rw [b8s_length]; omega)) (Rd.of_blk (hb2.fr0 hf3) (by rw [b8s_length]; omega))) ?_)
  rintro e_ w4 ⟨rfl, rfl⟩
  refine ⟨_, rfl, ?_⟩
  refine ⟨hS3, ?_⟩
  refine sq (fun w_ hS_ => y_assign rfl) <| send <| qsub (sub_cons (t := 4) rfl <| sub_cons (t := 3) rfl <| sub_cons (t := 2) rfl <| sub_cons (t := 0) rfl <| sub_cons (t := 1) rfl <| sub_nil) <| qthen <| cret <| ?_
  exact ret1 trivial rfl rfl ⟨rfl, (hf1.trans0 hf2).trans0 hf3⟩
theorem rcompare (a b : List UInt8) (w : World) (ha : a.length = 32) (hb : b.length = 32) :
    Calls Try.prog 55 #[.agg (b8s a).toArray, .agg (b8s b).toArray] w fun e w' => e = .returned (.int .i64 (cb a b)) ∧ Fr No w w' := by
  refine enter (N := 24) Try.func55 rfl rfl (by simp) ?_
  refine cseq <| creg <| ?_
  refine nx (x_box rfl fun g1 w1 hg1 hf1 hb1 => ?_)
  refine nx (x_box rfl fun g2 w2 hg2 hf2 hb2 => ?_)
  rw [cells_agg] at hb1 hb2
  refine nq (y_assign rfl) <| nend <| qthen <| cseq <| cseq <| creg <| nq (y_assign rfl) <| nend <| qthen <| cblock <| ?_
  refine cloop1 (fun k => 32 - k) (fun k => [(2, .pointer (some ⟨g1, 0, none⟩)), (3, .pointer (some ⟨g2, 0, none⟩)), (5, .int .i64 (k : Nat))]) (fun k w' => k ≤ 32 ∧ a.take k = b.take k ∧ Fr No w2 w') 0 (⟨Nat.zero_le _, rfl, Fr.refl _ _⟩) (sub_cons (t := 2) rfl <| sub_cons (t := 3) rfl <| sub_cons (t := 5) rfl <| sub_nil) (fun k w3 ⟨hk, hab, hf3⟩ => ?_)
  refine cseq <| cseq <| creg <| nq (y_move rfl) <| nq (y_lss rfl rfl) <| nend <| qsub (sub_cons (t := 7) rfl <| sub_cons (t := 2) rfl <| sub_cons (t := 3) rfl <| sub_cons (t := 5) rfl <| sub_nil) <| qthen <| ?_
  refine cif rfl (fun h => ?_) (fun h => ?_)
  · have hk2 : k < 32 := by omega
    have h1 : ∀ w', Fr No w2 w' → Blk w' g1 23 (b8s a) := fun w' f => (hb1.fr0 hf2).fr0 f
    have h2 : ∀ w', Fr No w2 w' → Blk w' g2 23 (b8s b) := fun w' f => hb2.fr0 f
    have ga := b8s_get (l := a) (i := k) (by omega)
    have gb := b8s_get (l := b) (i := k) (by omega)
    refine cskip <| qthen <| cseq <| cblock <| cseq <| cseq <| ?_
    refine cdrw [(0, false), (1, false), (2, false), (3, false), (4, false), (5, false), (6, false)] (by kernel_rfl) (by kernel_rfl) rfl (fun w' => Fr No w2 w') (hf3.trans0 (Fr.drew _)) (fun w4 hf4 hS4 => ?_)
    refine sq (fun w_ hS_ => y_move rfl) <| sq (fun w_ hS_ => y_idxA1 rfl rfl Try.underlying23 sz5 rfl (by omega)) <| sq (fun w_ hS_ => y_ld1 rfl ag5 (((h1 _ hS_).cells0 _ _ ga))) <| sq (fun w_ hS_ => y_move rfl) <| sq (fun w_ hS_ => y_idxA1 rfl rfl Try.underlying23 sz5 rfl (by omega)) <| sq (fun w_ hS_ => y_ld1 rfl ag5 (((h2 _ hS_).cells0 _ _ gb))) <| sq (fun w_ hS_ => y_lss rfl rfl) <| send <| qsub (sub_cons (t := 16) rfl <| sub_cons (t := 7) rfl <| sub_cons (t := 2) rfl <| sub_cons (t := 3) rfl <| sub_cons (t := 5) rfl <| sub_nil) <| qthen <| ?_
    refine cif rfl (fun hlt => ?_) (fun hlt => ?_)
    · refine cseq <| creg <| nq (y_assign rfl) <| nend <| qthen <| cret <| qthen_ret <| qblock_ret <| qthen_ret <| qthen_ret <| qblock_ret <| qthen_ret <| ?_
      refine ret1 trivial rfl rfl ⟨?_, (hf1.trans0 hf2).trans0 hS4⟩
      rw [cb_lt hab (by omega) (by omega) (show (a.getD k 0).toNat < (b.getD k 0).toNat by omega)]
    · refine cskip <| qthen <| cseq <| ?_
      refine cdrw [(0, false), (1, false), (2, false), (3, false), (4, false), (5, false), (6, false)] (by kernel_rfl) (by kernel_rfl) rfl (fun w' => Fr No w2 w') (hS4.trans0 (Fr.drew _)) (fun w5 hf5 hS5 => ?_)
      refine sq (fun w_ hS_ => y_move rfl) <| sq (fun w_ hS_ => y_idxA1 rfl rfl Try.underlying23 sz5 rfl (by omega)) <| sq (fun w_ hS_ => y_ld1 rfl ag5 (((h1 _ hS_).cells0 _ _ ga))) <| sq (fun w_ hS_ => y_move rfl) <| sq (fun w_ hS_ => y_idxA1 rfl rfl Try.underlying23 sz5 rfl (by omega)) <| sq (fun w_ hS_ => y_ld1 rfl ag5 (((h2 _ hS_).cells0 _ _ gb))) <| sq (fun w_ hS_ => y_gtr rfl rfl) <| send <| qsub (sub_cons (t := 23) rfl <| sub_cons (t := 16) rfl <| sub_cons (t := 7) rfl <| sub_cons (t := 2) rfl <| sub_cons (t := 3) rfl <| sub_cons (t := 5) rfl <| sub_nil) <| qthen <| ?_
      refine cif rfl (fun hgt => ?_) (fun hgt => ?_)
      · refine cseq <| creg <| nq (y_assign rfl) <| nend <| qthen <| cret <| qblock_ret <| qthen_ret <| qthen_ret <| qblock_ret <| qthen_ret <| ?_
        refine ret1 trivial rfl rfl ⟨?_, (hf1.trans0 hf2).trans0 hS5⟩
        rw [cb_gt hab (by omega) (by omega) (show (b.getD k 0).toNat < (a.getD k 0).toNat by omega)]
      · refine cskip <| qblock <| qthen <| creg <| nq (y_move rfl) <| nq (y_add rfl rfl (w64 (by omega) (by omega))) <| nq (y_assign rfl) <| nend <| qsub (sub_cons (t := 5) rfl <| sub_cons (t := 23) rfl <| sub_cons (t := 16) rfl <| sub_cons (t := 7) rfl <| sub_cons (t := 2) rfl <| sub_cons (t := 3) rfl <| sub_nil) <| ?_
        refine qloop1 (k + 1) (sub_cons (t := 2) rfl <| sub_cons (t := 3) rfl <| sub_cons (t := 5) rfl <| sub_nil) (⟨by omega, take_step hab (by omega) (by omega) (fun q => hlt (by have : (a.getD k 0).toNat < (b.getD k 0).toNat := q; omega)) (fun q => hgt (by have : (b.getD k 0).toNat < (a.getD k 0).toNat := q; omega)), hS5⟩) (by omega)
  · obtain rfl : k = 32 := by omega
    refine cexit <| qthen_exit <| qthen_exit <| qblock_exit <| qthen <| cseq <| creg <| nq (y_assign rfl) <| nend <| qthen <| cret <| ?_
    refine ret1 trivial rfl rfl ⟨?_, (hf1.trans0 hf2).trans0 hf3⟩
    rw [List.take_of_length_le (by omega), List.take_of_length_le (by omega)] at hab
    rw [hab, cb_self]
theorem less (a b : List UInt8) (w : World) (ha : a.length = 32) (hb : b.length = 32) :
    Calls Try.prog 57 #[.agg (b8s a).toArray, .agg (b8s b).toArray] w fun e w' => e = .returned (.bool (decide (cb a b < 0))) ∧ Fr No w w' := by
  refine enter (N := 9) Try.func57 rfl rfl (by simp) ?_
  refine cseq <| creg <| ?_
  refine nx (x_box rfl fun g1 w1 hg1 hf1 hb1 => ?_)
  refine nx (x_box rfl fun g2 w2 hg2 hf2 hb2 => ?_)
  rw [cells_agg] at hb1 hb2
  refine nq (y_assign rfl) <| nend <| qthen <| cseq <| creg <| nq (y_ldN rfl ag23 sz23 ((by rw [b8s_length]; exact ha)) (((hb1.fr0 hf2).cells0))) <| nq (y_ldN rfl ag23 sz23 ((by rw [b8s_length]; exact hb)) hb2.cells0) <| ?_
  refine nx (x_call rfl Try.call59 (compare a b _ ha hb) ?_)
  rintro e_ w3 ⟨rfl, hf3⟩
  refine ⟨_, rfl, ?_⟩
  refine nq (y_lss rfl rfl) <| nq (y_assign rfl) <| nend <| qsub (sub_cons (t := 4) rfl <| sub_cons (t := 3) rfl <| sub_cons (t := 2) rfl <| sub_cons (t := 0) rfl <| sub_cons (t := 1) rfl <| sub_nil) <| qthen <| cret <| ?_
  exact ret1 trivial rfl rfl ⟨rfl, (hf1.trans0 hf2).trans0 hf3⟩
theorem take_drop_set {a b : List UInt8} {j n : Nat} (ha : a.length = n) (hb : b.length = n) (hj : j < n) : (a.take j ++ b.drop j).set j (a.getD j 0) = a.take (j + 1) ++ b.drop (j + 1) := by
  rw [List.set_append, if_neg (by rw [List.length_take]; omega), List.length_take, Nat.min_eq_left (by omega), Nat.sub_self, take_snoc (by omega), List.append_assoc]
  congr 1
  rw [List.drop_eq_getElem_cons (by omega)]
  rfl
theorem zeros_eq : (Value.agg (b8s (List.replicate 32 0)).toArray).cells.toList = b8s (List.replicate 32 0) := rfl
theorem of (A : Option Addr) (c : Nat) (l : List UInt8) (w : World) (hr : Rd w 1 A 32 (b8s l)) :
    Calls Try.prog 67 #[.slice A 32 c] w fun e w' => e = .returned (.agg (b8s l).toArray) ∧ Fr No w w' := by
  have hl : l.length = 32 := by have := hr.1; rw [b8s_length] at this; omega
  refine enter (N := 16) Try.func67 rfl rfl (by simp) ?_
  refine cseq <| creg <| ?_
  refine nx (x_alloc ti23 fun g1 w1 hg1 hf1 hb1 => ?_)
  refine nend <| qthen <| cseq <| creg <| ?_
  refine nx (x_alloc ti23 fun g2 w2 hg2 hf2 hb2 => ?_)
  rw [zeros_eq] at hb1 hb2
  have hlt := hb1.lt
  refine nend <| qthen <| cseq <| cseq <| creg <| nq (y_assign rfl) <| nend <| qthen <| cblock <| ?_
  refine cloop1 (fun j => 32 - j) (fun j => [(0, .slice A 32 c), (2, .pointer (some ⟨g1, 0, none⟩)), (3, .pointer (some ⟨g2, 0, none⟩)), (4, .int .i64 (j : Nat))]) (fun j w' => j ≤ 32 ∧ Fr No w w' ∧ Blk w' g1 23 (b8s (List.replicate 32 0)) ∧ Blk w' g2 23 (b8s (l.take j ++ (List.replicate 32 0).drop j))) 0 (⟨Nat.zero_le _, hf1.trans0 hf2, hb1.fr0 hf2, hb2⟩) (sub_cons (t := 0) rfl <| sub_cons (t := 2) rfl <| sub_cons (t := 3) rfl <| sub_cons (t := 4) rfl <| sub_nil) (fun j w4 ⟨hj, hf4, i1, i2⟩ => ?_)
  refine cseq <| cseq <| creg <| nq (y_move rfl) <| nq (y_lss rfl rfl) <| nend <| qsub (sub_cons (t := 6) rfl <| sub_cons (t := 0) rfl <| sub_cons (t := 2) rfl <| sub_cons (t := 3) rfl <| sub_cons (t := 4) rfl <| sub_nil) <| qthen <| ?_
  refine cif rfl (fun h => ?_) (fun h => ?_)
  · have ga := b8s_get (l := l) (i := j) (by omega)
    have hlen : (l.take j ++ (List.replicate 32 (0 : UInt8)).drop j).length = 32 := by rw [List.length_append, List.length_take, List.length_drop, List.length_replicate]; omega
    have r4 := hr.fr0 hf4
    refine cskip <| qthen <| cseq <| cblock <| creg <| nq (y_move rfl) <| nq (y_move rfl) <| nq (y_move rfl) <| nq (y_idxS1 rfl rfl Try.underlying29 sz5 r4.2.1 rfl (by omega)) <| nq (y_ld1 rfl ag5 (r4.cell ga)) <| nq (y_idxA1 rfl rfl Try.underlying23 sz5 rfl (by omega)) <| ?_
    refine nx0 (x_st1a rfl rfl sz5 rfl i2 (by rw [b8s_length]; omega) fun w5 hf5 i2' hs5 => ?_)
    rw [Nat.zero_add, ← b8s_set, take_drop_set hl (List.length_replicate ..) (by omega)] at i2'
    refine nend <| qsub (sub_cons (t := 6) rfl <| sub_cons (t := 0) rfl <| sub_cons (t := 2) rfl <| sub_cons (t := 3) rfl <| sub_cons (t := 4) rfl <| sub_nil) <| qblock <| qthen <| creg <| nq (y_move rfl) <| nq (y_add rfl rfl (w64 (by omega) (by omega))) <| nq (y_assign rfl) <| nend <| qsub (sub_cons (t := 4) rfl <| sub_cons (t := 6) rfl <| sub_cons (t := 0) rfl <| sub_cons (t := 2) rfl <| sub_cons (t := 3) rfl <| sub_nil) <| ?_
    refine qloop1 (j + 1) (sub_cons (t := 0) rfl <| sub_cons (t := 2) rfl <| sub_cons (t := 3) rfl <| sub_cons (t := 4) rfl <| sub_nil) (⟨by omega, hf4.new hf5 (fun i hi => by have := hf1.size; omega), i1.fr hf5 (by omega), i2'⟩) (by omega)
  · obtain rfl : j = 32 := by omega
    have e : l.take 32 ++ (List.replicate 32 (0 : UInt8)).drop 32 = l := by
      rw [List.take_of_length_le (by omega), List.drop_of_length_le (by simp)]; simp
    rw [e] at i2
    refine cexit <| qthen_exit <| qthen_exit <| qblock_exit <| qthen <| cseq <| creg <| nq (y_ldN rfl ag23 sz23 ((by rw [b8s_length]; exact hl)) i2.cells0) <| ?_
    refine nx0 (x_stD rfl rfl sz23 hl i1 (by rw [b8s_length]; simp) fun w5 hf5 i1' hs5 => ?_)
    refine nend <| qsub (sub_cons (t := 6) rfl <| sub_cons (t := 0) rfl <| sub_cons (t := 2) rfl <| sub_cons (t := 3) rfl <| sub_cons (t := 4) rfl <| sub_nil) <| qthen <| cret <| ?_
    exact retN trivial rfl rfl ag23 sz23 (by rw [b8s_length]; exact hl) i1'.cells0 ⟨rfl, hf4.new hf5 (fun i hi => by omega)⟩
theorem bytes (a : List UInt8) (w : World) (ha : a.length = 32) :
    Calls Try.prog 41 #[.agg (b8s a).toArray] w fun e w' => ∃ v, e = .returned v ∧ Own w' w.heap.size 5 1 v 32 (b8s a) ∧ Fr No w w' := by
  refine enter (N := 16) Try.func41 rfl rfl (by simp) ?_
  refine cseq <| creg <| ?_
  refine nx (x_box rfl fun g1 w1 hg1 hf1 hb1 => ?_)
  rw [cells_agg] at hb1
  refine nq (y_assign rfl) <| nend <| qthen <| cseq <| creg <| nq (y_assign rfl) <| nend <| qthen <| cseq <| cseq <| creg <| nq (y_assign rfl) <| nend <| qthen <| cblock <| ?_
  refine cloop2 (fun k _ => 32 - k) (fun k v => [(1, .pointer (some ⟨g1, 0, none⟩)), (3, v), (4, .int .i64 (k : Nat))]) (fun k v w' => k ≤ 32 ∧ Own w' w1.heap.size 5 1 v k (b8s (a.take k)) ∧ Fr No w1 w') 0 (.slice none 0 0) (⟨Nat.zero_le _, Own.nil w1 w1.heap.size _ 1, Fr.refl _ _⟩) (sub_cons (t := 1) rfl <| sub_cons (t := 3) rfl <| sub_cons (t := 4) rfl <| sub_nil) (fun k v w2 ⟨hk, ho, hf⟩ => ?_)
  refine cseq <| cseq <| creg <| nq (y_move rfl) <| nq (y_lss rfl rfl) <| nend <| qsub (sub_cons (t := 6) rfl <| sub_cons (t := 1) rfl <| sub_cons (t := 3) rfl <| sub_cons (t := 4) rfl <| sub_nil) <| qthen <| ?_
  refine cif rfl (fun h => ?_) (fun h => ?_)
  · have ga := b8s_get (l := a) (i := k) (by omega)
    refine cskip <| qthen <| cseq <| cblock <| creg <| nq (y_move rfl) <| nq (y_move rfl) <| nq (y_idxA1 rfl rfl Try.underlying23 sz5 rfl (by omega)) <| nq (y_ld1 rfl ag5 ((hb1.fr0 hf).cells0 _ _ ga)) <| ?_
    refine nx (x_bsl Try.underlying29 ti5 rfl rfl rfl (by simp [Value.cells, B8]) (by decide) (by decide) fun g w3 hg hf3 hb3 => ?_)
    refine nx (x_app rfl rfl Try.underlying29 Try.underlying29 (by exact .inl rfl) ti5 rfl (ho.fr0 hf3) (Src.of_blk hb3 rfl) (b8s_one (l := [_])) (by unfold maxLen; omega) (by omega) (hf.trans0 hf3).size fun v4 w4 ho4 hf4 hv4 => ?_)
    refine nq (y_assign rfl) <| nend <| qsub (sub_cons (t := 3) rfl <| sub_cons (t := 6) rfl <| sub_cons (t := 1) rfl <| sub_cons (t := 4) rfl <| sub_nil) <| qblock <| qthen <| creg <| nq (y_move rfl) <| nq (y_add rfl rfl (w64 (by omega) (by omega))) <| nq (y_assign rfl) <| nend <| qsub (sub_cons (t := 4) rfl <| sub_cons (t := 3) rfl <| sub_cons (t := 6) rfl <| sub_cons (t := 1) rfl <| sub_nil) <| ?_
    refine qloop2 (k + 1) v4 (sub_cons (t := 1) rfl <| sub_cons (t := 3) rfl <| sub_cons (t := 4) rfl <| sub_nil) (⟨by omega, by rw [take_snoc (by omega), b8s_append]; exact ho4, (hf.trans0 hf3).new hf4 (fun i hi => (ho.from hi).1)⟩) (by omega)
  · obtain rfl : k = 32 := by omega
    refine cexit <| qthen_exit <| qthen_exit <| qblock_exit <| qthen <| cseq <| creg <| nq (y_move rfl) <| nq (y_assign rfl) <| nend <| qsub (sub_cons (t := 2) rfl <| sub_cons (t := 6) rfl <| sub_cons (t := 1) rfl <| sub_cons (t := 3) rfl <| sub_cons (t := 4) rfl <| sub_nil) <| qthen <| cret <| ?_
    rw [List.take_of_length_le (by omega)] at ho
    exact ret1 trivial rfl rfl ⟨v, rfl, ho.wide hf1.size, hf1.trans0 hf⟩
end Go.Proofs.Ytpcgpnijhpcbeaa
