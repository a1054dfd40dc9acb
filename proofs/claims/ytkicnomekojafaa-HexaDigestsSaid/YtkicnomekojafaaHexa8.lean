/- Contracts: how digests stand; a digest's text; the law HexaRow. -/
import Derived.Test.YtkicnomekojafaaHexa3
import Derived.Test.YtkicnomekojafaaHexa4
import Derived.Test.YtkicnomekojafaaPlain3
set_option linter.unusedVariables false
set_option linter.unusedSimpArgs false
namespace Go.Proofs.Ytkicnomekojafaa
open Go.Eng Go.Hx
theorem bytesCompare (A : Option Addr) (n c : Nat) (l : List UInt8) (A' : Option Addr) (n' c' : Nat) (l' : List UInt8) (w : World) (h : Rd w 1 A n (b8s l)) (h' : Rd w 1 A' n' (b8s l')) :
    Calls Try.prog 25 #[.slice A n c, .slice A' n' c'] w fun e w' => e = .returned (.int .i64 (cb l l')) ∧ w = w' := by
  refine enter (N := 8) Try.func25 rfl rfl (by simp) ?_
  refine cseq <| creg <| nq (y_assign rfl) <| nend <| qthen <| cseq <| creg <| nq (y_move rfl) <| nq (y_move rfl) <| ?_
  refine nq (y_ext rfl Try.func30 (by kernel_rfl) (by kernel_rfl) (by kernel_rfl) (show _ = some Extern.BytealgCompare.compare by kernel_rfl) (run_compare h h')) ?_
  refine nq (y_assign rfl) <| nend <| qsub (sub_cons (t := 4) rfl <| sub_cons (t := 0) rfl <| sub_cons (t := 1) rfl <| sub_nil) <| qthen <| cret <| ?_
  exact ret1 trivial rfl rfl ⟨rfl, rfl⟩
theorem compare (a b : List UInt8) (w : World) (ha : a.length = 32) (hb : b.length = 32) :
    Calls Try.prog 12 #[.agg (b8s a).toArray, .agg (b8s b).toArray] w fun e w' => e = .returned (.int .i64 (cb a b)) ∧ Fr No w w' := by
  refine enter (N := 8) Try.func12 rfl rfl (by simp) ?_
  refine cseq <| creg <| ?_
  refine nx (x_box rfl fun g1 w1 hg1 hf1 hb1 => ?_)
  refine nx (x_box rfl fun g2 w2 hg2 hf2 hb2 => ?_)
  rw [cells_agg] at hb1 hb2
  refine nq (y_assign rfl) <| nend <| qthen <| cseq <| ?_
  refine cdrw [(0, false), (1, false), (2, true), (3, false)] (by kernel_rfl) (by kernel_rfl) rfl (fun w' => Fr No w2 w') (Fr.drew _) (fun w3 hf3 hS3 => ?_)
  refine sq (fun w_ hS_ => y_slArr rfl Try.underlying28 sz5) <| sq (fun w_ hS_ => y_slArr rfl Try.underlying28 sz5) <| ?_
  refine sx (x_call rfl Try.call25 (bytesCompare _ _ _ a _ _ _ b _ (Rd.of_blk ((hb1.fr0 hf2).fr0 hf3) (by rw [b8s_length]; omega)) (Rd.of_blk (hb2.fr0 hf3) (by rw [b8s_length]; omega))) ?_)
  rintro e_ w4 ⟨rfl, rfl⟩
  refine ⟨_, rfl, ?_⟩
  refine ⟨hS3, ?_⟩
  refine sq (fun w_ hS_ => y_assign rfl) <| send <| qsub (sub_cons (t := 4) rfl <| sub_cons (t := 3) rfl <| sub_cons (t := 2) rfl <| sub_cons (t := 0) rfl <| sub_cons (t := 1) rfl <| sub_nil) <| qthen <| cret <| ?_
  exact ret1 trivial rfl rfl ⟨rfl, (hf1.trans0 hf2).trans0 hf3⟩
theorem rcompare (a b : List UInt8) (w : World) (ha : a.length = 32) (hb : b.length = 32) :
    Calls Try.prog 13 #[.agg (b8s a).toArray, .agg (b8s b).toArray] w fun e w' => e = .returned (.int .i64 (cb a b)) ∧ Fr No w w' := by
  refine enter (N := 24) Try.func13 rfl rfl (by simp) ?_
  refine cseq <| creg <| ?_
  refine nx (x_box rfl fun g1 w1 hg1 hf1 hb1 => ?_)
  refine nx (x_box rfl fun g2 w2 hg2 hf2 hb2 => ?_)
  rw [cells_agg] at hb1 hb2
  refine nq (y_assign rfl) <| nend <| qthen <| cseq <| cseq <| creg <| nq (y_assign rfl) <| nend <| qthen <| cblock <| ?_
  refine cloop1 (fun k => 32 - k) (fun k => [(2, .pointer (some ⟨g1, 0, none⟩)), (3, .pointer (some ⟨g2, 0, none⟩)), (5, .int .i64 (k : Nat))]) (fun k w' => k ≤ 32 ∧ a.take k = b.take k ∧ Fr No w2 w') 0 (⟨Nat.zero_le _, rfl, Fr.refl _ _⟩) (sub_cons (t := 2) rfl <| sub_cons (t := 3) rfl <| sub_cons (t := 5) rfl <| sub_nil) (fun k w3 ⟨hk, hab, hf3⟩ => ?_)
  refine cseq <| cseq <| creg <| nq (y_move rfl) <| nq (y_lss rfl rfl) <| nend <| qsub (sub_cons (t := 7) rfl <| sub_cons (t := 2) rfl <| sub_cons (t := 3) rfl <| sub_cons (t := 5) rfl <| sub_nil) <| qthen <| ?_
  refine cif rfl (fun h => ?_) (fun h => ?_)
  · have hk2 : k < 32 := by omega
    have h1 : ∀ w', Fr No w2 w' → Blk w' g1 28 (b8s a) := fun w' f => (hb1.fr0 hf2).fr0 f
    have h2 : ∀ w', Fr No w2 w' → Blk w' g2 28 (b8s b) := fun w' f => hb2.fr0 f
    have ga := b8s_get (l := a) (i := k) (by omega)
    have gb := b8s_get (l := b) (i := k) (by omega)
    refine cskip <| qthen <| cseq <| cblock <| cseq <| cseq <| ?_
    refine cdrw [(0, false), (1, false), (2, false), (3, false), (4, false), (5, false), (6, false)] (by kernel_rfl) (by kernel_rfl) rfl (fun w' => Fr No w2 w') (hf3.trans0 (Fr.drew _)) (fun w4 hf4 hS4 => ?_)
    refine sq (fun w_ hS_ => y_move rfl) <| sq (fun w_ hS_ => y_idxA1 rfl rfl Try.underlying28 sz5 rfl (by omega)) <| sq (fun w_ hS_ => y_ld1 rfl ag5 (((h1 _ hS_).cells0 _ _ ga))) <| sq (fun w_ hS_ => y_move rfl) <| sq (fun w_ hS_ => y_idxA1 rfl rfl Try.underlying28 sz5 rfl (by omega)) <| sq (fun w_ hS_ => y_ld1 rfl ag5 (((h2 _ hS_).cells0 _ _ gb))) <| sq (fun w_ hS_ => y_lss rfl rfl) <| send <| qsub (sub_cons (t := 16) rfl <| sub_cons (t := 7) rfl <| sub_cons (t := 2) rfl <| sub_cons (t := 3) rfl <| sub_cons (t := 5) rfl <| sub_nil) <| qthen <| ?_
    refine cif rfl (fun hlt => ?_) (fun hlt => ?_)
    · refine cseq <| creg <| nq (y_assign rfl) <| nend <| qthen <| cret <| qthen_ret <| qblock_ret <| qthen_ret <| qthen_ret <| qblock_ret <| qthen_ret <| ?_
      refine ret1 trivial rfl rfl ⟨?_, (hf1.trans0 hf2).trans0 hS4⟩
      rw [cb_lt hab (by omega) (by omega) (show (a.getD k 0).toNat < (b.getD k 0).toNat by omega)]
    · refine cskip <| qthen <| cseq <| ?_
      refine cdrw [(0, false), (1, false), (2, false), (3, false), (4, false), (5, false), (6, false)] (by kernel_rfl) (by kernel_rfl) rfl (fun w' => Fr No w2 w') (hS4.trans0 (Fr.drew _)) (fun w5 hf5 hS5 => ?_)
      refine sq (fun w_ hS_ => y_move rfl) <| sq (fun w_ hS_ => y_idxA1 rfl rfl Try.underlying28 sz5 rfl (by omega)) <| sq (fun w_ hS_ => y_ld1 rfl ag5 (((h1 _ hS_).cells0 _ _ ga))) <| sq (fun w_ hS_ => y_move rfl) <| sq (fun w_ hS_ => y_idxA1 rfl rfl Try.underlying28 sz5 rfl (by omega)) <| sq (fun w_ hS_ => y_ld1 rfl ag5 (((h2 _ hS_).cells0 _ _ gb))) <| sq (fun w_ hS_ => y_gtr rfl rfl) <| send <| qsub (sub_cons (t := 23) rfl <| sub_cons (t := 16) rfl <| sub_cons (t := 7) rfl <| sub_cons (t := 2) rfl <| sub_cons (t := 3) rfl <| sub_cons (t := 5) rfl <| sub_nil) <| qthen <| ?_
      refine cif rfl (fun hgt => ?_) (fun hgt => ?_)
      · refine cseq <| creg <| nq (y_assign rfl) <| nend <| qthen <| cret <| qblock_ret <| qthen_ret <| qthen_ret <| qblock_ret <| qthen_ret <| ?_
        refine ret1 trivial rfl rfl ⟨?_, (hf1.trans0 hf2).trans0 hS5⟩
        rw [cb_gt hab (by omega) (by omega) (show (b.getD k 0).toNat < (a.getD k 0).toNat by omega)]
      · refine cskip <| qblock <| qthen <| creg <| nq (y_move rfl) <| nq (y_add rfl rfl (w64 (by omega) (by omega))) <| nq (y_assign rfl) <| nend <| qsub (sub_cons (t := 5) rfl <| sub_cons (t := 23) rfl <| sub_cons (t := 16) rfl <| sub_cons (t := 7) rfl <| sub_cons (t := 2) rfl <| sub_cons (t := 3) rfl <| sub_nil) <| ?_
        refine qloop1 (k + 1) (sub_cons (t := 2) rfl <| sub_cons (t := 3) rfl <| sub_cons (t := 5) rfl <| sub_nil) (⟨by omega, take_step hab (by omega) (by omega) (fun q => hlt (by have : (a.getD k 0).toNat < (b.getD k 0).toNat := q; omega)) (fun q => hgt (by have : (b.getD k 0).toNat < (a.getD k 0).toNat := q; omega)), hS5⟩) (by omega)
  · obtain rfl : k = 32 := by omega
    refine cexit <| qthen_exit <| qthen_exit <| qblock_exit <| qthen <| cseq <| creg <| nq (y_assign rfl) <| nend <| qthen <| cret <| ?_
    refine ret1 trivial rfl rfl ⟨?_, (hf1.trans0 hf2).trans0 hf3⟩
    rw [List.take_of_length_le (by omega), List.take_of_length_le (by omega)] at hab
    rw [hab, cb_self]
theorem less (a b : List UInt8) (w : World) (ha : a.length = 32) (hb : b.length = 32) :
    Calls Try.prog 14 #[.agg (b8s a).toArray, .agg (b8s b).toArray] w fun e w' => e = .returned (.bool (decide (cb a b < 0))) ∧ Fr No w w' := by
  refine enter (N := 9) Try.func14 rfl rfl (by simp) ?_
  refine cseq <| creg <| ?_
  refine nx (x_box rfl fun g1 w1 hg1 hf1 hb1 => ?_)
  refine nx (x_box rfl fun g2 w2 hg2 hf2 hb2 => ?_)
  rw [cells_agg] at hb1 hb2
  refine nq (y_assign rfl) <| nend <| qthen <| cseq <| creg <| nq (y_ldN rfl ag28 sz28 ((by rw [b8s_length]; exact ha)) (((hb1.fr0 hf2).cells0))) <| nq (y_ldN rfl ag28 sz28 ((by rw [b8s_length]; exact hb)) hb2.cells0) <| ?_
  refine nx (x_call rfl Try.call12 (compare a b _ ha hb) ?_)
  rintro e_ w3 ⟨rfl, hf3⟩
  refine ⟨_, rfl, ?_⟩
  refine nq (y_lss rfl rfl) <| nq (y_assign rfl) <| nend <| qsub (sub_cons (t := 4) rfl <| sub_cons (t := 3) rfl <| sub_cons (t := 2) rfl <| sub_cons (t := 0) rfl <| sub_cons (t := 1) rfl <| sub_nil) <| qthen <| cret <| ?_
  exact ret1 trivial rfl rfl ⟨rfl, (hf1.trans0 hf2).trans0 hf3⟩
theorem name (a : List UInt8) (w : World) (ha : a.length = 32) :
    Calls Try.prog 15 #[.agg (b8s a).toArray] w fun e w' => e = .returned (.string (strOf (hexs a))) ∧ Fr No w w' := by
  refine enter (N := 5) Try.func15 rfl rfl (by simp) ?_
  refine cseq <| creg <| ?_
  refine nx (x_box rfl fun g1 w1 hg1 hf1 hb1 => ?_)
  rw [cells_agg] at hb1
  refine nq (y_assign rfl) <| nend <| qthen <| cseq <| creg <| nq (y_slArr rfl Try.underlying28 sz5) <| ?_
  refine nx (x_call rfl Try.call9 (text _ _ _ a _ (Rd.of_blk hb1 (by rw [b8s_length]; omega)) (by omega)) ?_)
  rintro e_ w2 ⟨rfl, hf2⟩
  refine ⟨_, rfl, ?_⟩
  refine nq (y_assign rfl) <| nend <| qsub (sub_cons (t := 2) rfl <| sub_cons (t := 1) rfl <| sub_cons (t := 0) rfl <| sub_nil) <| qthen <| cret <| ?_
  exact ret1 trivial rfl rfl ⟨rfl, hf1.trans0 hf2⟩
theorem cb_zero (a b : List UInt8) : (decide (cb a b = 0) == decide (a = b)) = true := by
  by_cases hab : a = b
  · subst hab; simp [cb_self]
  · have : ¬ cb a b = 0 := fun h => hab (cb_eq _ _ h)
    simp [hab, this]
theorem less_hexs (a b : List UInt8) : (Op.bytesLess (strOf (hexs a)).toList (strOf (hexs b)).toList == decide (cb a b < 0)) = true := by
  rw [Lib.toList_data, Lib.toList_data, less_cb]
  show (decide (cb (hexs a) (hexs b) < 0) == _) = true
  rw [cb_hexs]
  simp
theorem take_drop_set {a b : List UInt8} {j n : Nat} (ha : a.length = n) (hb : b.length = n) (hj : j < n) : (a.take j ++ b.drop j).set j (a.getD j 0) = a.take (j + 1) ++ b.drop (j + 1) := by
  rw [List.set_append, if_neg (by rw [List.length_take]; omega), List.length_take, Nat.min_eq_left (by omega), Nat.sub_self, take_snoc (by omega), List.append_assoc]
  congr 1
  rw [List.drop_eq_getElem_cons (by omega)]
  rfl
theorem hexaRow (a b c : List UInt8) (z : Int) (w : World) (ha : a.length = 32) (hb : b.length = 32) (hc : c.length = 32) (hz : -9223372036854775808 ≤ z ∧ z ≤ 9223372036854775807) :
    Calls Try.prog 4 #[.agg (b8s a).toArray, .agg (b8s b).toArray, .agg (b8s c).toArray, .int .i64 z] w fun e w' => e = .returned (.bool true) ∧ Fr No w w' := by
  refine enter (N := 87) Try.func4 rfl rfl (by simp) ?_
  refine cseq <| creg <| ?_
  refine nx (x_box rfl fun g1 w1 hg1 hf1 hb1 => ?_)
  refine nx (x_box rfl fun g2 w2 hg2 hf2 hb2 => ?_)
  refine nx (x_box rfl fun g3 w3 hg3 hf3 hb3 => ?_)
  rw [cells_agg] at hb1 hb2 hb3
  have h12 := hb1.lt
  have h23 := hb2.lt
  refine nq (y_assign rfl) <| nend <| qthen <| cseq <| creg <| nq (y_move rfl) <| ?_
  refine nx (x_call rfl Try.call11 (around_c z 33 w3 hz.1 hz.2 (by omega)) ?_)
  rintro e_ w4 ⟨rfl, rfl⟩
  refine ⟨_, rfl, ?_⟩
  have har := around_lt z 33 (by omega)
  generalize hq : around z 33 = q at har
  obtain ⟨k, rfl⟩ : ∃ k : Nat, q = k := ⟨q.toNat, by omega⟩
  refine nq (y_assign rfl) <| nend <| qsub (sub_cons (t := 9) rfl <| sub_cons (t := 8) rfl <| sub_cons (t := 6) rfl <| sub_cons (t := 5) rfl <| sub_cons (t := 4) rfl <| sub_cons (t := 0) rfl <| sub_cons (t := 1) rfl <| sub_cons (t := 2) rfl <| sub_cons (t := 3) rfl <| sub_nil) <| qthen <| cseq <| cseq <| creg <| nq (y_assign rfl) <| nend <| qthen <| cblock <| ?_
  refine cloop1 (fun j => k - j) (fun j => [(3, .int .i64 z), (4, .pointer (some ⟨g1, 0, none⟩)), (5, .pointer (some ⟨g2, 0, none⟩)), (6, .pointer (some ⟨g3, 0, none⟩)), (9, .int .i64 (k : Nat)), (10, .int .i64 (j : Nat))]) (fun j w' => j ≤ k ∧ Fr No w w' ∧ Blk w' g1 28 (b8s a) ∧ Blk w' g2 28 (b8s (a.take j ++ b.drop j)) ∧ Blk w' g3 28 (b8s c)) 0 (⟨Nat.zero_le _, (hf1.trans0 hf2).trans0 hf3, (hb1.fr0 hf2).fr0 hf3, hb2.fr0 hf3, hb3⟩) (sub_cons (t := 3) rfl <| sub_cons (t := 4) rfl <| sub_cons (t := 5) rfl <| sub_cons (t := 6) rfl <| sub_cons (t := 9) rfl <| sub_cons (t := 10) rfl <| sub_nil) (fun j w4 ⟨hj, hf4, i1, i2, i3⟩ => ?_)
  refine cseq <| cseq <| creg <| nq (y_move rfl) <| nq (y_move rfl) <| nq (y_lss rfl rfl) <| nend <| qsub (sub_cons (t := 17) rfl <| sub_cons (t := 3) rfl <| sub_cons (t := 4) rfl <| sub_cons (t := 5) rfl <| sub_cons (t := 6) rfl <| sub_cons (t := 9) rfl <| sub_cons (t := 10) rfl <| sub_nil) <| qthen <| ?_
  refine cif rfl (fun h => ?_) (fun h => ?_)
  · have ga := b8s_get (l := a) (i := j) (by omega)
    have hlen : (a.take j ++ b.drop j).length = 32 := by simp; omega
    refine cskip <| qthen <| cseq <| cblock <| creg <| nq (y_move rfl) <| nq (y_move rfl) <| nq (y_idxA1 rfl rfl Try.underlying28 sz5 rfl (by omega)) <| nq (y_ld1 rfl ag5 ((i1.cells0 _ _ ga))) <| nq (y_idxA1 rfl rfl Try.underlying28 sz5 rfl (by omega)) <| ?_
    refine nx0 (x_st1a rfl rfl sz5 rfl i2 (by rw [b8s_length]; omega) fun w5 hf5 i2' hs5 => ?_)
    rw [Nat.zero_add, ← b8s_set, take_drop_set ha hb (by omega)] at i2'
    have l1 := i1.lt
    refine nend <| qsub (sub_cons (t := 17) rfl <| sub_cons (t := 3) rfl <| sub_cons (t := 4) rfl <| sub_cons (t := 5) rfl <| sub_cons (t := 6) rfl <| sub_cons (t := 9) rfl <| sub_cons (t := 10) rfl <| sub_nil) <| qblock <| qthen <| creg <| nq (y_move rfl) <| nq (y_add rfl rfl (w64 (by omega) (by omega))) <| nq (y_assign rfl) <| nend <| qsub (sub_cons (t := 10) rfl <| sub_cons (t := 17) rfl <| sub_cons (t := 3) rfl <| sub_cons (t := 4) rfl <| sub_cons (t := 5) rfl <| sub_cons (t := 6) rfl <| sub_cons (t := 9) rfl <| sub_nil) <| ?_
    refine qloop1 (j + 1) (sub_cons (t := 3) rfl <| sub_cons (t := 4) rfl <| sub_cons (t := 5) rfl <| sub_cons (t := 6) rfl <| sub_cons (t := 9) rfl <| sub_cons (t := 10) rfl <| sub_nil) (⟨by omega, hf4.new hf5 (fun i hi => by omega), i1.fr hf5 (by omega), i2', i3.fr hf5 (by omega)⟩) (by omega)
  · generalize hbb : a.take j ++ b.drop j = b' at i2
    have hb' : b'.length = 32 := by subst hbb; simp; omega
    have la : (b8s a).length = 32 := by rw [b8s_length]; exact ha
    have lb : (b8s b').length = 32 := by rw [b8s_length]; exact hb'
    have lc : (b8s c).length = 32 := by rw [b8s_length]; exact hc
    refine cexit <| qthen_exit <| qthen_exit <| qblock_exit <| qthen <| cseq <| creg <| nq (y_ldN rfl ag28 sz28 la i1.cells0) <| nq (y_ldN rfl ag28 sz28 lb i2.cells0) <| ?_
    refine nx (x_call rfl Try.call12 (compare a b' _ ha hb') ?_)
    rintro e_ w5 ⟨rfl, hf5⟩
    refine ⟨_, rfl, ?_⟩
    refine nq (y_assign rfl) <| nend <| qsub (sub_cons (t := 11) rfl <| sub_cons (t := 17) rfl <| sub_cons (t := 3) rfl <| sub_cons (t := 4) rfl <| sub_cons (t := 5) rfl <| sub_cons (t := 6) rfl <| sub_cons (t := 9) rfl <| sub_cons (t := 10) rfl <| sub_nil) <| qthen <| cseq <| creg <| nq (y_ldN rfl ag28 sz28 lb (((i2.fr0 hf5).cells0))) <| nq (y_ldN rfl ag28 sz28 lc (((i3.fr0 hf5).cells0))) <| ?_
    refine nx (x_call rfl Try.call12 (compare b' c _ hb' hc) ?_)
    rintro e_ w6 ⟨rfl, hf6⟩
    refine ⟨_, rfl, ?_⟩
    have F1 : ∀ w', Fr No w6 w' → Blk w' g1 28 (b8s a) := fun w' f => ((i1.fr0 hf5).fr0 hf6).fr0 f
    have F2 : ∀ w', Fr No w6 w' → Blk w' g2 28 (b8s b') := fun w' f => ((i2.fr0 hf5).fr0 hf6).fr0 f
    have F3 : ∀ w', Fr No w6 w' → Blk w' g3 28 (b8s c) := fun w' f => ((i3.fr0 hf5).fr0 hf6).fr0 f
    have r1 := cb_range a b'
    have hall : ∀ w', Fr No w6 w' → Fr No w w' := fun w' f => ((hf4.trans0 hf5).trans0 hf6).trans0 f
    refine nq (y_assign rfl) <| nend <| qsub (sub_cons (t := 12) rfl <| sub_cons (t := 11) rfl <| sub_cons (t := 17) rfl <| sub_cons (t := 3) rfl <| sub_cons (t := 4) rfl <| sub_cons (t := 5) rfl <| sub_cons (t := 6) rfl <| sub_cons (t := 9) rfl <| sub_cons (t := 10) rfl <| sub_nil) <| qthen <| cseq <| ?_
    refine cdrw [(0, false), (1, false), (2, false), (3, true), (4, false), (5, false), (6, false), (7, false), (9, false), (10, false), (8, true), (11, false), (12, false), (13, false), (14, false), (15, false), (16, false), (17, false), (18, false), (19, false), (20, false), (21, false), (22, false), (23, false), (25, false), (26, false), (24, true), (27, false), (28, false), (29, false), (30, false), (32, false), (35, false), (36, false), (31, true), (33, true), (34, false), (37, false), (38, false), (39, false), (40, false), (41, false), (42, false), (43, false), (44, false), (45, false), (46, false), (47, false), (48, false), (49, true), (50, false), (51, false), (52, false), (53, false), (54, true), (55, false), (56, false)] (by kernel_rfl) (by kernel_rfl) rfl (fun w' => Fr No w6 w') (Fr.drew _) (fun w7 hf7 hS7 => ?_)
    refine sq (fun w_ hS_ => y_move rfl) <| sq (fun w_ hS_ => y_ldN rfl ag28 sz28 la ((F1 _ hS_).cells0)) <| sq (fun w_ hS_ => y_ldN rfl ag28 sz28 lb ((F2 _ hS_).cells0)) <| ?_
    refine sx (x_call rfl Try.call13 (rcompare a b' _ ha hb') ?_)
    rintro e_ w8 ⟨rfl, hf8⟩
    refine ⟨_, rfl, ?_⟩
    refine ⟨hS7.trans0 hf8, ?_⟩
    have S8 := hS7.trans0 hf8
    refine sq (fun w_ hS_ => yT (y_eql rfl rfl) (decide_eq_true rfl)) <| sq (fun w_ hS_ => y_move rfl) <| sqg (o := _) rfl rfl rfl (fun w_ hS_ => y_ldN rfl ag28 sz28 lb ((F2 _ hS_).cells0)) <| sqg (o := _) rfl rfl rfl (fun w_ hS_ => y_ldN rfl ag28 sz28 la ((F1 _ hS_).cells0)) <| sqg (o := _) rfl rfl rfl (fun w_ hS_ => y_move rfl) <| sqg (o := _) rfl rfl rfl (fun w_ hS_ => y_neg rfl (w64 (by omega) (by omega))) <| ?_
    refine sxg rfl rfl rfl (x_call rfl Try.call12 (compare b' a _ hb' ha) ?_)
    rintro e_ w9 ⟨rfl, hf9⟩
    refine ⟨_, rfl, ?_⟩
    refine ⟨S8.trans0 hf9, ?_⟩
    have S9 := S8.trans0 hf9
    refine sqg (o := _) rfl rfl rfl (fun w_ hS_ => yT (y_eql rfl rfl) (decide_eq_true (cb_neg a b'))) <| sq (fun w_ hS_ => y_pickT rfl rfl) <| sq (fun w_ hS_ => y_move rfl) <| sqg (o := _) rfl rfl rfl (fun w_ hS_ => y_move rfl) <| sqg (o := _) rfl rfl rfl (fun w_ hS_ => y_eql rfl rfl) <| sqg (o := _) rfl rfl rfl (fun w_ hS_ => y_ldN rfl ag28 sz28 la ((F1 _ hS_).cells0)) <| sqg (o := _) rfl rfl rfl (fun w_ hS_ => y_ldN rfl ag28 sz28 lb ((F2 _ hS_).cells0)) <| sqg (o := _) rfl rfl rfl (fun w_ hS_ => y_eqD28 rfl rfl ha hb') <| sqg (o := _) rfl rfl rfl (fun w_ hS_ => yT (y_beq Try.underlying4 rfl rfl) (cb_zero a b')) <| sq (fun w_ hS_ => y_pickT rfl rfl) <| sq (fun w_ hS_ => y_move rfl) <| sqg (o := _) rfl rfl rfl (fun w_ hS_ => y_ldN rfl ag28 sz28 la ((F1 _ hS_).cells0)) <| sqg (o := _) rfl rfl rfl (fun w_ hS_ => y_ldN rfl ag28 sz28 lb ((F2 _ hS_).cells0)) <| sqg (o := _) rfl rfl rfl (fun w_ hS_ => y_move rfl) <| sqg (o := _) rfl rfl rfl (fun w_ hS_ => y_lss rfl rfl) <| ?_
    refine sxg rfl rfl rfl (x_call rfl Try.call14 (less a b' _ ha hb') ?_)
    rintro e_ w10 ⟨rfl, hf10⟩
    refine ⟨_, rfl, ?_⟩
    refine ⟨S9.trans0 hf10, ?_⟩
    have S10 := S9.trans0 hf10
    refine sqg (o := _) rfl rfl rfl (fun w_ hS_ => yT (y_beq Try.underlying4 rfl rfl) (beq_self_eq_true _)) <| sq (fun w_ hS_ => y_pickT rfl rfl) <| sq (fun w_ hS_ => y_move rfl) <| sqg (o := _) rfl rfl rfl (fun w_ hS_ => y_ldN rfl ag28 sz28 la ((F1 _ hS_).cells0)) <| sqg (o := _) rfl rfl rfl (fun w_ hS_ => y_ldN rfl ag28 sz28 lb ((F2 _ hS_).cells0)) <| sqg (o := _) rfl rfl rfl (fun w_ hS_ => y_move rfl) <| sqg (o := _) rfl rfl rfl (fun w_ hS_ => y_lss rfl rfl) <| ?_
    refine sxg rfl rfl rfl (x_call rfl Try.call15 (name a _ ha) ?_)
    rintro e_ w11 ⟨rfl, hf11⟩
    refine ⟨_, rfl, ?_⟩
    refine ⟨S10.trans0 hf11, ?_⟩
    have S11 := S10.trans0 hf11
    refine sxg rfl rfl rfl (x_call rfl Try.call15 (name b' _ hb') ?_)
    rintro e_ w12 ⟨rfl, hf12⟩
    refine ⟨_, rfl, ?_⟩
    refine ⟨S11.trans0 hf12, ?_⟩
    have S12 := S11.trans0 hf12
    refine sqg (o := _) rfl rfl rfl (fun w_ hS_ => y_slt rfl rfl) <| sqg (o := _) rfl rfl rfl (fun w_ hS_ => yT (y_beq Try.underlying4 rfl rfl) (less_hexs a b')) <| sq (fun w_ hS_ => y_pickT rfl rfl) <| sq (fun w_ hS_ => y_move rfl) <| sqg (o := _) rfl rfl rfl (fun w_ hS_ => y_move rfl) <| sqg (o := _) rfl rfl rfl (fun w_ hS_ => y_gtr rfl rfl) <| sqg (o := _) rfl rfl rfl (fun w_ hS_ => y_move rfl) <| ?_
    refine ssplit 73 rfl (fun h1 => ?_) (fun h1 => ?_)
    · refine sskip rfl rfl rfl (by decide) <| sskip rfl rfl rfl (by decide) <| sqg (o := _) rfl rfl rfl (fun w_ hS_ => y_pickT rfl rfl) <| sqg (o := _) rfl rfl rfl (fun w_ hS_ => y_move rfl) <| sskip rfl rfl rfl (by decide) <| sskip rfl rfl rfl (by decide) <| sskip rfl rfl rfl (by decide) <| sskip rfl rfl rfl (by decide) <| sqg (o := _) rfl rfl rfl (fun w_ hS_ => y_pickT rfl rfl) <| sq (fun w_ hS_ => y_pickT rfl rfl) <| sq (fun w_ hS_ => y_move rfl) <| ?_
      refine sxg rfl rfl rfl (x_call rfl Try.call10 (lives1 _) ?_)
      rintro e_ w20 ⟨rfl, hf20⟩
      refine ⟨_, rfl, ?_⟩
      refine ⟨(S12).trans0 hf20, ?_⟩
      refine sq (fun w_ hS_ => y_pickT rfl rfl) <| sq (fun w_ hS_ => y_assign rfl) <| send <| qsub (sub_cons (t := 8) rfl <| sub_cons (t := 12) rfl <| sub_cons (t := 11) rfl <| sub_cons (t := 17) rfl <| sub_cons (t := 3) rfl <| sub_cons (t := 4) rfl <| sub_cons (t := 5) rfl <| sub_cons (t := 6) rfl <| sub_cons (t := 9) rfl <| sub_cons (t := 10) rfl <| sub_nil) <| qthen <| cret <| ?_
      exact ret1 trivial rfl rfl ⟨rfl, hall _ ((S12).trans0 hf20)⟩
    · refine sqg (o := _) rfl rfl rfl (fun w_ hS_ => y_move rfl) <| sqg (o := _) rfl rfl rfl (fun w_ hS_ => y_gtr rfl rfl) <| sqg (o := _) rfl rfl rfl (fun w_ hS_ => y_pickF rfl rfl) <| sqg (o := _) rfl rfl rfl (fun w_ hS_ => y_move rfl) <| ?_
      refine ssplit 77 rfl (fun h2 => ?_) (fun h2 => ?_)
      · refine sskip rfl rfl rfl (by decide) <| sskip rfl rfl rfl (by decide) <| sskip rfl rfl rfl (by decide) <| sskip rfl rfl rfl (by decide) <| sqg (o := _) rfl rfl rfl (fun w_ hS_ => y_pickT rfl rfl) <| sq (fun w_ hS_ => y_pickT rfl rfl) <| sq (fun w_ hS_ => y_move rfl) <| ?_
        refine sxg rfl rfl rfl (x_call rfl Try.call10 (lives1 _) ?_)
        rintro e_ w20 ⟨rfl, hf20⟩
        refine ⟨_, rfl, ?_⟩
        refine ⟨(S12).trans0 hf20, ?_⟩
        refine sq (fun w_ hS_ => y_pickT rfl rfl) <| sq (fun w_ hS_ => y_assign rfl) <| send <| qsub (sub_cons (t := 8) rfl <| sub_cons (t := 12) rfl <| sub_cons (t := 11) rfl <| sub_cons (t := 17) rfl <| sub_cons (t := 3) rfl <| sub_cons (t := 4) rfl <| sub_cons (t := 5) rfl <| sub_cons (t := 6) rfl <| sub_cons (t := 9) rfl <| sub_cons (t := 10) rfl <| sub_nil) <| qthen <| cret <| ?_
        exact ret1 trivial rfl rfl ⟨rfl, hall _ ((S12).trans0 hf20)⟩
      · refine sqg (o := _) rfl rfl rfl (fun w_ hS_ => y_ldN rfl ag28 sz28 la ((F1 _ hS_).cells0)) <| sqg (o := _) rfl rfl rfl (fun w_ hS_ => y_ldN rfl ag28 sz28 lc ((F3 _ hS_).cells0)) <| ?_
        refine sxg rfl rfl rfl (x_call rfl Try.call12 (compare a c _ ha hc) ?_)
        rintro e_ w13 ⟨rfl, hf13⟩
        refine ⟨_, rfl, ?_⟩
        refine ⟨S12.trans0 hf13, ?_⟩
        have S13 := S12.trans0 hf13
        refine sqg (o := _) rfl rfl rfl (fun w_ hS_ => yT (y_leq rfl rfl) (decide_eq_true (cb_trans a b' c (by omega) (by omega)))) <| sqg (o := _) rfl rfl rfl (fun w_ hS_ => y_pickF rfl rfl) <| sq (fun w_ hS_ => y_pickT rfl rfl) <| sq (fun w_ hS_ => y_move rfl) <| ?_
        refine sxg rfl rfl rfl (x_call rfl Try.call10 (lives1 _) ?_)
        rintro e_ w20 ⟨rfl, hf20⟩
        refine ⟨_, rfl, ?_⟩
        refine ⟨(S13).trans0 hf20, ?_⟩
        refine sq (fun w_ hS_ => y_pickT rfl rfl) <| sq (fun w_ hS_ => y_assign rfl) <| send <| qsub (sub_cons (t := 8) rfl <| sub_cons (t := 12) rfl <| sub_cons (t := 11) rfl <| sub_cons (t := 17) rfl <| sub_cons (t := 3) rfl <| sub_cons (t := 4) rfl <| sub_cons (t := 5) rfl <| sub_cons (t := 6) rfl <| sub_cons (t := 9) rfl <| sub_cons (t := 10) rfl <| sub_nil) <| qthen <| cret <| ?_
        exact ret1 trivial rfl rfl ⟨rfl, hall _ ((S13).trans0 hf20)⟩
end Go.Proofs.Ytkicnomekojafaa
