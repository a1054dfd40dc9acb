/- Contracts: what journals may be, their bytes. -/
import Derived.Test.YtpcgpnijhpcbeaaJour2
import Derived.Test.YtpcgpnijhpcbeaaEng9
set_option linter.unusedVariables false
set_option linter.unusedSimpArgs false
set_option maxRecDepth 20000
namespace Go.Proofs.Ytpcgpnijhpcbeaa
open Go.Eng Go.Hx
theorem take_eq_step {a b : List (List UInt8)} {k : Nat} (h : a.take k = b.take k) (h1 : k < a.length) (h2 : k < b.length) (he : a.getD k [] = b.getD k []) : a.take (k + 1) = b.take (k + 1) := by
  rw [List.take_succ_eq_append_getElem h1, List.take_succ_eq_append_getElem h2, h]
  rw [List.getD, List.getD, List.getElem?_eq_getElem h1, List.getElem?_eq_getElem h2] at he
  simp only [Option.getD_some] at he
  rw [he]
theorem sameNames (A : Option Addr) (n c : Nat) (ds : List (List UInt8)) (A' : Option Addr) (n' c' : Nat) (ds' : List (List UInt8)) (w : World) (hr : Rd w 32 A n (dc ds)) (hD : D32 ds) (hr' : Rd w 32 A' n' (dc ds')) (hD' : D32 ds') (hn : n ≤ 140737488351232) :
    Calls Try.prog 62 #[.slice A n c, .slice A' n' c'] w fun e w' => e = .returned (.bool (decide (ds = ds'))) ∧ Fr No w w' := by
  have hl := dc_len hr hD
  have hl' := dc_len hr' hD'
  refine enter (N := 26) Try.func62 rfl rfl (by simp) ?_
  refine cseq <| creg <| nq (y_assign rfl) <| nend <| qthen <| cseq <| cseq <| creg <| nq (y_move rfl) <| nq (y_lenS rfl Try.underlying54) <| nq (y_move rfl) <| nq (y_lenS rfl Try.underlying54) <| nq (y_neq rfl rfl) <| nend <| qsub (sub_cons (t := 10) rfl <| sub_cons (t := 4) rfl <| sub_cons (t := 0) rfl <| sub_cons (t := 1) rfl <| sub_nil) <| qthen <| ?_
  refine cif rfl (fun h => ?_) (fun h => ?_)
  · refine cseq <| creg <| nq (y_assign rfl) <| nend <| qthen <| cret <| qthen_ret <| ?_
    have hne : ¬ ds = ds' := fun e => h (by rw [← hl, ← hl', e])
    exact ret1 trivial rfl rfl ⟨by rw [decide_eq_false hne], Fr.refl _ _⟩
  · have hnn : n = n' := by omega
    refine cskip <| qthen <| cseq <| cseq <| creg <| nq (y_assign rfl) <| nend <| qthen <| cblock <| ?_
    refine cloop1 (fun k => n - k) (fun k => [(0, .slice A n c), (1, .slice A' n' c'), (5, .int .i64 (k : Nat))]) (fun k w' => k ≤ n ∧ ds.take k = ds'.take k ∧ Fr No w w') 0 (⟨Nat.zero_le _, rfl, Fr.refl _ _⟩) (sub_cons (t := 0) rfl <| sub_cons (t := 1) rfl <| sub_cons (t := 5) rfl <| sub_nil) (fun k w1 ⟨hk, ht, hf⟩ => ?_)
    refine cseq <| cseq <| creg <| nq (y_move rfl) <| nq (y_move rfl) <| nq (y_lenS rfl Try.underlying54) <| nq (y_lss rfl rfl) <| nend <| qsub (sub_cons (t := 14) rfl <| sub_cons (t := 0) rfl <| sub_cons (t := 1) rfl <| sub_cons (t := 5) rfl <| sub_nil) <| qthen <| ?_
    refine cif rfl (fun h2 => ?_) (fun h2 => ?_)
    · have hk1 : k < ds.length := by omega
      have hk2 : k < ds'.length := by omega
      refine cskip <| qthen <| cseq <| cblock <| cseq <| ?_
      refine cdrw [(0, false), (1, false), (2, false), (3, false), (4, false), (5, false), (6, false), (7, false), (8, false)] (by kernel_rfl) (by kernel_rfl) rfl (fun w' => Fr No w w') (hf.trans0 (Fr.drew _)) (fun w2 hf2 hS2 => ?_)
      refine sq (fun w_ hS_ => y_move rfl) <| sq (fun w_ hS_ => y_move rfl) <| sq (fun w_ hS_ => y_idxS rfl rfl Try.underlying54 sz23 hr.2.1 rfl (by omega)) <| sq (fun w_ hS_ => y_ldN rfl ag23 sz23 ((by rw [b8s_length]; exact dc_getD hD hk1)) (((hr.fr0 hS_).dig hD hk1))) <| sq (fun w_ hS_ => y_move rfl) <| sq (fun w_ hS_ => y_move rfl) <| sq (fun w_ hS_ => y_idxS rfl rfl Try.underlying54 sz23 hr'.2.1 rfl (by omega)) <| sq (fun w_ hS_ => y_ldN rfl ag23 sz23 ((by rw [b8s_length]; exact dc_getD hD' hk2)) (((hr'.fr0 hS_).dig hD' hk2))) <| sq (fun w_ hS_ => y_neD23 rfl rfl (dc_getD hD hk1) (dc_getD hD' hk2)) <| send <| qsub (sub_cons (t := 25) rfl <| sub_cons (t := 14) rfl <| sub_cons (t := 0) rfl <| sub_cons (t := 1) rfl <| sub_cons (t := 5) rfl <| sub_nil) <| qthen <| ?_
      refine cif rfl (fun h3 => ?_) (fun h3 => ?_)
      · refine cseq <| creg <| nq (y_assign rfl) <| nend <| qthen <| cret <| qblock_ret <| qthen_ret <| qthen_ret <| qblock_ret <| qthen_ret <| ?_
        have hne : ¬ ds = ds' := fun e => h3 (by rw [e])
        exact ret1 trivial rfl rfl ⟨by rw [decide_eq_false hne], hS2⟩
      · refine cskip <| qblock <| qthen <| creg <| nq (y_move rfl) <| nq (y_add rfl rfl (w64 (by omega) (by omega))) <| nq (y_assign rfl) <| nend <| qsub (sub_cons (t := 5) rfl <| sub_cons (t := 25) rfl <| sub_cons (t := 14) rfl <| sub_cons (t := 0) rfl <| sub_cons (t := 1) rfl <| sub_nil) <| ?_
        refine qloop1 (k + 1) (sub_cons (t := 0) rfl <| sub_cons (t := 1) rfl <| sub_cons (t := 5) rfl <| sub_nil) (⟨by omega, take_eq_step ht hk1 hk2 (Decidable.not_not.1 h3), hS2⟩) (by omega)
    · obtain rfl : k = n := by omega
      rw [List.take_of_length_le (by omega), List.take_of_length_le (by omega)] at ht
      refine cexit <| qthen_exit <| qthen_exit <| qblock_exit <| qthen <| cseq <| creg <| nq (y_assign rfl) <| nend <| qthen <| cret <| ?_
      exact ret1 trivial rfl rfl ⟨by rw [decide_eq_true ht], hf⟩
theorem rsame (img : List UInt8) (A : Option Addr) (n c : Nat) (ds : List (List UInt8)) (img' : List UInt8) (A' : Option Addr) (n' c' : Nat) (ds' : List (List UInt8)) (w : World) (hi : img.length = 32) (hi' : img'.length = 32) (hr : Rd w 32 A n (dc ds)) (hD : D32 ds) (hr' : Rd w 32 A' n' (dc ds')) (hD' : D32 ds') (hn : n ≤ 140737488351232) :
    Calls Try.prog 33 #[.agg (b8s img ++ [Value.slice A n c]).toArray, .agg (b8s img' ++ [Value.slice A' n' c']).toArray] w fun e w' => e = .returned (.bool (decide (ds = ds' ∧ img = img'))) ∧ Fr No w w' := by
  have il : (b8s img).length = 32 := by rw [b8s_length]; exact hi
  have il' : (b8s img').length = 32 := by rw [b8s_length]; exact hi'
  refine enter (N := 19) Try.func33 rfl rfl (by simp) ?_
  refine cseq <| creg <| ?_
  refine nx (x_box rfl fun g1 w1 hg1 hf1 hb1 => ?_)
  refine nx (x_box rfl fun g2 w2 hg2 hf2 hb2 => ?_)
  rw [cells_agg] at hb1 hb2
  have b1 := hb1.fr0 hf2
  refine nq (y_assign rfl) <| nend <| qthen <| cseq <| creg <| nq (y_fld rfl fa56_1 (by decide)) <| nq (y_ld1 rfl ag54 (j_s b1 hi)) <| nq (y_fld rfl fa56_1 (by decide)) <| nq (y_ld1 rfl ag54 (j_s hb2 hi')) <| ?_
  refine nx (x_call rfl Try.call62 (sameNames A n c ds A' n' c' ds' _ ((hr.fr0 hf1).fr0 hf2) hD ((hr'.fr0 hf1).fr0 hf2) hD' hn) ?_)
  rintro e_ w3 ⟨rfl, hf3⟩
  refine ⟨_, rfl, ?_⟩
  refine nq (y_assign rfl) <| nend <| qsub (sub_cons (t := 5) rfl <| sub_cons (t := 4) rfl <| sub_cons (t := 3) rfl <| sub_cons (t := 2) rfl <| sub_cons (t := 0) rfl <| sub_cons (t := 1) rfl <| sub_nil) <| qthen <| cseq <| creg <| nq (y_move rfl) <| nq (y_move rfl) <| ?_
  refine nsplit 12 rfl (fun h => ?_) (fun h => ?_)
  · refine ng rfl rfl rfl (y_fld rfl fa56_0 (by decide)) <| ng rfl rfl rfl (y_ldN rfl ag23 sz23 il (j_img (b1.fr0 hf3))) <| ng rfl rfl rfl (y_fld rfl fa56_0 (by decide)) <| ng rfl rfl rfl (y_ldN rfl ag23 sz23 il' (j_img (hb2.fr0 hf3))) <| ng rfl rfl rfl (y_eqD23 rfl rfl hi hi') <| nq (y_pickT rfl rfl) <| nq (y_assign rfl) <| nend <| qsub (sub_cons (t := 4) rfl <| sub_cons (t := 5) rfl <| sub_cons (t := 3) rfl <| sub_cons (t := 2) rfl <| sub_cons (t := 0) rfl <| sub_cons (t := 1) rfl <| sub_nil) <| qthen <| cret <| ?_
    refine ret1 trivial rfl rfl ⟨?_, (hf1.trans0 hf2).trans0 hf3⟩
    simp only [h, true_and]
  · refine nskip rfl rfl rfl (by decide) <| nskip rfl rfl rfl (by decide) <| nskip rfl rfl rfl (by decide) <| nskip rfl rfl rfl (by decide) <| nskip rfl rfl rfl (by decide) <| nq (y_pickF rfl rfl) <| nq (y_assign rfl) <| nend <| qsub (sub_cons (t := 4) rfl <| sub_cons (t := 5) rfl <| sub_cons (t := 3) rfl <| sub_cons (t := 2) rfl <| sub_cons (t := 0) rfl <| sub_cons (t := 1) rfl <| sub_nil) <| qthen <| cret <| ?_
    refine ret1 trivial rfl rfl ⟨?_, (hf1.trans0 hf2).trans0 hf3⟩
    simp only [h, false_and, decide_false]
/-- which journals may be -/
def JMay (ds : List (List UInt8)) : Prop := Rise ds ∧ ds.length ≤ 4096
instance (ds : List (List UInt8)) : Decidable (JMay ds) := inferInstanceAs (Decidable (_ ∧ _))
theorem rmay (img : List UInt8) (A : Option Addr) (n c : Nat) (ds : List (List UInt8)) (w : World) (hi : img.length = 32) (hr : Rd w 32 A n (dc ds)) (hD : D32 ds) (hn : n ≤ 140737488351232) :
    Calls Try.prog 25 #[.agg (b8s img ++ [Value.slice A n c]).toArray] w fun e w' => e = .returned (.bool (decide (JMay ds))) ∧ Fr No w w' := by
  have hl := dc_len hr hD
  refine enter (N := 28) Try.func25 rfl rfl (by simp) ?_
  refine cseq <| creg <| ?_
  refine nx (x_box rfl fun g1 w1 hg1 hf1 hb1 => ?_)
  rw [cells_agg] at hb1
  have hr1 := hr.fr0 hf1
  refine nq (y_assign rfl) <| nend <| qthen <| cseq <| cseq <| creg <| nq (y_assign rfl) <| nend <| qthen <| cblock <| ?_
  refine cloop1 (fun k => n + 1 - k) (fun k => [(1, .pointer (some ⟨g1, 0, none⟩)), (3, .int .i64 (k : Nat))]) (fun k w' => 1 ≤ k ∧ (k ≤ n ∨ k = 1) ∧ Rise (ds.take k) ∧ Fr No w1 w') 1 (⟨Nat.le_refl _, .inr rfl, (by cases ds with | nil => trivial | cons a r => trivial), Fr.refl _ _⟩) (sub_cons (t := 1) rfl <| sub_cons (t := 3) rfl <| sub_nil) (fun k w2 ⟨hk1, hk, hR, hf2⟩ => ?_)
  refine cseq <| cseq <| creg <| nq (y_move rfl) <| nq (y_fld rfl fa56_1 (by decide)) <| nq (y_ld1 rfl ag54 (j_s (hb1.fr0 hf2) hi)) <| nq (y_lenS rfl Try.underlying54) <| nq (y_lss rfl rfl) <| nend <| qsub (sub_cons (t := 8) rfl <| sub_cons (t := 1) rfl <| sub_cons (t := 3) rfl <| sub_nil) <| qthen <| ?_
  refine cif rfl (fun h => ?_) (fun h => ?_)
  · have hkl : k < ds.length := by omega
    have hkm : k - 1 < ds.length := by omega
    refine cskip <| qthen <| cseq <| cblock <| cseq <| ?_
    refine cdrw [(0, false), (1, false), (2, false), (3, false), (4, false), (5, false), (6, false), (7, false), (8, false), (9, false), (10, false), (11, true), (12, false)] (by kernel_rfl) (by kernel_rfl) rfl (fun w' => Fr No w1 w') (hf2.trans0 (Fr.drew _)) (fun w3 hf3 hS3 => ?_)
    refine sq (fun w_ hS_ => y_fld rfl fa56_1 (by decide)) <| sq (fun w_ hS_ => y_ld1 rfl ag54 ((j_s (hb1.fr0 hS_) hi))) <| sq (fun w_ hS_ => y_move rfl) <| sq (fun w_ hS_ => y_sub rfl rfl (w64 (by omega) (by omega))) <| sq (fun w_ hS_ => y_idxS rfl rfl Try.underlying54 sz23 hr.2.1 (show ((k - 1 : Nat) : Int) = (k : Int) - 1 by omega) (by omega)) <| sq (fun w_ hS_ => y_ldN rfl ag23 sz23 ((by rw [b8s_length]; exact dc_getD hD hkm)) (((hr1.fr0 hS_).dig hD hkm))) <| sq (fun w_ hS_ => y_fld rfl fa56_1 (by decide)) <| sq (fun w_ hS_ => y_ld1 rfl ag54 ((j_s (hb1.fr0 hS_) hi))) <| sq (fun w_ hS_ => y_move rfl) <| sq (fun w_ hS_ => y_idxS rfl rfl Try.underlying54 sz23 hr.2.1 rfl (by omega)) <| sq (fun w_ hS_ => y_ldN rfl ag23 sz23 ((by rw [b8s_length]; exact dc_getD hD hkl)) (((hr1.fr0 hS_).dig hD hkl))) <| ?_
    refine sx (x_call rfl Try.call55 (rcompare _ _ _ (dc_getD hD hkm) (dc_getD hD hkl)) ?_)
    rintro e_ w4 ⟨rfl, hf4⟩
    refine ⟨_, rfl, ?_⟩
    refine ⟨hS3.trans0 hf4, ?_⟩
    have hS4 := hS3.trans0 hf4
    have hst := rise_take_succ ds k (by omega) hkl
    refine sq (fun w_ hS_ => y_geq rfl rfl) <| send <| qsub (sub_cons (t := 23) rfl <| sub_cons (t := 8) rfl <| sub_cons (t := 1) rfl <| sub_cons (t := 3) rfl <| sub_nil) <| qthen <| ?_
    refine cif rfl (fun h2 => ?_) (fun h2 => ?_)
    · refine cseq <| creg <| nq (y_assign rfl) <| nend <| qthen <| cret <| qblock_ret <| qthen_ret <| qthen_ret <| qblock_ret <| qthen_ret <| ?_
      have hno : ¬ JMay ds := fun h => rise_take (fun hr => by have := (hst.1 hr).2; omega) h.1
      exact ret1 trivial rfl rfl ⟨by rw [decide_eq_false hno], hf1.trans0 hS4⟩
    · refine cskip <| qblock <| qthen <| creg <| nq (y_move rfl) <| nq (y_add rfl rfl (w64 (by omega) (by omega))) <| nq (y_assign rfl) <| nend <| qsub (sub_cons (t := 3) rfl <| sub_cons (t := 23) rfl <| sub_cons (t := 8) rfl <| sub_cons (t := 1) rfl <| sub_nil) <| ?_
      refine qloop1 (k + 1) (sub_cons (t := 1) rfl <| sub_cons (t := 3) rfl <| sub_nil) (⟨by omega, by omega, hst.2 ⟨hR, by omega⟩, hS4⟩) (by omega)
  · rw [List.take_of_length_le (by omega)] at hR
    refine cexit <| qthen_exit <| qthen_exit <| qblock_exit <| qthen <| cseq <| creg <| nq (y_fld rfl fa56_1 (by decide)) <| nq (y_ld1 rfl ag54 ((j_s (hb1.fr0 hf2) hi))) <| nq (y_lenS rfl Try.underlying54) <| nq (y_lss rfl rfl) <| nq (y_assign rfl) <| nend <| qsub (sub_cons (t := 2) rfl <| sub_cons (t := 8) rfl <| sub_cons (t := 1) rfl <| sub_cons (t := 3) rfl <| sub_nil) <| qthen <| cret <| ?_
    refine ret1 trivial rfl rfl ⟨?_, hf1.trans0 hf2⟩
    have : ((n : Int) < 4097) ↔ JMay ds := ⟨fun h => ⟨hR, by omega⟩, fun h => by have := h.2; omega⟩
    simp only [this]
theorem may (img : List UInt8) (A : Option Addr) (n c : Nat) (ds : List (List UInt8)) (w : World) (hi : img.length = 32) (hr : Rd w 32 A n (dc ds)) (hD : D32 ds) (hn : n ≤ 140737488351232) :
    Calls Try.prog 28 #[.agg (b8s img ++ [Value.slice A n c]).toArray] w fun e w' => e = .returned (.bool (decide (JMay ds))) ∧ Fr No w w' := by
  have hl := dc_len hr hD
  refine enter (N := 32) Try.func28 rfl rfl (by simp) ?_
  refine cseq <| creg <| ?_
  refine nx (x_box rfl fun g1 w1 hg1 hf1 hb1 => ?_)
  rw [cells_agg] at hb1
  have hr1 := hr.fr0 hf1
  refine nq (y_assign rfl) <| nend <| qthen <| cseq <| cseq <| creg <| nq (y_fld rfl fa61_1 (by decide)) <| nq (y_ld1 rfl ag54 (j_s hb1 hi)) <| nq (y_lenS rfl Try.underlying54) <| nq (y_move rfl) <| nend <| qsub (sub_cons (t := 7) rfl <| sub_cons (t := 6) rfl <| sub_cons (t := 2) rfl <| sub_cons (t := 1) rfl <| sub_cons (t := 0) rfl <| sub_nil) <| qthen <| cblock <| ?_
  refine cloop1 (fun k => n - k) (fun k => [(1, .pointer (some ⟨g1, 0, none⟩)), (6, .int .i64 (n : Int)), (7, .int .i64 (k : Nat))]) (fun k w' => k ≤ n ∧ Rise (ds.take k) ∧ Fr No w1 w') 0 (⟨Nat.zero_le _, trivial, Fr.refl _ _⟩) (sub_cons (t := 1) rfl <| sub_cons (t := 6) rfl <| sub_cons (t := 7) rfl <| sub_nil) (fun k w2 ⟨hk, hR, hf2⟩ => ?_)
  refine cseq <| creg <| nq (y_lss rfl rfl) <| nend <| qthen <| cseq <| ?_
  refine cif rfl (fun h => ?_) (fun h => ?_)
  · have hkl : k < ds.length := by omega
    refine cskip <| qthen <| cseq <| cblock <| cseq <| creg <| nq (y_move rfl) <| nq (y_assign rfl) <| nend <| qsub (sub_cons (t := 3) rfl <| sub_cons (t := 8) rfl <| sub_cons (t := 1) rfl <| sub_cons (t := 6) rfl <| sub_cons (t := 7) rfl <| sub_nil) <| qthen <| cseq <| ?_
    refine cdrw [(0, false), (1, false), (2, false), (3, false), (4, false), (5, false), (6, false), (7, false), (8, false), (9, false), (10, false), (11, false), (12, false), (13, false), (14, true), (15, false), (16, false)] (by kernel_rfl) (by kernel_rfl) rfl (fun w' => Fr No w1 w') (hf2.trans0 (Fr.drew _)) (fun w3 hf3 hS3 => ?_)
    refine sq (fun w_ hS_ => y_move rfl) <| sq (fun w_ hS_ => y_gtr rfl rfl) <| sq (fun w_ hS_ => y_move rfl) <| ?_
    refine ssplit 12 rfl (fun h1 => ?_) (fun h1 => ?_)
    · have hkm : k - 1 < ds.length := by omega
      refine sqg (o := _) rfl rfl rfl (fun w_ hS_ => y_fld rfl fa61_1 (by decide)) <| sqg (o := _) rfl rfl rfl (fun w_ hS_ => y_ld1 rfl ag54 ((j_s (hb1.fr0 hS_) hi))) <| sqg (o := _) rfl rfl rfl (fun w_ hS_ => y_move rfl) <| sqg (o := _) rfl rfl rfl (fun w_ hS_ => y_sub rfl rfl (w64 (by omega) (by omega))) <| sqg (o := _) rfl rfl rfl (fun w_ hS_ => y_idxS rfl rfl Try.underlying54 sz23 hr.2.1 (show ((k - 1 : Nat) : Int) = (k : Int) - 1 by omega) (by omega)) <| sqg (o := _) rfl rfl rfl (fun w_ hS_ => y_ldN rfl ag23 sz23 ((by rw [b8s_length]; exact dc_getD hD hkm)) (((hr1.fr0 hS_).dig hD hkm))) <| sqg (o := _) rfl rfl rfl (fun w_ hS_ => y_fld rfl fa61_1 (by decide)) <| sqg (o := _) rfl rfl rfl (fun w_ hS_ => y_ld1 rfl ag54 ((j_s (hb1.fr0 hS_) hi))) <| sqg (o := _) rfl rfl rfl (fun w_ hS_ => y_move rfl) <| sqg (o := _) rfl rfl rfl (fun w_ hS_ => y_idxS rfl rfl Try.underlying54 sz23 hr.2.1 rfl (by omega)) <| sqg (o := _) rfl rfl rfl (fun w_ hS_ => y_ldN rfl ag23 sz23 ((by rw [b8s_length]; exact dc_getD hD hkl)) (((hr1.fr0 hS_).dig hD hkl))) <| ?_
      refine sxg rfl rfl rfl (x_call rfl Try.call57 (less _ _ _ (dc_getD hD hkm) (dc_getD hD hkl)) ?_)
      rintro e_ w4 ⟨rfl, hf4⟩
      refine ⟨_, rfl, ?_⟩
      refine ⟨hS3.trans0 hf4, ?_⟩
      have hS4 := hS3.trans0 hf4
      have hst := rise_take_succ ds k (by omega) hkl
      refine sqg (o := _) rfl rfl rfl (fun w_ hS_ => (y_notp rfl)) <| sq (fun w_ hS_ => y_pickT rfl rfl) <| send <| qsub (sub_cons (t := 26) rfl <| sub_cons (t := 3) rfl <| sub_cons (t := 8) rfl <| sub_cons (t := 1) rfl <| sub_cons (t := 6) rfl <| sub_cons (t := 7) rfl <| sub_nil) <| qthen <| ?_
      refine cif rfl (fun h2 => ?_) (fun h2 => ?_)
      · refine cseq <| creg <| nq (y_assign rfl) <| nend <| qthen <| cret <| qblock_ret <| qthen_ret <| qthen_ret <| qblock_ret <| qthen_ret <| ?_
        have hno : ¬ JMay ds := fun h => rise_take (fun hr => h2 (hst.1 hr).2) h.1
        exact ret1 trivial rfl rfl ⟨by rw [decide_eq_false hno], hf1.trans0 hS4⟩
      · refine cskip <| qblock <| qthen <| creg <| nq (y_add rfl rfl (w64 (by omega) (by omega))) <| nq (y_move rfl) <| nend <| qsub (sub_cons (t := 7) rfl <| sub_cons (t := 26) rfl <| sub_cons (t := 3) rfl <| sub_cons (t := 8) rfl <| sub_cons (t := 1) rfl <| sub_cons (t := 6) rfl <| sub_nil) <| ?_
        refine qloop1 (k + 1) (sub_cons (t := 1) rfl <| sub_cons (t := 6) rfl <| sub_cons (t := 7) rfl <| sub_nil) (⟨by omega, hst.2 ⟨hR, Decidable.not_not.1 h2⟩, hS4⟩) (by omega)
    · obtain rfl : k = 0 := by omega
      refine sskip rfl rfl rfl (by decide) <| sskip rfl rfl rfl (by decide) <| sskip rfl rfl rfl (by decide) <| sskip rfl rfl rfl (by decide) <| sskip rfl rfl rfl (by decide) <| sskip rfl rfl rfl (by decide) <| sskip rfl rfl rfl (by decide) <| sskip rfl rfl rfl (by decide) <| sskip rfl rfl rfl (by decide) <| sskip rfl rfl rfl (by decide) <| sskip rfl rfl rfl (by decide) <| sskip rfl rfl rfl (by decide) <| sskip rfl rfl rfl (by decide) <| sq (fun w_ hS_ => y_pickF rfl rfl) <| send <| qsub (sub_cons (t := 26) rfl <| sub_cons (t := 3) rfl <| sub_cons (t := 8) rfl <| sub_cons (t := 1) rfl <| sub_cons (t := 6) rfl <| sub_cons (t := 7) rfl <| sub_nil) <| qthen <| ?_
      refine ciff rfl (rfl) ?_
      refine cskip <| qblock <| qthen <| creg <| nq (y_add rfl rfl (w64 (by omega) (by omega))) <| nq (y_move rfl) <| nend <| qsub (sub_cons (t := 7) rfl <| sub_cons (t := 26) rfl <| sub_cons (t := 3) rfl <| sub_cons (t := 8) rfl <| sub_cons (t := 1) rfl <| sub_cons (t := 6) rfl <| sub_nil) <| ?_
      refine qloop1 1 (sub_cons (t := 1) rfl <| sub_cons (t := 6) rfl <| sub_cons (t := 7) rfl <| sub_nil) (⟨by omega, (by cases ds with | nil => trivial | cons a r => trivial), hS3⟩) (by omega)
  · rw [List.take_of_length_le (by omega)] at hR
    refine cexit <| qthen_exit <| qthen_exit <| qblock_exit <| qthen <| cseq <| creg <| nq (y_fld rfl fa61_1 (by decide)) <| nq (y_ld1 rfl ag54 ((j_s (hb1.fr0 hf2) hi))) <| nq (y_lenS rfl Try.underlying54) <| nq (y_leq rfl rfl) <| nq (y_assign rfl) <| nend <| qsub (sub_cons (t := 2) rfl <| sub_cons (t := 8) rfl <| sub_cons (t := 1) rfl <| sub_cons (t := 6) rfl <| sub_cons (t := 7) rfl <| sub_nil) <| qthen <| cret <| ?_
    refine ret1 trivial rfl rfl ⟨?_, hf1.trans0 hf2⟩
    have : ((n : Int) ≤ 4096) ↔ JMay ds := ⟨fun h => ⟨hR, by omega⟩, fun h => by have := h.2; omega⟩
    simp only [this]
theorem of_j (img : List UInt8) (s : Value) (w : World) (hi : img.length = 32) (hs : s.oneCell' = true) (hs2 : s.cells.toList = [s]) :
    Calls Try.prog 27 #[.agg (b8s img ++ [s]).toArray] w fun e w' => e = .returned (.agg (b8s img ++ [s]).toArray) ∧ Fr No w w' := by
  have il : (b8s img).length = 32 := by rw [b8s_length]; exact hi
  refine enter (N := 8) Try.func27 rfl rfl (by simp) ?_
  refine cseq <| creg <| ?_
  refine nx (x_box rfl fun g1 w1 hg1 hf1 hb1 => ?_)
  rw [cells_agg] at hb1
  refine nx (x_alloc ti61 fun g2 w2 hg2 hf2 hb2 => ?_)
  have b1 := hb1.fr0 hf2
  have l1 := hb1.lt
  have s1 := hf1.size
  refine nend <| qthen <| cseq <| creg <| nq (y_fld rfl fa56_0 (by decide)) <| nq (y_ldN rfl ag23 sz23 il (j_img b1)) <| nq (y_fld rfl fa56_1 (by decide)) <| nq (y_ld1 rfl ag54 (j_s b1 hi)) <| nq (y_build ti61 rfl rfl (by kernel_rfl) ((bldJ pl61_0 pl61_1 (by simp) hi hs2))) <| ?_
  refine nx0 (x_stA rfl rfl sz61 (j_len hi) (j_one hs) hb2 rfl fun w3 hf3 hb3 hs3 => ?_)
  refine nend <| qsub (sub_cons (t := 2) rfl <| sub_cons (t := 1) rfl <| sub_cons (t := 0) rfl <| sub_nil) <| qthen <| cret <| ?_
  exact retN trivial rfl rfl ag61 sz61 (j_len hi) hb3.cells0 ⟨rfl, (hf1.trans0 hf2).new hf3 (fun i hi => by omega)⟩
theorem as_j (img : List UInt8) (s : Value) (w : World) (hi : img.length = 32) (hs : s.oneCell' = true) (hs2 : s.cells.toList = [s]) :
    Calls Try.prog 34 #[.agg (b8s img ++ [s]).toArray] w fun e w' => e = .returned (.agg (b8s img ++ [s]).toArray) ∧ Fr No w w' := by
  have il : (b8s img).length = 32 := by rw [b8s_length]; exact hi
  refine enter (N := 8) Try.func34 rfl rfl (by simp) ?_
  refine cseq <| creg <| ?_
  refine nx (x_box rfl fun g1 w1 hg1 hf1 hb1 => ?_)
  rw [cells_agg] at hb1
  refine nx (x_alloc ti56 fun g2 w2 hg2 hf2 hb2 => ?_)
  have b1 := hb1.fr0 hf2
  have l1 := hb1.lt
  have s1 := hf1.size
  refine nend <| qthen <| cseq <| creg <| nq (y_fld rfl fa61_0 (by decide)) <| nq (y_ldN rfl ag23 sz23 il (j_img b1)) <| nq (y_fld rfl fa61_1 (by decide)) <| nq (y_ld1 rfl ag54 (j_s b1 hi)) <| nq (y_build ti56 rfl rfl (by kernel_rfl) ((bldJ pl56_0 pl56_1 (by simp) hi hs2))) <| ?_
  refine nx0 (x_stA rfl rfl sz56 (j_len hi) (j_one hs) hb2 rfl fun w3 hf3 hb3 hs3 => ?_)
  refine nend <| qsub (sub_cons (t := 2) rfl <| sub_cons (t := 1) rfl <| sub_cons (t := 0) rfl <| sub_nil) <| qthen <| cret <| ?_
  exact retN trivial rfl rfl ag56 sz56 (j_len hi) hb3.cells0 ⟨rfl, (hf1.trans0 hf2).new hf3 (fun i hi => by omega)⟩
end Go.Proofs.Ytpcgpnijhpcbeaa
