/- Contracts: journals of the reference and of the program, but Add. -/
import Derived.Test.YtpcgpnijhpcbeaaJour1
import Derived.Test.YtpcgpnijhpcbeaaCrc
import Derived.Test.YtpcgpnijhpcbeaaEng8
set_option linter.unusedVariables false
set_option linter.unusedSimpArgs false
set_option maxRecDepth 20000
namespace Go.Proofs.Ytpcgpnijhpcbeaa
open Go.Eng Go.Hx
def goodL (ds : List (List UInt8)) : List (List UInt8) := (ds.take 6).foldl dput []
theorem fold_snoc (ds : List (List UInt8)) (k : Nat) (h : k < ds.length) : (ds.take (k + 1)).foldl dput [] = dput ((ds.take k).foldl dput []) (ds.getD k []) := by
  rw [List.take_succ_eq_append_getElem h, List.foldl_append, List.getD, List.getElem?_eq_getElem h]
  rfl
theorem fold_D32 {ds : List (List UInt8)} (h : D32 ds) (k : Nat) : D32 ((ds.take k).foldl dput []) ∧ ((ds.take k).foldl dput []).length ≤ k := by
  induction k with
  | zero => exact ⟨fun d hd => by simp at hd, by simp⟩
  | succ k ih =>
    by_cases hk : k < ds.length
    · rw [fold_snoc ds k hk]
      have := dput_length ((ds.take k).foldl dput []) (ds.getD k [])
      exact ⟨dput_D32 ih.1 (dc_getD h hk), by omega⟩
    · rw [List.take_of_length_le (by omega)] at ih ⊢
      exact ⟨ih.1, by omega⟩
theorem goodL_rise (ds : List (List UInt8)) : Rise (goodL ds) := by
  unfold goodL
  generalize ds.take 6 = l
  have : ∀ (l a : List (List UInt8)), Rise a → Rise (l.foldl dput a) := by
    intro l
    induction l with
    | nil => intro a h; exact h
    | cons d r ih => intro a h; exact ih _ (dput_rise a d h)
  exact this l [] trivial
theorem goodL_D32 {ds : List (List UInt8)} (h : D32 ds) : D32 (goodL ds) := (fold_D32 h 6).1
theorem goodL_length {ds : List (List UInt8)} (h : D32 ds) : (goodL ds).length ≤ 6 := (fold_D32 h 6).2
theorem take_min (ds : List (List UInt8)) (k : Nat) (h1 : k ≤ ds.length) (h2 : k ≤ 6) (h3 : ¬ (k < ds.length ∧ k < 6)) : ds.take k = ds.take 6 := by
  by_cases h : k = 6
  · rw [h]
  · rw [List.take_of_length_le (by omega), List.take_of_length_le (by omega)]
theorem own_slice1 {w : World} {b : Nat} {e : TypeId} {sz n : Nat} {v : Value} {xs : List Value} (h : Own w b e sz v n xs) : v.oneCell' = true ∧ v.cells.toList = [v] := by
  obtain ⟨A, c, rfl, _⟩ := h.slice
  exact ⟨rfl, rfl⟩
theorem rgood (img : List UInt8) (A : Option Addr) (n c : Nat) (ds : List (List UInt8)) (w : World) (hi : img.length = 32) (hr : Rd w 32 A n (dc ds)) (hD : D32 ds) (hn : n ≤ 140737488351232) :
    Calls Try.prog 24 #[.agg (b8s img ++ [Value.slice A n c]).toArray] w fun e w' => ∃ v, e = .returned (.agg (b8s img ++ [v]).toArray) ∧ Own w' w.heap.size 23 32 v (goodL ds).length (dc (goodL ds)) ∧ Fr No w w' := by
  have hl := dc_len hr hD
  have il : (b8s img).length = 32 := by rw [b8s_length]; exact hi
  refine enter (N := 29) Try.func24 rfl rfl (by simp) ?_
  refine cseq <| creg <| ?_
  refine nx (x_box rfl fun g1 w1 hg1 hf1 hb1 => ?_)
  rw [cells_agg] at hb1
  refine nx (x_alloc ti56 fun g2 w2 hg2 hf2 hb2 => ?_)
  have b12 := hb1.fr0 hf2
  refine nend <| qthen <| cseq <| creg <| nq (y_fld rfl fa56_0 (by decide)) <| nq (y_ldN rfl ag23 sz23 il (j_img b12)) <| nq (y_build ti56 rfl rfl (by kernel_rfl) ((bldJ0 pl56_0 (by simp) hi))) <| ?_
  refine nx (x_alloc ti56 fun g3 w3 hg3 hf3 hb3 => ?_)
  have b13 := b12.fr0 hf3
  have b23 := hb2.fr0 hf3
  have l12 := hb1.lt
  have l23 := hb2.lt
  have l3 := hb3.lt
  have s12 := hf2.size
  have s01 := hf1.size
  refine nx0 (x_stA rfl rfl sz56 (j_len hi) (j_one rfl) hb3 rfl fun w4 hf4 hb4 hs4 => ?_)
  have b14 := b13.fr hf4 (by omega)
  have b24 := b23.fr hf4 (by omega)
  have f04 : Fr No w w4 := ((hf1.trans0 hf2).trans0 hf3).new hf4 (fun i hi => by omega)
  refine nend <| qsub (sub_cons (t := 3) rfl <| sub_cons (t := 2) rfl <| sub_cons (t := 1) rfl <| sub_cons (t := 0) rfl <| sub_nil) <| qthen <| cseq <| cseq <| creg <| nq (y_assign rfl) <| nend <| qthen <| cblock <| ?_
  refine cloop2 (fun k _ => 6 - k) (fun k _ => [(1, .pointer (some ⟨g1, 0, none⟩)), (2, .pointer (some ⟨g2, 0, none⟩)), (3, .pointer (some ⟨g3, 0, none⟩)), (4, .int .i64 (k : Nat))]) (fun k v w' => k ≤ n ∧ k ≤ 6 ∧ Fr No w w' ∧ Blk w' g1 56 (b8s img ++ [Value.slice A n c]) ∧ (∃ cs, Blk w' g2 56 cs ∧ cs.length = 33) ∧ Blk w' g3 56 (b8s img ++ [v]) ∧ Own w' w4.heap.size 23 32 v ((ds.take k).foldl dput []).length (dc ((ds.take k).foldl dput [])) ∧ w4.heap.size ≤ w'.heap.size) 0 (.slice none 0 0) (⟨Nat.zero_le _, Nat.zero_le _, f04, b14, ⟨_, b24, rfl⟩, hb4, Own.nil _ _ _ _, Nat.le_refl _⟩) (sub_cons (t := 1) rfl <| sub_cons (t := 2) rfl <| sub_cons (t := 3) rfl <| sub_cons (t := 4) rfl <| sub_nil) (fun k v w5 ⟨hkn, hk6, f5, b15, ⟨cs2, b25, hcs2⟩, b35, ho5, s45⟩ => ?_)
  refine cseq <| cseq <| creg <| nq (y_move rfl) <| nq (y_fld rfl fa56_1 (by decide)) <| nq (y_ld1 rfl ag54 ((j_s b15 hi))) <| nq (y_lenS rfl Try.underlying54) <| nq (y_lss rfl rfl) <| nq (y_move rfl) <| ?_
  refine nsplit 13 rfl (fun h => ?_) (fun h => ?_)
  · refine ng rfl rfl rfl (y_move rfl) <| ng rfl rfl rfl (y_lss rfl rfl) <| nq (y_pickT rfl rfl) <| nend <| qsub (sub_cons (t := 16) rfl <| sub_cons (t := 1) rfl <| sub_cons (t := 2) rfl <| sub_cons (t := 3) rfl <| sub_cons (t := 4) rfl <| sub_nil) <| qthen <| ?_
    refine cif rfl (fun h2 => ?_) (fun h2 => ?_)
    · have hkl : k < ds.length := by omega
      have hd := dc_getD hD hkl
      have hfd := fold_D32 hD k
      refine cskip <| qthen <| cseq <| cblock <| ?_
      refine cdrwT [7, 9] [(0, some 0), (1, some 0), (2, some 0), (3, some 0), (4, some 0), (5, some 0), (6, some 0), (7, none), (8, some 1), (9, none)] (by kernel_rfl) (by kernel_rfl) rfl (fun k w' => k ≤ 1 → Fr No w5 w') (fun _ => Fr.drew _) (fun w6 hf6 hS6 => ?_)
      have hS6 := hS6 (by omega)
      refine tq1 (fun w_ hS_ => y_fld rfl fa56_1 (by decide)) <| tq1 (fun w_ hS_ => y_ld1 rfl ag54 ((j_s (b35.fr0 (hS_ (by omega))) hi))) <| tq1 (fun w_ hS_ => y_fld rfl fa56_1 (by decide)) <| tq1 (fun w_ hS_ => y_ld1 rfl ag54 ((j_s (b15.fr0 (hS_ (by omega))) hi))) <| tq1 (fun w_ hS_ => y_move rfl) <| tq1 (fun w_ hS_ => y_idxS rfl rfl Try.underlying54 sz23 (hr.2.1) rfl (by omega)) <| tq1 (fun w_ hS_ => y_ldN rfl ag23 sz23 ((by rw [b8s_length]; exact hd)) ((((hr.fr0 f5).fr0 (hS_ (by omega))).dig hD hkl))) <| ?_
      refine tx (x_call rfl Try.call32 (rput w4.heap.size v _ _ _ _ (ho5.fr0 hS6) hfd.1 hd (by have := hS6.size; omega) (by omega)) ?_)
      rintro e_ w7 ⟨v7, rfl, ho7, hf7⟩
      refine ⟨_, rfl, ?_⟩
      refine ⟨fun _ => hS6.trans0 hf7, ?_⟩
      rw [← fold_snoc ds k hkl] at ho7
      have f57 := hS6.trans0 hf7
      have s57 := f57.size
      have b37 := b35.fr0 f57
      obtain ⟨ho71, _⟩ := own_slice1 ho7
      refine tq1 (fun w_ hS_ => y_fld rfl fa56_1 (by decide)) <| ?_
      refine tx0 (x_st1a rfl rfl sz54 ho71 b37 (by rw [j_len hi]; decide) fun w8 hf8 b38 hs8 => ?_)
      refine ⟨fun h => absurd h (by omega), ?_⟩
      rw [Nat.zero_add, j_set hi] at b38
      have ho8 := ho7.fr hf8 (fun i hi => by have := (ho7.from hi).1; omega)
      refine tend <| qsub (sub_cons (t := 16) rfl <| sub_cons (t := 1) rfl <| sub_cons (t := 2) rfl <| sub_cons (t := 3) rfl <| sub_cons (t := 4) rfl <| sub_nil) <| qblock <| qthen <| creg <| nq (y_move rfl) <| nq (y_add rfl rfl (w64 (by omega) (by omega))) <| nq (y_assign rfl) <| nend <| qsub (sub_cons (t := 4) rfl <| sub_cons (t := 16) rfl <| sub_cons (t := 1) rfl <| sub_cons (t := 2) rfl <| sub_cons (t := 3) rfl <| sub_nil) <| ?_
      refine qloop2 (k + 1) v7 (sub_cons (t := 1) rfl <| sub_cons (t := 2) rfl <| sub_cons (t := 3) rfl <| sub_cons (t := 4) rfl <| sub_nil) (⟨by omega, by omega, (f5.trans0 f57).new hf8 (fun i hi => by omega), (b15.fr0 f57).fr hf8 (by omega), ⟨cs2, (b25.fr0 f57).fr hf8 (by omega), hcs2⟩, b38, ho8, by omega⟩) (by omega)
    · obtain ⟨hov, _⟩ := own_slice1 ho5
      refine cexit <| qthen_exit <| qthen_exit <| qblock_exit <| qthen <| cseq <| creg <| nq (y_ldN rfl ag56 sz56 ((j_len hi)) b35.cells0) <| ?_
      refine nx0 (x_stA rfl rfl sz56 (j_len hi) (j_one hov) b25 hcs2 fun w6 hf6 hb6 hs6 => ?_)
      refine nend <| qsub (sub_cons (t := 16) rfl <| sub_cons (t := 1) rfl <| sub_cons (t := 2) rfl <| sub_cons (t := 3) rfl <| sub_cons (t := 4) rfl <| sub_nil) <| qthen <| cret <| ?_
      have ho6 := ho5.fr hf6 (fun i hi => by have := (ho5.from hi).1; omega)
      rw [take_min ds k (by omega) hk6 (fun h => h2 (by omega))] at ho6
      exact retN trivial rfl rfl ag56 sz56 (j_len hi) hb6.cells0 ⟨v, rfl, ho6.wide (by omega), f5.new hf6 (fun i hi => by omega)⟩
  · refine nskip rfl rfl rfl (by decide) <| nskip rfl rfl rfl (by decide) <| nq (y_pickF rfl rfl) <| nend <| qsub (sub_cons (t := 16) rfl <| sub_cons (t := 1) rfl <| sub_cons (t := 2) rfl <| sub_cons (t := 3) rfl <| sub_cons (t := 4) rfl <| sub_nil) <| qthen <| ?_
    refine ciff rfl (rfl) ?_
    obtain ⟨hov, _⟩ := own_slice1 ho5
    refine cexit <| qthen_exit <| qthen_exit <| qblock_exit <| qthen <| cseq <| creg <| nq (y_ldN rfl ag56 sz56 ((j_len hi)) b35.cells0) <| ?_
    refine nx0 (x_stA rfl rfl sz56 (j_len hi) (j_one hov) b25 hcs2 fun w6 hf6 hb6 hs6 => ?_)
    refine nend <| qsub (sub_cons (t := 16) rfl <| sub_cons (t := 1) rfl <| sub_cons (t := 2) rfl <| sub_cons (t := 3) rfl <| sub_cons (t := 4) rfl <| sub_nil) <| qthen <| cret <| ?_
    have ho6 := ho5.fr hf6 (fun i hi => by have := (ho5.from hi).1; omega)
    rw [take_min ds k (by omega) hk6 (fun h' => h (by omega))] at ho6
    exact retN trivial rfl rfl ag56 sz56 (j_len hi) hb6.cells0 ⟨v, rfl, ho6.wide (by omega), f5.new hf6 (fun i hi => by omega)⟩
end Go.Proofs.Ytpcgpnijhpcbeaa
