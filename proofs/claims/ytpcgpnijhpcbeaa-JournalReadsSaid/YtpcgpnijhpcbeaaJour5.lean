/- Contracts: journal.Has, Add; the example. -/
import Derived.Test.YtpcgpnijhpcbeaaSlices
set_option linter.unusedVariables false
set_option linter.unusedSimpArgs false
set_option maxRecDepth 20000
namespace Go.Proofs.Ytpcgpnijhpcbeaa
open Go.Eng Go.Hx
theorem found_has {ds : List (List UInt8)} {d : List UInt8} {k : Nat} (h : Found ds d k) (hR : Rise ds) : (k < ds.length ∧ cb (ds.getD k []) d = 0) ↔ d ∈ ds := by
  constructor
  · rintro ⟨h1, h2⟩
    have h3 := cb_eq _ _ h2
    rw [List.getD, List.getElem?_eq_getElem h1] at h3
    simp only [Option.getD_some] at h3
    rw [← h3]
    exact List.getElem_mem h1
  · intro hm
    obtain ⟨q, hq, he⟩ := List.getElem_of_mem hm
    have hgq : ds.getD q [] = d := by rw [List.getD, List.getElem?_eq_getElem hq]; simpa using he
    have h0 : cb (ds.getD q []) d = 0 := by rw [hgq]; exact cb_self d
    rcases Nat.lt_or_ge q k with h1 | h1
    · have := h.lt q h1; omega
    · rcases Nat.eq_or_lt_of_le h1 with h2 | h2
      · subst h2; exact ⟨hq, h0⟩
      · exact absurd (by have h3 := rise_lt hR q k h2 hq; rw [hgq] at h3; exact h3) (h.ge k (Nat.le_refl _) (by omega))
theorem has (img : List UInt8) (A : Option Addr) (n c : Nat) (ds : List (List UInt8)) (d : List UInt8) (w : World) (hi : img.length = 32) (hr : Rd w 32 A n (dc ds)) (hD : D32 ds) (hR : Rise ds) (hd : d.length = 32) (hn : n ≤ 1000000) :
    Calls Try.prog 35 #[.agg (b8s img ++ [Value.slice A n c]).toArray, .agg (b8s d).toArray] w fun e w' => e = .returned (.bool (decide (d ∈ ds))) ∧ Fr No w w' := by
  have hl := dc_len hr hD
  have dl : (b8s d).length = 32 := by rw [b8s_length]; exact hd
  refine enter (N := 15) Try.func35 rfl rfl (by simp) ?_
  refine cseq <| creg <| ?_
  refine nx (x_box rfl fun g1 w1 hg1 hf1 hb1 => ?_)
  refine nx (x_box rfl fun g2 w2 hg2 hf2 hb2 => ?_)
  rw [cells_agg] at hb1 hb2
  have b1 := hb1.fr0 hf2
  refine nq (y_assign rfl) <| nend <| qthen <| cseq <| creg <| nq (y_fld rfl fa61_1 (by decide)) <| nq (y_ld1 rfl ag54 (j_s b1 hi)) <| nq (y_ldN rfl ag23 sz23 dl hb2.cells0) <| ?_
  refine nx (x_call rfl Try.call58 (bsearch A n c ds d _ ((hr.fr0 hf1).fr0 hf2) hD hR hd hn) ?_)
  rintro e_ w3 ⟨k, rfl, hF, hf3⟩
  refine ⟨_, rfl, ?_⟩
  refine nq (y_move rfl) <| nq (y_extract rfl rfl) <| nq (y_extract rfl rfl) <| nq (y_assign rfl) <| nq (y_assign rfl) <| nend <| qsub (sub_cons (t := 6) rfl <| sub_cons (t := 4) rfl <| sub_cons (t := 3) rfl <| sub_cons (t := 2) rfl <| sub_cons (t := 0) rfl <| sub_cons (t := 1) rfl <| sub_nil) <| qthen <| cseq <| creg <| nq (y_move rfl) <| nq (y_assign rfl) <| nend <| qsub (sub_cons (t := 4) rfl <| sub_cons (t := 6) rfl <| sub_cons (t := 3) rfl <| sub_cons (t := 2) rfl <| sub_cons (t := 0) rfl <| sub_cons (t := 1) rfl <| sub_nil) <| qthen <| cret <| ?_
  refine ret1 trivial rfl rfl ⟨?_, (hf1.trans0 hf2).trans0 hf3⟩
  have := found_has hF hR
  rw [hl] at this
  show Ending.returned (.bool (decide (k < n ∧ cb (ds.getD k []) d = 0))) = _
  simp only [this]
/-- what Add tells: a done one that is there, or full, or one more -/
def addL (ds : List (List UInt8)) (d : List UInt8) : List (List UInt8) := if d ∈ ds then ds else if 4096 ≤ ds.length then [] else dput ds d
theorem dput_mem {ds : List (List UInt8)} {d : List UInt8} {k : Nat} (h : Found ds d k) (hR : Rise ds) : dput ds d = if d ∈ ds then ds else ds.take k ++ [d] ++ ds.drop k := by
  have e := dput_at ds d k h.le h.lt (fun hk => h.ge k (Nat.le_refl _) hk)
  rw [e]
  have h1 : (k < ds.length ∧ ds.getD k [] = d) ↔ d ∈ ds := by
    rw [← found_has h hR]
    exact ⟨fun ⟨a, b⟩ => ⟨a, by rw [b]; exact cb_self d⟩, fun ⟨a, b⟩ => ⟨a, cb_eq _ _ b⟩⟩
  simp only [h1]
theorem add (img : List UInt8) (A : Option Addr) (n c : Nat) (ds : List (List UInt8)) (d : List UInt8) (w : World) (hi : img.length = 32) (hr : Rd w 32 A n (dc ds)) (hD : D32 ds) (hR : Rise ds) (hd : d.length = 32) (hn : n ≤ 1000000) :
    Calls Try.prog 31 #[.agg (b8s img ++ [Value.slice A n c]).toArray, .agg (b8s d).toArray] w fun e w' => ((∃ v, (d ∈ ds ∨ n < 4096) ∧ e = .returned (.tuple #[.agg (b8s img ++ [v]).toArray, .int .i64 0]) ∧ Own w' w.heap.size 23 32 v (dput ds d).length (dc (dput ds d))) ∨ (¬ d ∈ ds ∧ 4096 ≤ n ∧ e = .returned (.tuple #[.agg (b8s (List.replicate 32 0) ++ [Value.slice none 0 0]).toArray, .int .i64 5]))) ∧ Fr No w w' := by
  have hl := dc_len hr hD
  have dl : (b8s d).length = 32 := by rw [b8s_length]; exact hd
  refine enter (N := 36) Try.func31 rfl rfl (by simp) ?_
  refine cseq <| creg <| ?_
  refine nx (x_box rfl fun g1 w1 hg1 hf1 hb1 => ?_)
  refine nx (x_box rfl fun g2 w2 hg2 hf2 hb2 => ?_)
  refine nx (x_alloc ti61 fun g3 w3 hg3 hf3 hb3 => ?_)
  rw [cells_agg] at hb1 hb2
  have l1 := hb1.lt
  have l2 := hb2.lt
  have l3 := hb3.lt
  have s1 := hf1.size
  have s2 := hf2.size
  have s3 := hf3.size
  have b1 := (hb1.fr0 hf2).fr0 hf3
  have b2 := hb2.fr0 hf3
  have f3 := (hf1.trans0 hf2).trans0 hf3
  refine nq (y_assign rfl) <| nend <| qthen <| cseq <| creg <| nq (y_fld rfl fa61_1 (by decide)) <| nq (y_ld1 rfl ag54 (j_s b1 hi)) <| nq (y_ldN rfl ag23 sz23 dl b2.cells0) <| ?_
  refine nx (x_call rfl Try.call58 (bsearch A n c ds d _ (hr.fr0 f3) hD hR hd hn) ?_)
  rintro e_ w4 ⟨k, rfl, hF, hf4⟩
  refine ⟨_, rfl, ?_⟩
  have hfm := found_has hF hR
  rw [hl] at hfm
  have hpm := dput_mem hF hR
  have hkn : k ≤ n := by have := hF.le; omega
  have f4 := f3.trans0 hf4
  have s4 := hf4.size
  have b14 := b1.fr0 hf4
  have b24 := b2.fr0 hf4
  have b34 := hb3.fr0 hf4
  refine nq (y_move rfl) <| nq (y_extract rfl rfl) <| nq (y_extract rfl rfl) <| nq (y_assign rfl) <| nq (y_assign rfl) <| nend <| qsub (sub_cons (t := 7) rfl <| sub_cons (t := 6) rfl <| sub_cons (t := 5) rfl <| sub_cons (t := 4) rfl <| sub_cons (t := 3) rfl <| sub_cons (t := 2) rfl <| sub_cons (t := 0) rfl <| sub_cons (t := 1) rfl <| sub_nil) <| qthen <| cseq <| creg <| nq (y_fld rfl fa61_1 (by decide)) <| nq (y_ld1 rfl ag54 (j_s b14 hi)) <| ?_
  refine nx (x_call rfl Try.call60 (sclone A n c ds _ (hr.fr0 f4) hD hn) ?_)
  rintro e_ w5 ⟨v5, rfl, ho5, hf5⟩
  refine ⟨_, rfl, ?_⟩
  have s5 := hf5.size
  have b15 := b14.fr0 hf5
  obtain ⟨ov5, _⟩ := own_slice1 ho5
  refine nq (y_fld rfl fa61_1 (by decide)) <| ?_
  refine nx0 (x_st1a rfl rfl sz54 ov5 b15 (by rw [j_len hi]; decide) fun w6 hf6 b16 hs6 => ?_)
  rw [Nat.zero_add, j_set hi] at b16
  have ho6 := ho5.fr hf6 (fun i hi => by have := (ho5.from hi).1; omega)
  have b26 := (b24.fr0 hf5).fr hf6 (by omega)
  have b36 := (b34.fr0 hf5).fr hf6 (by omega)
  have f6 : Fr No w w6 := (f4.trans0 hf5).new hf6 (fun i hi => by omega)
  simp only [hfm]
  refine nend <| qsub (sub_cons (t := 7) rfl <| sub_cons (t := 6) rfl <| sub_cons (t := 5) rfl <| sub_cons (t := 4) rfl <| sub_cons (t := 3) rfl <| sub_cons (t := 2) rfl <| sub_cons (t := 0) rfl <| sub_cons (t := 1) rfl <| sub_nil) <| qthen <| cseq <| cblock <| cseq <| creg <| nq (y_move rfl) <| nq (y_assign rfl) <| nend <| qsub (sub_cons (t := 19) rfl <| sub_cons (t := 7) rfl <| sub_cons (t := 6) rfl <| sub_cons (t := 5) rfl <| sub_cons (t := 4) rfl <| sub_cons (t := 3) rfl <| sub_cons (t := 2) rfl <| sub_cons (t := 0) rfl <| sub_cons (t := 1) rfl <| sub_nil) <| qthen <| ?_
  refine cif rfl (fun h => ?_) (fun h => ?_)
  · refine cseq <| creg <| nq (y_ldN rfl ag61 sz61 ((j_len hi)) b16.cells0) <| ?_
    refine nx0 (x_stA rfl rfl sz61 (j_len hi) (j_one ov5) b36 rfl fun w7 hf7 hb7 hs7 => ?_)
    refine nq (y_assign rfl) <| nend <| qsub (sub_cons (t := 5) rfl <| sub_cons (t := 19) rfl <| sub_cons (t := 7) rfl <| sub_cons (t := 6) rfl <| sub_cons (t := 4) rfl <| sub_cons (t := 3) rfl <| sub_cons (t := 2) rfl <| sub_cons (t := 0) rfl <| sub_cons (t := 1) rfl <| sub_nil) <| qthen <| cret <| qblock_ret <| qthen_ret <| ?_
    have ho7 := ho6.fr hf7 (fun i hi => by have := (ho6.from hi).1; omega)
    refine retN1 trivial rfl rfl rfl ag61 sz61 (j_len hi) hb7.cells0 ⟨.inl ⟨v5, .inl h, rfl, ?_⟩, f6.new hf7 (fun i hi => by omega)⟩
    rw [hpm, if_pos h, hl]
    exact ho7.wide (by omega)
  · obtain ⟨A5, c5, rfl, hc5⟩ := ho6.slice
    refine cseq <| creg <| nq (y_fld rfl fa61_1 (by decide)) <| nq (y_ld1 rfl ag54 (j_s b16 hi)) <| nq (y_lenS rfl Try.underlying54) <| nq (y_geq rfl rfl) <| nq (y_assign rfl) <| nend <| qsub (sub_cons (t := 22) rfl <| sub_cons (t := 19) rfl <| sub_cons (t := 7) rfl <| sub_cons (t := 6) rfl <| sub_cons (t := 5) rfl <| sub_cons (t := 4) rfl <| sub_cons (t := 3) rfl <| sub_cons (t := 2) rfl <| sub_cons (t := 0) rfl <| sub_cons (t := 1) rfl <| sub_nil) <| qthen <| ?_
    refine cif rfl (fun h2 => ?_) (fun h2 => ?_)
    · refine cseq <| creg <| nq (y_build0 ti61 rfl (by kernel_rfl)) <| ?_
      refine nx0 (x_stA rfl rfl sz61 rfl (j_one (img := List.replicate 32 0) (s := .slice none 0 0) rfl) b36 rfl fun w7 hf7 hb7 hs7 => ?_)
      refine nq (y_assign rfl) <| nend <| qsub (sub_cons (t := 5) rfl <| sub_cons (t := 22) rfl <| sub_cons (t := 19) rfl <| sub_cons (t := 7) rfl <| sub_cons (t := 6) rfl <| sub_cons (t := 4) rfl <| sub_cons (t := 3) rfl <| sub_cons (t := 2) rfl <| sub_cons (t := 0) rfl <| sub_cons (t := 1) rfl <| sub_nil) <| qthen <| cret <| qblock_ret <| qthen_ret <| ?_
      exact retN1 trivial rfl rfl rfl ag61 sz61 rfl hb7.cells0 ⟨.inr ⟨h, by omega, rfl⟩, f6.new hf7 (fun i hi => by omega)⟩
    · refine cskip <| qblock <| qthen <| cseq <| creg <| nq (y_fld rfl fa61_1 (by decide)) <| nq (y_ld1 rfl ag54 (j_s b16 hi)) <| nq (y_move rfl) <| nq (y_ldN rfl ag23 sz23 dl b26.cells0) <| ?_
      refine nx (x_bslR Try.underlying54 ti23 rfl rfl rfl (by simp [Value.cells, dl]) (by decide) (by decide) fun g8 w8 hg8 hf8 hh8 => ?_)
      have hh8 : w8.heap[g8]? = some (.cells (dc [d]).toArray 23 (0, 0)) := by simpa [Value.cells, dc] using hh8
      have s8 := hf8.size
      have b18 := b16.fr0 hf8
      have b38 := b36.fr0 hf8
      refine nx (x_call rfl Try.call61 (insert w4.heap.size _ n k g8 _ ds d _ (ho6.fr0 hf8) hD hd hkn hn (by omega) hh8 (fun hv => by have := (ho6.from hv).2; omega)) ?_)
      rintro e_ w9 ⟨v9, rfl, ho9, hf9⟩
      refine ⟨_, rfl, ?_⟩
      have s9 := hf9.size
      have hv5 : ∀ i, vblk (Value.slice A5 n c5) i → w4.heap.size ≤ i := fun i hi => (ho6.from hi).1
      have b19 := b18.fr hf9 (fun hv => by have := hv5 _ hv; omega)
      have b39 := b38.fr hf9 (fun hv => by have := hv5 _ hv; omega)
      have f9 : Fr No w w9 := (f6.trans0 hf8).new hf9 (fun i hi => by have := hv5 _ hi; omega)
      obtain ⟨ov9, _⟩ := own_slice1 ho9
      refine nq (y_fld rfl fa61_1 (by decide)) <| ?_
      refine nx0 (x_st1a rfl rfl sz54 ov9 b19 (by rw [j_len hi]; decide) fun w10 hf10 b110 hs10 => ?_)
      rw [Nat.zero_add, j_set hi] at b110
      have b310 := b39.fr hf10 (by omega)
      have ho10 := ho9.fr hf10 (fun i hi => by have := (ho9.from hi).1; omega)
      refine nend <| qsub (sub_cons (t := 22) rfl <| sub_cons (t := 19) rfl <| sub_cons (t := 7) rfl <| sub_cons (t := 6) rfl <| sub_cons (t := 5) rfl <| sub_cons (t := 4) rfl <| sub_cons (t := 3) rfl <| sub_cons (t := 2) rfl <| sub_cons (t := 0) rfl <| sub_cons (t := 1) rfl <| sub_nil) <| qthen <| cseq <| creg <| nq (y_ldN rfl ag61 sz61 ((j_len hi)) b110.cells0) <| ?_
      refine nx0 (x_stA rfl rfl sz61 (j_len hi) (j_one ov9) b310 rfl fun w11 hf11 hb11 hs11 => ?_)
      refine nq (y_assign rfl) <| nend <| qsub (sub_cons (t := 5) rfl <| sub_cons (t := 22) rfl <| sub_cons (t := 19) rfl <| sub_cons (t := 7) rfl <| sub_cons (t := 6) rfl <| sub_cons (t := 4) rfl <| sub_cons (t := 3) rfl <| sub_cons (t := 2) rfl <| sub_cons (t := 0) rfl <| sub_cons (t := 1) rfl <| sub_nil) <| qthen <| cret <| ?_
      have ho11 := ho10.fr hf11 (fun i hi => by have := (ho10.from hi).1; omega)
      refine retN1 trivial rfl rfl rfl ag61 sz61 (j_len hi) hb11.cells0 ⟨.inl ⟨v9, .inr (by omega), rfl, ?_⟩, (f9.new hf10 (fun i hi => by omega)).new hf11 (fun i hi => by omega)⟩
      rw [hpm, if_neg h]
      have hlen : (ds.take k ++ [d] ++ ds.drop k).length = n + 1 := by simp [hl]; omega
      rw [hlen]
      exact ho11.wide (by omega)
theorem add_ok (img : List UInt8) (A : Option Addr) (n c : Nat) (ds : List (List UInt8)) (d : List UInt8) (w : World) (hi : img.length = 32) (hr : Rd w 32 A n (dc ds)) (hD : D32 ds) (hR : Rise ds) (hd : d.length = 32) (hn : n < 4096) :
    Calls Try.prog 31 #[.agg (b8s img ++ [Value.slice A n c]).toArray, .agg (b8s d).toArray] w fun e w' => ∃ v, e = .returned (.tuple #[.agg (b8s img ++ [v]).toArray, .int .i64 0]) ∧ Own w' w.heap.size 23 32 v (dput ds d).length (dc (dput ds d)) ∧ Fr No w w' := by
  refine (add img A n c ds d w hi hr hD hR hd (by omega)).mono fun e w' h => ?_
  rcases h with ⟨⟨v, _, h1, h2⟩ | ⟨_, h1, _⟩, hf⟩
  · exact ⟨v, h1, h2, hf⟩
  · omega
theorem may_nil : JMay [] := by decide
theorem D32nil : D32 [] := fun x hx => by cases hx
theorem bldD (x : UInt8) : Bld Try.prog (plB Try.prog 23) (b8s (List.replicate 32 0)) [(0, B8 x)] (b8s (x :: List.replicate 31 0)) :=
  .cons (o := 0) (sz := 1) (by kernel_rfl) rfl rfl (by decide) .nil
theorem lives17 (w : World) : Calls Try.prog 30 #[] w fun e w' => e = .returned (.bool true) ∧ Fr No w w' := by
  have z32 : (List.replicate 32 (0 : UInt8)).length = 32 := by simp
  have h7 : ((7 : UInt8) :: List.replicate 31 0).length = 32 := by simp
  have h8 : ((8 : UInt8) :: List.replicate 31 0).length = 32 := by simp
  refine enter (N := 44) Try.func30 rfl rfl (by simp) ?_
  refine cseq <| creg <| nq (y_assign rfl) <| nend <| qthen <| cseq <| creg <| nq (y_build0 ti61 rfl (by kernel_rfl)) <| ?_
  refine nx (x_call rfl Try.call26 (write (List.replicate 32 0) none 0 0 [] _ z32 (Rd.nil _ _ _) D32nil (by omega)) ?_)
  rintro e_ w1 ⟨⟨v1, rfl, hv1, _⟩, hf1⟩
  refine ⟨_, rfl, ?_⟩
  have ho1 := hv1 may_nil
  obtain ⟨A1, c1, rfl, hc1⟩ := ho1.slice
  rw [jbody_length z32 D32nil] at ho1 ⊢
  rw [if_pos may_nil]
  refine nq (y_move rfl) <| nq (y_extract rfl rfl) <| nq (y_extract rfl rfl) <| nq (y_assign rfl) <| nq (y_assign rfl) <| nend <| qsub (sub_cons (t := 2) rfl <| sub_cons (t := 1) rfl <| sub_cons (t := 0) rfl <| sub_nil) <| qthen <| cseq <| creg <| nq (y_build0 ti61 rfl (by kernel_rfl)) <| nq (y_build ti23 rfl rfl (by kernel_rfl) ((bldD 7))) <| ?_
  refine nx (x_call rfl Try.call31 (add_ok (List.replicate 32 0) none 0 0 [] (7 :: List.replicate 31 0) _ z32 (Rd.nil _ _ _) D32nil trivial h7 (by omega)) ?_)
  rintro e_ w2 ⟨v2, rfl, ho2, hf2⟩
  refine ⟨_, rfl, ?_⟩
  obtain ⟨A2, c2, rfl, hc2⟩ := ho2.slice
  have r2 := (Own.rd ho2).2.2
  have e2 : dput [] ((7 : UInt8) :: List.replicate 31 0) = [7 :: List.replicate 31 0] := rfl
  rw [e2] at ho2 r2 ⊢
  have hDs : D32 [(7 : UInt8) :: List.replicate 31 0] := fun x hx => by
    have : x = (7 : UInt8) :: List.replicate 31 0 := by simpa using hx
    rw [this]; exact h7
  refine nq (y_move rfl) <| nq (y_extract rfl rfl) <| nq (y_extract rfl rfl) <| ?_
  refine nx (x_alloc ti61 fun g3 w3 hg3 hf3 hb3 => ?_)
  refine nx0 (x_stA rfl rfl sz61 (j_len z32) (j_one rfl) hb3 rfl fun w4 hf4 hb4 hs4 => ?_)
  have f24 : Fr No w2 w4 := hf3.new hf4 (fun i hi => by omega)
  refine nq (y_assign rfl) <| nend <| qsub (sub_cons (t := 4) rfl <| sub_cons (t := 3) rfl <| sub_cons (t := 2) rfl <| sub_cons (t := 1) rfl <| sub_cons (t := 0) rfl <| sub_nil) <| qthen <| cseq <| creg <| nq (y_move rfl) <| nq (yT (y_eql rfl rfl) (decide_eq_true rfl)) <| nq (y_move rfl) <| ng rfl rfl rfl (y_move rfl) <| ng rfl rfl rfl (y_lenS rfl Try.underlying29) <| ng rfl rfl rfl (yT (y_eql rfl rfl) (decide_eq_true rfl)) <| nq (y_pickT rfl rfl) <| nq (y_move rfl) <| ng rfl rfl rfl (y_move rfl) <| ng rfl rfl rfl (yT (y_eql rfl rfl) (decide_eq_true rfl)) <| nq (y_pickT rfl rfl) <| nq (y_move rfl) <| ng rfl rfl rfl (y_fld rfl fa61_1 (by decide)) <| ng rfl rfl rfl (y_ld1 rfl ag54 (j_s hb4 z32)) <| ng rfl rfl rfl (y_lenS rfl Try.underlying54) <| ng rfl rfl rfl (yT (y_eql rfl rfl) (decide_eq_true rfl)) <| nq (y_pickT rfl rfl) <| nq (y_move rfl) <| ng rfl rfl rfl (y_ldN rfl ag61 sz61 ((j_len z32)) hb4.cells0) <| ng rfl rfl rfl (y_build ti23 rfl rfl (by kernel_rfl) ((bldD 7))) <| ?_
  refine nxg rfl rfl rfl (x_call rfl Try.call35 (has (List.replicate 32 0) A2 1 c2 [7 :: List.replicate 31 0] (7 :: List.replicate 31 0) _ z32 (r2.fr0 f24) hDs trivial h7 (by omega)) ?_)
  rintro e_ w5 ⟨rfl, hf5⟩
  refine ⟨_, rfl, ?_⟩
  rw [show decide ((7 : UInt8) :: List.replicate 31 0 ∈ [(7 : UInt8) :: List.replicate 31 0]) = true by decide]
  refine nq (y_pickT rfl rfl) <| nq (y_move rfl) <| ng rfl rfl rfl (y_ldN rfl ag61 sz61 ((j_len z32)) ((hb4.fr0 hf5).cells0)) <| ng rfl rfl rfl (y_build ti23 rfl rfl (by kernel_rfl) ((bldD 8))) <| ?_
  refine nxg rfl rfl rfl (x_call rfl Try.call35 (has (List.replicate 32 0) A2 1 c2 [7 :: List.replicate 31 0] (8 :: List.replicate 31 0) _ z32 ((r2.fr0 f24).fr0 hf5) hDs trivial h8 (by omega)) ?_)
  rintro e_ w6 ⟨rfl, hf6⟩
  refine ⟨_, rfl, ?_⟩
  rw [show decide ((8 : UInt8) :: List.replicate 31 0 ∈ [(7 : UInt8) :: List.replicate 31 0]) = false by decide]
  refine ng rfl rfl rfl ((y_not rfl)) <| nq (y_pickT rfl rfl) <| nq (y_assign rfl) <| nend <| qsub (sub_cons (t := 0) rfl <| sub_cons (t := 4) rfl <| sub_cons (t := 3) rfl <| sub_cons (t := 2) rfl <| sub_cons (t := 1) rfl <| sub_nil) <| qthen <| cret <| ?_
  exact ret1 trivial rfl rfl ⟨rfl, ((((hf1.trans0 hf2).trans0 f24).trans0 hf5).trans0 hf6)⟩
end Go.Proofs.Ytpcgpnijhpcbeaa
