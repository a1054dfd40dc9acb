/- Contracts: rows of digests of the reference, journals of the reference. -/
import Derived.Test.YtpcgpnijhpcbeaaDig1
import Derived.Test.YtpcgpnijhpcbeaaPlainDig
set_option linter.unusedVariables false
set_option linter.unusedSimpArgs false
set_option maxRecDepth 20000
namespace Go.Proofs.Ytpcgpnijhpcbeaa
open Go.Eng Go.Hx
theorem dc_len {w : World} {A : Option Addr} {n : Nat} {ds : List (List UInt8)} (h : Rd w 32 A n (dc ds)) (hd : D32 ds) : ds.length = n := by
  have := h.1
  rw [dc_length hd] at this
  omega
theorem lt_step {P : Nat → Prop} {k : Nat} (h : ∀ i, i < k → P i) (hk : P k) : ∀ i, i < k + 1 → P i := fun i hi => by
  rcases Nat.lt_or_ge i k with h1 | h1
  · exact h i h1
  · have : i = k := by omega
    rw [this]; exact hk
theorem rput (b : Nat) (v : Value) (n : Nat) (ds : List (List UInt8)) (d : List UInt8) (w : World) (ho : Own w b 23 32 v n (dc ds)) (hD : D32 ds) (hd : d.length = 32) (hb : b ≤ w.heap.size) (hn : n ≤ 1000000) :
    Calls Try.prog 32 #[v, .agg (b8s d).toArray] w fun e w' => ∃ v', e = .returned v' ∧ Own w' b 23 32 v' (dput ds d).length (dc (dput ds d)) ∧ Fr No w w' := by
  obtain ⟨A, c, rfl, hc⟩ := ho.slice
  have hr := (Own.rd ho).2.2
  have hl := dc_len hr hD
  have dl : (b8s d).length = 32 := by rw [b8s_length]; exact hd
  refine enter (N := 53) Try.func32 rfl rfl (by simp) ?_
  refine cseq <| creg <| ?_
  refine nx (x_box rfl fun g1 w1 hg1 hf1 hb1 => ?_)
  rw [cells_agg] at hb1
  refine nq (y_assign rfl) <| nend <| qthen <| cseq <| creg <| nq (y_assign rfl) <| nend <| qthen <| cseq <| cblock <| ?_
  have hB : ∀ w', Fr No w1 w' → Blk w' g1 23 (b8s d) := fun w' f => hb1.fr0 f
  have hR : ∀ w', Fr No w1 w' → Rd w' 32 A n (dc ds) := fun w' f => (hr.fr0 hf1).fr0 f
  have hdi : ∀ i, i < n → (ds.getD i []).length = 32 := fun i hi => dc_getD hD (by omega)
  have hdl : ∀ i, i < n → (b8s (ds.getD i [])).length = 32 := fun i hi => by rw [b8s_length]; exact hdi i hi
  refine cloop1 (fun k => n - k) (fun k => [(0, .slice A n c), (3, .pointer (some ⟨g1, 0, none⟩)), (5, .int .i64 (k : Nat))]) (fun k w' => k ≤ n ∧ (∀ i, i < k → cb (ds.getD i []) d < 0) ∧ Fr No w1 w') 0 (⟨Nat.zero_le _, fun i hi => absurd hi (by omega), Fr.refl _ _⟩) (sub_cons (t := 0) rfl <| sub_cons (t := 3) rfl <| sub_cons (t := 5) rfl <| sub_nil) (fun k w2 ⟨hk, hlt, hf2⟩ => ?_)
  refine cseq <| cseq <| ?_
  refine cdrw [(0, false), (1, false), (2, false), (3, false), (4, false), (5, false), (6, false), (7, false), (8, false), (9, false), (10, true), (11, false), (12, false)] (by kernel_rfl) (by kernel_rfl) rfl (fun w' => Fr No w1 w') (hf2.trans0 (Fr.drew _)) (fun w3 hf3 hS3 => ?_)
  refine sq (fun w_ hS_ => y_move rfl) <| sq (fun w_ hS_ => y_move rfl) <| sq (fun w_ hS_ => y_lenS rfl Try.underlying54) <| sq (fun w_ hS_ => y_lss rfl rfl) <| sq (fun w_ hS_ => y_move rfl) <| ?_
  refine ssplit 11 rfl (fun h => ?_) (fun h => ?_)
  · refine sqg (o := _) rfl rfl rfl (fun w_ hS_ => y_move rfl) <| sqg (o := _) rfl rfl rfl (fun w_ hS_ => y_move rfl) <| sqg (o := _) rfl rfl rfl (fun w_ hS_ => y_idxS rfl rfl Try.underlying54 sz23 ((hR w1 (Fr.refl _ _)).2.1) rfl (by omega)) <| sqg (o := _) rfl rfl rfl (fun w_ hS_ => y_ldN rfl ag23 sz23 ((hdl k (by omega))) (((hR _ hS_).dig hD (by omega)))) <| sqg (o := _) rfl rfl rfl (fun w_ hS_ => y_ldN rfl ag23 sz23 dl ((hB _ hS_).cells0)) <| ?_
    refine sxg rfl rfl rfl (x_call rfl Try.call55 (rcompare _ d _ (hdi k (by omega)) hd) ?_)
    rintro e_ w4 ⟨rfl, hf4⟩
    refine ⟨_, rfl, ?_⟩
    refine ⟨hS3.trans0 hf4, ?_⟩
    have hS4 := hS3.trans0 hf4
    refine sqg (o := _) rfl rfl rfl (fun w_ hS_ => y_lss rfl rfl) <| sq (fun w_ hS_ => y_pickT rfl rfl) <| send <| qsub (sub_cons (t := 19) rfl <| sub_cons (t := 0) rfl <| sub_cons (t := 3) rfl <| sub_cons (t := 5) rfl <| sub_nil) <| qthen <| ?_
    refine cif rfl (fun h2 => ?_) (fun h2 => ?_)
    · refine cskip <| qthen <| cblock <| creg <| nq (y_move rfl) <| nq (y_add rfl rfl (w64 (by omega) (by omega))) <| nq (y_assign rfl) <| nend <| qsub (sub_cons (t := 5) rfl <| sub_cons (t := 19) rfl <| sub_cons (t := 0) rfl <| sub_cons (t := 3) rfl <| sub_nil) <| qblock <| ?_
      refine qloop1 (k + 1) (sub_cons (t := 0) rfl <| sub_cons (t := 3) rfl <| sub_cons (t := 5) rfl <| sub_nil) (⟨by omega, lt_step hlt h2, hS4⟩) (by omega)
    · refine cexit <| qthen_exit <| qthen_exit <| qblock_exit <| qthen <| cseq <| cseq <| ?_
      refine cdrw [(0, false), (1, false), (2, false), (3, false), (4, false), (5, false), (6, false), (7, false), (8, false), (9, false), (10, false), (11, false), (12, false), (13, false), (14, false), (15, false)] (by kernel_rfl) (by kernel_rfl) rfl (fun w' => Fr No w1 w') (hS4.trans0 (Fr.drew _)) (fun w5 hf5 hS5 => ?_)
      have heq := dput_at ds d k (by omega) hlt (fun h => h2)
      refine sq (fun w_ hS_ => y_move rfl) <| sq (fun w_ hS_ => y_move rfl) <| sq (fun w_ hS_ => y_lenS rfl Try.underlying54) <| sq (fun w_ hS_ => y_lss rfl rfl) <| sq (fun w_ hS_ => y_move rfl) <| ?_
      refine ssplit 26 rfl (fun h3 => ?_) (fun h3 => ?_)
      · refine sqg (o := _) rfl rfl rfl (fun w_ hS_ => y_move rfl) <| sqg (o := _) rfl rfl rfl (fun w_ hS_ => y_move rfl) <| sqg (o := _) rfl rfl rfl (fun w_ hS_ => y_move rfl) <| sqg (o := _) rfl rfl rfl (fun w_ hS_ => y_lenS rfl Try.underlying54) <| sqg (o := _) rfl rfl rfl (fun w_ hS_ => y_sub rfl rfl (w64 (by omega) (by omega))) <| sqg (o := _) rfl rfl rfl (fun w_ hS_ => y_min rfl rfl) <| sqg (o := _) rfl rfl rfl (fun w_ hS_ => y_idxS rfl rfl Try.underlying54 sz23 ((hR w1 (Fr.refl _ _)).2.1) (show ((k : Nat) : Int) = min (k : Int) ((n : Int) - 1) by omega) (by omega)) <| sqg (o := _) rfl rfl rfl (fun w_ hS_ => y_ldN rfl ag23 sz23 ((hdl k (by omega))) (((hR _ hS_).dig hD (by omega)))) <| sqg (o := _) rfl rfl rfl (fun w_ hS_ => y_ldN rfl ag23 sz23 dl ((hB _ hS_).cells0)) <| sqg (o := _) rfl rfl rfl (fun w_ hS_ => y_eqD23 rfl rfl (hdi k (by omega)) hd) <| sq (fun w_ hS_ => y_pickT rfl rfl) <| send <| qsub (sub_cons (t := 37) rfl <| sub_cons (t := 19) rfl <| sub_cons (t := 0) rfl <| sub_cons (t := 3) rfl <| sub_cons (t := 5) rfl <| sub_nil) <| qthen <| ?_
        refine cif rfl (fun h4 => ?_) (fun h4 => ?_)
        · refine cseq <| creg <| nq (y_move rfl) <| nq (y_assign rfl) <| nend <| qsub (sub_cons (t := 4) rfl <| sub_cons (t := 37) rfl <| sub_cons (t := 19) rfl <| sub_cons (t := 0) rfl <| sub_cons (t := 3) rfl <| sub_cons (t := 5) rfl <| sub_nil) <| qthen <| cret <| qthen_ret <| ?_
          rw [if_pos ⟨by omega, h4⟩] at heq
          refine ret1 trivial rfl rfl ⟨_, rfl, ?_, hf1.trans0 hS5⟩
          rw [heq, hl]
          exact (ho.fr0 hf1).fr0 hS5
        · have hne : ¬ (k < ds.length ∧ ds.getD k [] = d) := fun h => h4 h.2
          rw [if_neg hne] at heq
          have r5 := hR _ hS5
          refine cskip <| qthen <| cseq <| creg <| nq (y_assign rfl) <| nend <| qthen <| cseq <| creg <| nq (y_move rfl) <| nq (y_move rfl) <| nq (y_move rfl) <| nq (y_slTo rfl rfl Try.underlying54 sz23 (show ((k : Nat) : Int) = _ by omega) ((by omega))) <| ?_
          refine nx (x_app rfl rfl Try.underlying54 Try.underlying54 (by exact .inl rfl) ti23 rfl (Own.nil w5 w5.heap.size _ 32) (Src.of_rd (r5.take_dc hD (by omega))) dc_oneCell (by unfold maxLen; omega) (by omega) (Nat.le_refl _) fun v6 w6 ho6 hf6 hv6 => ?_)
          have f6 : Fr No w5 w6 := hf6.mono (fun _ _ e => e.elim)
          refine nq (y_assign rfl) <| nend <| qsub (sub_cons (t := 6) rfl <| sub_cons (t := 37) rfl <| sub_cons (t := 19) rfl <| sub_cons (t := 0) rfl <| sub_cons (t := 3) rfl <| sub_cons (t := 5) rfl <| sub_nil) <| qthen <| cseq <| creg <| nq (y_move rfl) <| nq (y_ldN rfl ag23 sz23 dl ((hB _ (hS5.trans0 f6)).cells0)) <| ?_
          refine nx (x_bsl Try.underlying54 ti23 rfl rfl rfl (by simp [Value.cells, dl]) (by decide) (by decide) fun g7 w7 hg7 hf7 hb7 => ?_)
          have hb7 : Blk w7 g7 23 (dc [d]) := by simpa [Value.cells, dc] using hb7
          refine nx (x_app rfl rfl Try.underlying54 Try.underlying54 (by exact .inl rfl) ti23 rfl (ho6.fr0 hf7) (Src.of_blk hb7 (by rw [dc_one, dl])) dc_oneCell (by unfold maxLen; omega) (by omega) (f6.trans0 hf7).size fun v8 w8 ho8 hf8 hv8 => ?_)
          have f8 : Fr No w5 w8 := (f6.trans0 hf7).new hf8 (fun i hi => (ho6.from hi).1)
          have r8 := hR _ (hS5.trans0 f8)
          refine nq (y_assign rfl) <| nend <| qsub (sub_cons (t := 6) rfl <| sub_cons (t := 37) rfl <| sub_cons (t := 19) rfl <| sub_cons (t := 0) rfl <| sub_cons (t := 3) rfl <| sub_cons (t := 5) rfl <| sub_nil) <| qthen <| cseq <| creg <| nq (y_move rfl) <| nq (y_move rfl) <| nq (y_move rfl) <| nq (y_slFrom rfl rfl Try.underlying54 sz23 (show ((k : Nat) : Int) = _ by omega) ((by omega))) <| ?_
          refine nx (x_app rfl rfl Try.underlying54 Try.underlying54 (by exact .inl rfl) ti23 rfl ho8 (Src.of_rd (r8.cut_dc hD hc (by omega))) dc_oneCell (by unfold maxLen; omega) (by omega) f8.size fun v9 w9 ho9 hf9 hv9 => ?_)
          have f9 : Fr No w5 w9 := f8.new hf9 (fun i hi => (ho8.from hi).1)
          refine nq (y_assign rfl) <| nend <| qsub (sub_cons (t := 4) rfl <| sub_cons (t := 6) rfl <| sub_cons (t := 37) rfl <| sub_cons (t := 19) rfl <| sub_cons (t := 0) rfl <| sub_cons (t := 3) rfl <| sub_cons (t := 5) rfl <| sub_nil) <| qthen <| cret <| ?_
          refine ret1 trivial rfl rfl ⟨v9, rfl, ?_, (hf1.trans0 hS5).trans0 f9⟩
          have hbw : b ≤ w5.heap.size := by have := (hf1.trans0 hS5).size; omega
          have ho9 := ho9.wide hbw
          rw [List.nil_append, ← dc_append, ← dc_append, ← heq] at ho9
          have hlen : (dput ds d).length = 0 + k + 1 + (n - k) := by rw [heq]; simp [hl]; omega
          rw [hlen]
          exact ho9
      · refine sskip rfl rfl rfl (by decide) <| sskip rfl rfl rfl (by decide) <| sskip rfl rfl rfl (by decide) <| sskip rfl rfl rfl (by decide) <| sskip rfl rfl rfl (by decide) <| sskip rfl rfl rfl (by decide) <| sskip rfl rfl rfl (by decide) <| sskip rfl rfl rfl (by decide) <| sskip rfl rfl rfl (by decide) <| sskip rfl rfl rfl (by decide) <| sq (fun w_ hS_ => y_pickF rfl rfl) <| send <| qsub (sub_cons (t := 37) rfl <| sub_cons (t := 19) rfl <| sub_cons (t := 0) rfl <| sub_cons (t := 3) rfl <| sub_cons (t := 5) rfl <| sub_nil) <| qthen <| ?_
        refine ciff rfl (rfl) ?_
        have hne : ¬ (k < ds.length ∧ ds.getD k [] = d) := fun h => h3 (by omega)
        rw [if_neg hne] at heq
        have r5 := hR _ hS5
        refine cskip <| qthen <| cseq <| creg <| nq (y_assign rfl) <| nend <| qthen <| cseq <| creg <| nq (y_move rfl) <| nq (y_move rfl) <| nq (y_move rfl) <| nq (y_slTo rfl rfl Try.underlying54 sz23 (show ((k : Nat) : Int) = _ by omega) ((by omega))) <| ?_
        refine nx (x_app rfl rfl Try.underlying54 Try.underlying54 (by exact .inl rfl) ti23 rfl (Own.nil w5 w5.heap.size _ 32) (Src.of_rd (r5.take_dc hD (by omega))) dc_oneCell (by unfold maxLen; omega) (by omega) (Nat.le_refl _) fun v6 w6 ho6 hf6 hv6 => ?_)
        have f6 : Fr No w5 w6 := hf6.mono (fun _ _ e => e.elim)
        refine nq (y_assign rfl) <| nend <| qsub (sub_cons (t := 6) rfl <| sub_cons (t := 37) rfl <| sub_cons (t := 19) rfl <| sub_cons (t := 0) rfl <| sub_cons (t := 3) rfl <| sub_cons (t := 5) rfl <| sub_nil) <| qthen <| cseq <| creg <| nq (y_move rfl) <| nq (y_ldN rfl ag23 sz23 dl ((hB _ (hS5.trans0 f6)).cells0)) <| ?_
        refine nx (x_bsl Try.underlying54 ti23 rfl rfl rfl (by simp [Value.cells, dl]) (by decide) (by decide) fun g7 w7 hg7 hf7 hb7 => ?_)
        have hb7 : Blk w7 g7 23 (dc [d]) := by simpa [Value.cells, dc] using hb7
        refine nx (x_app rfl rfl Try.underlying54 Try.underlying54 (by exact .inl rfl) ti23 rfl (ho6.fr0 hf7) (Src.of_blk hb7 (by rw [dc_one, dl])) dc_oneCell (by unfold maxLen; omega) (by omega) (f6.trans0 hf7).size fun v8 w8 ho8 hf8 hv8 => ?_)
        have f8 : Fr No w5 w8 := (f6.trans0 hf7).new hf8 (fun i hi => (ho6.from hi).1)
        have r8 := hR _ (hS5.trans0 f8)
        refine nq (y_assign rfl) <| nend <| qsub (sub_cons (t := 6) rfl <| sub_cons (t := 37) rfl <| sub_cons (t := 19) rfl <| sub_cons (t := 0) rfl <| sub_cons (t := 3) rfl <| sub_cons (t := 5) rfl <| sub_nil) <| qthen <| cseq <| creg <| nq (y_move rfl) <| nq (y_move rfl) <| nq (y_move rfl) <| nq (y_slFrom rfl rfl Try.underlying54 sz23 (show ((k : Nat) : Int) = _ by omega) ((by omega))) <| ?_
        refine nx (x_app rfl rfl Try.underlying54 Try.underlying54 (by exact .inl rfl) ti23 rfl ho8 (Src.of_rd (r8.cut_dc hD hc (by omega))) dc_oneCell (by unfold maxLen; omega) (by omega) f8.size fun v9 w9 ho9 hf9 hv9 => ?_)
        have f9 : Fr No w5 w9 := f8.new hf9 (fun i hi => (ho8.from hi).1)
        refine nq (y_assign rfl) <| nend <| qsub (sub_cons (t := 4) rfl <| sub_cons (t := 6) rfl <| sub_cons (t := 37) rfl <| sub_cons (t := 19) rfl <| sub_cons (t := 0) rfl <| sub_cons (t := 3) rfl <| sub_cons (t := 5) rfl <| sub_nil) <| qthen <| cret <| ?_
        refine ret1 trivial rfl rfl ⟨v9, rfl, ?_, (hf1.trans0 hS5).trans0 f9⟩
        have hbw : b ≤ w5.heap.size := by have := (hf1.trans0 hS5).size; omega
        have ho9 := ho9.wide hbw
        rw [List.nil_append, ← dc_append, ← dc_append, ← heq] at ho9
        have hlen : (dput ds d).length = 0 + k + 1 + (n - k) := by rw [heq]; simp [hl]; omega
        rw [hlen]
        exact ho9
  · refine sskip rfl rfl rfl (by decide) <| sskip rfl rfl rfl (by decide) <| sskip rfl rfl rfl (by decide) <| sskip rfl rfl rfl (by decide) <| sskip rfl rfl rfl (by decide) <| sskip rfl rfl rfl (by decide) <| sskip rfl rfl rfl (by decide) <| sq (fun w_ hS_ => y_pickF rfl rfl) <| send <| qsub (sub_cons (t := 19) rfl <| sub_cons (t := 0) rfl <| sub_cons (t := 3) rfl <| sub_cons (t := 5) rfl <| sub_nil) <| qthen <| ?_
    refine ciff rfl (rfl) ?_
    refine cexit <| qthen_exit <| qthen_exit <| qblock_exit <| qthen <| cseq <| cseq <| ?_
    refine cdrw [(0, false), (1, false), (2, false), (3, false), (4, false), (5, false), (6, false), (7, false), (8, false), (9, false), (10, false), (11, false), (12, false), (13, false), (14, false), (15, false)] (by kernel_rfl) (by kernel_rfl) rfl (fun w' => Fr No w1 w') (hS3.trans0 (Fr.drew _)) (fun w5 hf5 hS5 => ?_)
    have heq := dput_at ds d k (by omega) hlt (fun h => absurd h (by omega))
    refine sq (fun w_ hS_ => y_move rfl) <| sq (fun w_ hS_ => y_move rfl) <| sq (fun w_ hS_ => y_lenS rfl Try.underlying54) <| sq (fun w_ hS_ => y_lss rfl rfl) <| sq (fun w_ hS_ => y_move rfl) <| ?_
    refine ssplit 26 rfl (fun h3 => ?_) (fun h3 => ?_)
    · refine sqg (o := _) rfl rfl rfl (fun w_ hS_ => y_move rfl) <| sqg (o := _) rfl rfl rfl (fun w_ hS_ => y_move rfl) <| sqg (o := _) rfl rfl rfl (fun w_ hS_ => y_move rfl) <| sqg (o := _) rfl rfl rfl (fun w_ hS_ => y_lenS rfl Try.underlying54) <| sqg (o := _) rfl rfl rfl (fun w_ hS_ => y_sub rfl rfl (w64 (by omega) (by omega))) <| sqg (o := _) rfl rfl rfl (fun w_ hS_ => y_min rfl rfl) <| sqg (o := _) rfl rfl rfl (fun w_ hS_ => y_idxS rfl rfl Try.underlying54 sz23 ((hR w1 (Fr.refl _ _)).2.1) (show ((k : Nat) : Int) = min (k : Int) ((n : Int) - 1) by omega) (by omega)) <| sqg (o := _) rfl rfl rfl (fun w_ hS_ => y_ldN rfl ag23 sz23 ((hdl k (by omega))) (((hR _ hS_).dig hD (by omega)))) <| sqg (o := _) rfl rfl rfl (fun w_ hS_ => y_ldN rfl ag23 sz23 dl ((hB _ hS_).cells0)) <| sqg (o := _) rfl rfl rfl (fun w_ hS_ => y_eqD23 rfl rfl (hdi k (by omega)) hd) <| sq (fun w_ hS_ => y_pickT rfl rfl) <| send <| qsub (sub_cons (t := 37) rfl <| sub_cons (t := 19) rfl <| sub_cons (t := 0) rfl <| sub_cons (t := 3) rfl <| sub_cons (t := 5) rfl <| sub_nil) <| qthen <| ?_
      refine cif rfl (fun h4 => ?_) (fun h4 => ?_)
      · refine cseq <| creg <| nq (y_move rfl) <| nq (y_assign rfl) <| nend <| qsub (sub_cons (t := 4) rfl <| sub_cons (t := 37) rfl <| sub_cons (t := 19) rfl <| sub_cons (t := 0) rfl <| sub_cons (t := 3) rfl <| sub_cons (t := 5) rfl <| sub_nil) <| qthen <| cret <| qthen_ret <| ?_
        rw [if_pos ⟨by omega, h4⟩] at heq
        refine ret1 trivial rfl rfl ⟨_, rfl, ?_, hf1.trans0 hS5⟩
        rw [heq, hl]
        exact (ho.fr0 hf1).fr0 hS5
      · have hne : ¬ (k < ds.length ∧ ds.getD k [] = d) := fun h => h4 h.2
        rw [if_neg hne] at heq
        have r5 := hR _ hS5
        refine cskip <| qthen <| cseq <| creg <| nq (y_assign rfl) <| nend <| qthen <| cseq <| creg <| nq (y_move rfl) <| nq (y_move rfl) <| nq (y_move rfl) <| nq (y_slTo rfl rfl Try.underlying54 sz23 (show ((k : Nat) : Int) = _ by omega) ((by omega))) <| ?_
        refine nx (x_app rfl rfl Try.underlying54 Try.underlying54 (by exact .inl rfl) ti23 rfl (Own.nil w5 w5.heap.size _ 32) (Src.of_rd (r5.take_dc hD (by omega))) dc_oneCell (by unfold maxLen; omega) (by omega) (Nat.le_refl _) fun v6 w6 ho6 hf6 hv6 => ?_)
        have f6 : Fr No w5 w6 := hf6.mono (fun _ _ e => e.elim)
        refine nq (y_assign rfl) <| nend <| qsub (sub_cons (t := 6) rfl <| sub_cons (t := 37) rfl <| sub_cons (t := 19) rfl <| sub_cons (t := 0) rfl <| sub_cons (t := 3) rfl <| sub_cons (t := 5) rfl <| sub_nil) <| qthen <| cseq <| creg <| nq (y_move rfl) <| nq (y_ldN rfl ag23 sz23 dl ((hB _ (hS5.trans0 f6)).cells0)) <| ?_
        refine nx (x_bsl Try.underlying54 ti23 rfl rfl rfl (by simp [Value.cells, dl]) (by decide) (by decide) fun g7 w7 hg7 hf7 hb7 => ?_)
        have hb7 : Blk w7 g7 23 (dc [d]) := by simpa [Value.cells, dc] using hb7
        refine nx (x_app rfl rfl Try.underlying54 Try.underlying54 (by exact .inl rfl) ti23 rfl (ho6.fr0 hf7) (Src.of_blk hb7 (by rw [dc_one, dl])) dc_oneCell (by unfold maxLen; omega) (by omega) (f6.trans0 hf7).size fun v8 w8 ho8 hf8 hv8 => ?_)
        have f8 : Fr No w5 w8 := (f6.trans0 hf7).new hf8 (fun i hi => (ho6.from hi).1)
        have r8 := hR _ (hS5.trans0 f8)
        refine nq (y_assign rfl) <| nend <| qsub (sub_cons (t := 6) rfl <| sub_cons (t := 37) rfl <| sub_cons (t := 19) rfl <| sub_cons (t := 0) rfl <| sub_cons (t := 3) rfl <| sub_cons (t := 5) rfl <| sub_nil) <| qthen <| cseq <| creg <| nq (y_move rfl) <| nq (y_move rfl) <| nq (y_move rfl) <| nq (y_slFrom rfl rfl Try.underlying54 sz23 (show ((k : Nat) : Int) = _ by omega) ((by omega))) <| ?_
        refine nx (x_app rfl rfl Try.underlying54 Try.underlying54 (by exact .inl rfl) ti23 rfl ho8 (Src.of_rd (r8.cut_dc hD hc (by omega))) dc_oneCell (by unfold maxLen; omega) (by omega) f8.size fun v9 w9 ho9 hf9 hv9 => ?_)
        have f9 : Fr No w5 w9 := f8.new hf9 (fun i hi => (ho8.from hi).1)
        refine nq (y_assign rfl) <| nend <| qsub (sub_cons (t := 4) rfl <| sub_cons (t := 6) rfl <| sub_cons (t := 37) rfl <| sub_cons (t := 19) rfl <| sub_cons (t := 0) rfl <| sub_cons (t := 3) rfl <| sub_cons (t := 5) rfl <| sub_nil) <| qthen <| cret <| ?_
        refine ret1 trivial rfl rfl ⟨v9, rfl, ?_, (hf1.trans0 hS5).trans0 f9⟩
        have hbw : b ≤ w5.heap.size := by have := (hf1.trans0 hS5).size; omega
        have ho9 := ho9.wide hbw
        rw [List.nil_append, ← dc_append, ← dc_append, ← heq] at ho9
        have hlen : (dput ds d).length = 0 + k + 1 + (n - k) := by rw [heq]; simp [hl]; omega
        rw [hlen]
        exact ho9
    · refine sskip rfl rfl rfl (by decide) <| sskip rfl rfl rfl (by decide) <| sskip rfl rfl rfl (by decide) <| sskip rfl rfl rfl (by decide) <| sskip rfl rfl rfl (by decide) <| sskip rfl rfl rfl (by decide) <| sskip rfl rfl rfl (by decide) <| sskip rfl rfl rfl (by decide) <| sskip rfl rfl rfl (by decide) <| sskip rfl rfl rfl (by decide) <| sq (fun w_ hS_ => y_pickF rfl rfl) <| send <| qsub (sub_cons (t := 37) rfl <| sub_cons (t := 19) rfl <| sub_cons (t := 0) rfl <| sub_cons (t := 3) rfl <| sub_cons (t := 5) rfl <| sub_nil) <| qthen <| ?_
      refine ciff rfl (rfl) ?_
      have hne : ¬ (k < ds.length ∧ ds.getD k [] = d) := fun h => h3 (by omega)
      rw [if_neg hne] at heq
      have r5 := hR _ hS5
      refine cskip <| qthen <| cseq <| creg <| nq (y_assign rfl) <| nend <| qthen <| cseq <| creg <| nq (y_move rfl) <| nq (y_move rfl) <| nq (y_move rfl) <| nq (y_slTo rfl rfl Try.underlying54 sz23 (show ((k : Nat) : Int) = _ by omega) ((by omega))) <| ?_
      refine nx (x_app rfl rfl Try.underlying54 Try.underlying54 (by exact .inl rfl) ti23 rfl (Own.nil w5 w5.heap.size _ 32) (Src.of_rd (r5.take_dc hD (by omega))) dc_oneCell (by unfold maxLen; omega) (by omega) (Nat.le_refl _) fun v6 w6 ho6 hf6 hv6 => ?_)
      have f6 : Fr No w5 w6 := hf6.mono (fun _ _ e => e.elim)
      refine nq (y_assign rfl) <| nend <| qsub (sub_cons (t := 6) rfl <| sub_cons (t := 37) rfl <| sub_cons (t := 19) rfl <| sub_cons (t := 0) rfl <| sub_cons (t := 3) rfl <| sub_cons (t := 5) rfl <| sub_nil) <| qthen <| cseq <| creg <| nq (y_move rfl) <| nq (y_ldN rfl ag23 sz23 dl ((hB _ (hS5.trans0 f6)).cells0)) <| ?_
      refine nx (x_bsl Try.underlying54 ti23 rfl rfl rfl (by simp [Value.cells, dl]) (by decide) (by decide) fun g7 w7 hg7 hf7 hb7 => ?_)
      have hb7 : Blk w7 g7 23 (dc [d]) := by simpa [Value.cells, dc] using hb7
      refine nx (x_app rfl rfl Try.underlying54 Try.underlying54 (by exact .inl rfl) ti23 rfl (ho6.fr0 hf7) (Src.of_blk hb7 (by rw [dc_one, dl])) dc_oneCell (by unfold maxLen; omega) (by omega) (f6.trans0 hf7).size fun v8 w8 ho8 hf8 hv8 => ?_)
      have f8 : Fr No w5 w8 := (f6.trans0 hf7).new hf8 (fun i hi => (ho6.from hi).1)
      have r8 := hR _ (hS5.trans0 f8)
      refine nq (y_assign rfl) <| nend <| qsub (sub_cons (t := 6) rfl <| sub_cons (t := 37) rfl <| sub_cons (t := 19) rfl <| sub_cons (t := 0) rfl <| sub_cons (t := 3) rfl <| sub_cons (t := 5) rfl <| sub_nil) <| qthen <| cseq <| creg <| nq (y_move rfl) <| nq (y_move rfl) <| nq (y_move rfl) <| nq (y_slFrom rfl rfl Try.underlying54 sz23 (show ((k : Nat) : Int) = _ by omega) ((by omega))) <| ?_
      refine nx (x_app rfl rfl Try.underlying54 Try.underlying54 (by exact .inl rfl) ti23 rfl ho8 (Src.of_rd (r8.cut_dc hD hc (by omega))) dc_oneCell (by unfold maxLen; omega) (by omega) f8.size fun v9 w9 ho9 hf9 hv9 => ?_)
      have f9 : Fr No w5 w9 := f8.new hf9 (fun i hi => (ho8.from hi).1)
      refine nq (y_assign rfl) <| nend <| qsub (sub_cons (t := 4) rfl <| sub_cons (t := 6) rfl <| sub_cons (t := 37) rfl <| sub_cons (t := 19) rfl <| sub_cons (t := 0) rfl <| sub_cons (t := 3) rfl <| sub_cons (t := 5) rfl <| sub_nil) <| qthen <| cret <| ?_
      refine ret1 trivial rfl rfl ⟨v9, rfl, ?_, (hf1.trans0 hS5).trans0 f9⟩
      have hbw : b ≤ w5.heap.size := by have := (hf1.trans0 hS5).size; omega
      have ho9 := ho9.wide hbw
      rw [List.nil_append, ← dc_append, ← dc_append, ← heq] at ho9
      have hlen : (dput ds d).length = 0 + k + 1 + (n - k) := by rw [heq]; simp [hl]; omega
      rw [hlen]
      exact ho9
end Go.Proofs.Ytpcgpnijhpcbeaa
