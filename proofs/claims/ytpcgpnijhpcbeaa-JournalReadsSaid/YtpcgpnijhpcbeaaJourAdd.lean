/- The law JournalAdds: what it computes. -/
import Derived.Test.YtpcgpnijhpcbeaaJourMay
import Derived.Test.YtpcgpnijhpcbeaaEng11
set_option linter.unusedVariables false
set_option linter.unusedSimpArgs false
set_option maxRecDepth 20000
namespace Go.Proofs.Ytpcgpnijhpcbeaa
open Go.Eng Go.Hx
theorem j_get {img : List UInt8} {s : Value} (hi : img.length = 32) : (b8s img ++ [s])[32]? = some s := by
  rw [List.getElem?_append_right (by rw [b8s_length, hi]; exact Nat.le_refl _), b8s_length, hi]
  rfl
theorem found_ex : ∀ (ds : List (List UInt8)) (d : List UInt8), Rise ds → ∃ k, Found ds d k
  | ds, d, hR => by
    have : ∀ k, k ≤ ds.length → (∃ q, Found ds d q) ∨ (∀ i, i < k → cb (ds.getD i []) d < 0) := by
      intro k
      induction k with
      | zero => intro _; exact .inr fun i hi => absurd hi (by omega)
      | succ k ih =>
        intro hk
        rcases ih (by omega) with h | h
        · exact .inl h
        · by_cases hc : cb (ds.getD k []) d < 0
          · exact .inr (lt_step h hc)
          · exact .inl ⟨k, by omega, h, fun i h1 h2 h3 => hc (rise_down hR h1 h2 h3)⟩
    rcases this ds.length (Nat.le_refl _) with h | h
    · exact h
    · exact ⟨ds.length, Nat.le_refl _, h, fun i h1 h2 => absurd h2 (by omega)⟩
theorem dput_same {ds : List (List UInt8)} {d : List UInt8} (hR : Rise ds) : d ∈ ds ↔ (dput ds d).length = ds.length := by
  obtain ⟨k, hk⟩ := found_ex ds d hR
  rw [dput_mem hk hR]
  split
  · rename_i h; simp [h]
  · rename_i h
    have := hk.le
    simp only [h, false_iff]
    simp
    omega
theorem has_ne {gl : List (List UInt8)} {x : List UInt8} (hR : Rise gl) : (!(decide (x ∈ gl) == decide (((dput gl x).length : Int) = (gl.length : Int)))) = false := by
  have hs := dput_same (d := x) hR
  by_cases hm : x ∈ gl
  · have h1 := hs.1 hm
    rw [decide_eq_true hm, decide_eq_true (by omega)]
    rfl
  · have h1 : ¬ ((dput gl x).length : Int) = (gl.length : Int) := fun h => hm (hs.2 (by omega))
    rw [decide_eq_false hm, decide_eq_false h1]
    rfl
theorem mem_dput {ds : List (List UInt8)} {d : List UInt8} (hR : Rise ds) : d ∈ dput ds d := by
  obtain ⟨k, hk⟩ := found_ex ds d hR
  rw [dput_mem hk hR]
  split
  · assumption
  · simp
theorem journalAdds (img : List UInt8) (A : Option Addr) (n c : Nat) (ds : List (List UInt8)) (d : List UInt8) (w : World) (hi : img.length = 32) (hr : Rd w 32 A n (dc ds)) (hc : n ≤ c) (hD : D32 ds) (hn : n ≤ 140737488351232) (hd : d.length = 32) :
    Calls Try.prog 7 #[.agg (b8s img ++ [Value.slice A n c]).toArray, .agg (b8s d).toArray] w fun e w' => e = .returned (.bool true) ∧ Fr No w w' := by
  have hl := dc_len hr hD
  have il : (b8s img).length = 32 := by rw [b8s_length]; exact hi
  have dl : (b8s d).length = 32 := by rw [b8s_length]; exact hd
  have hDg := goodL_D32 hD
  have hlg := goodL_length hD
  have hRg := goodL_rise ds
  refine enter (N := 89) Try.func7 rfl rfl (by simp) ?_
  refine cseq <| creg <| ?_
  refine nx (x_box rfl fun g2 w1 hg2 hf1 hb2 => ?_)
  refine nx (x_box rfl fun g3 w2 hg3 hf2 hb3 => ?_)
  rw [cells_agg] at hb2 hb3
  have l2 := hb2.lt
  have l3 := hb3.lt
  have b2 := hb2.fr0 hf2
  refine nq (y_assign rfl) <| nend <| qthen <| cseq <| creg <| nq (y_ldN rfl ag56 sz56 ((j_len hi)) b2.cells0) <| ?_
  refine nx (x_call rfl Try.call24 (rgood img A n c ds _ hi ((hr.fr0 hf1).fr0 hf2) hD hn) ?_)
  rintro e_ w3 ⟨v3, rfl, ho3, hf3⟩
  refine ⟨_, rfl, ?_⟩
  obtain ⟨A3, c3, rfl, hc3⟩ := ho3.slice
  refine nx (x_alloc ti56 fun g5 w4 hg5 hf4 hb5 => ?_)
  refine nx0 (x_stA rfl rfl sz56 (j_len hi) (j_one rfl) hb5 rfl fun w5 hf5 hb55 hs5 => ?_)
  have s1 := hf1.size
  have s2 := hf2.size
  have s3 := hf3.size
  have f35 : Fr No w3 w5 := hf4.new hf5 (fun i hi => by omega)
  have f05 : Fr No w w5 := ((hf1.trans0 hf2).trans0 hf3).trans0 f35
  have r3 := ((Own.rd ho3).2.2).fr0 f35
  have b25 := (b2.fr0 hf3).fr0 f35
  have b35 := (hb3.fr0 hf3).fr0 f35
  have s5 := f05.size
  refine nend <| qsub (sub_cons (t := 5) rfl <| sub_cons (t := 4) rfl <| sub_cons (t := 3) rfl <| sub_cons (t := 2) rfl <| sub_cons (t := 0) rfl <| sub_cons (t := 1) rfl <| sub_nil) <| qthen <| cseq <| ?_
  refine ccut (ι := (Value × Nat)) (fun g => [(2, .pointer (some ⟨g2, 0, none⟩)), (5, .pointer (some ⟨g5, 0, none⟩)), (6, g.1)]) (fun g w' => Fr No w5 w' ∧ g.2 = (goodL ds).length + 1 ∧ Own w' w5.heap.size 23 32 g.1 g.2 (dc (goodL ds ++ [d]))) ?_ (fun ⟨v6, m⟩ w6 ⟨hf6, hm, ho6⟩ => ?_)
  · refine cdrwP [1, 4, 5] (.take 0 2 <| .take 3 1 <| .alt 1 (.take 2 2 <| .alt 4 (.alt 5 (.take 6 3 <| .done) (.stop)) (.stop)) (.alt 4 (.alt 1 (.take 2 2 <| .alt 5 (.take 6 3 <| .done) (.stop)) (.stop)) (.stop))) (by kernel_rfl) (by kernel_rfl) rfl (fun _ w' => Fr No w5 w') (Fr.drew _) (fun w6 hf6 hS6 => ?_)
    refine pq (fun k_ w_ h1_ h2_ hS_ => y_ldN rfl ag56 sz56 ((j_len hi)) ((b25.fr0 hS_).cells0)) <| pq (fun k_ w_ h1_ h2_ hS_ => y_ldN rfl ag23 sz23 dl ((b35.fr0 hS_).cells0)) <| ?_
    have s56 := hS6.size
    refine pfork ?_ ?_
    · refine px (x_call rfl Try.call24 (rgood img A n c ds _ hi ((hr.fr0 f05).fr0 hS6) hD hn) ?_)
      rintro e_ w7 ⟨v8, rfl, ho8, hf7⟩
      refine ⟨_, rfl, ?_⟩
      refine ⟨hS6.trans0 hf7, ?_⟩
      have hS7 := hS6.trans0 hf7
      have ho8 := ho8.wide (b := w5.heap.size) s56
      obtain ⟨ov8, _⟩ := own_slice1 ho8
      refine pq (fun k_ w_ h1_ h2_ hS_ => y_fv1 rfl fa56_1 ag54 (j_get hi)) <| ?_
      refine px (x_bsl Try.underlying54 ti23 rfl rfl rfl (by simp [Value.cells, dl]) (by decide) (by decide) fun g8 w8 hg8 hf8 hb8 => ?_)
      have hb8 : Blk w8 g8 23 (dc [d]) := by simpa [Value.cells, dc] using hb8
      have hS8 := hS7.trans0 hf8
      refine ⟨hS8, ?_⟩
      refine px (x_app rfl rfl Try.underlying54 Try.underlying54 (by exact .inl rfl) ti23 rfl (ho8.fr0 hf8) (Src.of_blk hb8 (by rw [dc_one, dl])) dc_oneCell (by unfold maxLen; omega) (by omega) hS8.size fun v9 w9 ho9 hf9 hv9 => ?_)
      have hS9 : Fr No w5 w9 := hS8.new hf9 (fun i hi => by have := (ho8.from hi).1; omega)
      refine ⟨hS9, ?_⟩
      rw [← dc_append] at ho9
      refine pq (fun k_ w_ h1_ h2_ hS_ => y_assign rfl) <| pend <| qsub (sub_cons (t := 6) rfl <| sub_cons (t := 5) rfl <| sub_cons (t := 4) rfl <| sub_cons (t := 3) rfl <| sub_cons (t := 2) rfl <| sub_cons (t := 0) rfl <| sub_cons (t := 1) rfl <| sub_nil) <| ?_
      exact qcut ((v9, _)) (sub_cons (t := 2) rfl <| sub_cons (t := 5) rfl <| sub_cons (t := 6) rfl <| sub_nil) (⟨hS9, rfl, ho9⟩)
    · refine px (x_bsl Try.underlying54 ti23 rfl rfl rfl (by simp [Value.cells, dl]) (by decide) (by decide) fun g7 w7 hg7 hf7 hb7 => ?_)
      have hb7 : Blk w7 g7 23 (dc [d]) := by simpa [Value.cells, dc] using hb7
      have hS7 := hS6.trans0 hf7
      refine ⟨hS7, ?_⟩
      refine px (x_call rfl Try.call24 (rgood img A n c ds _ hi ((hr.fr0 f05).fr0 hS7) hD hn) ?_)
      rintro e_ w8 ⟨v8, rfl, ho8, hf8⟩
      refine ⟨_, rfl, ?_⟩
      refine ⟨hS7.trans0 hf8, ?_⟩
      have hS8 := hS7.trans0 hf8
      have ho8 := ho8.wide (b := w5.heap.size) (hS7.size)
      refine pq (fun k_ w_ h1_ h2_ hS_ => y_fv1 rfl fa56_1 ag54 (j_get hi)) <| ?_
      refine px (x_app rfl rfl Try.underlying54 Try.underlying54 (by exact .inl rfl) ti23 rfl (ho8.fr0 (Fr.refl _ _)) (Src.of_blk (hb7.fr0 hf8) (by rw [dc_one, dl])) dc_oneCell (by unfold maxLen; omega) (by omega) hS8.size fun v9 w9 ho9 hf9 hv9 => ?_)
      have hS9 : Fr No w5 w9 := hS8.new hf9 (fun i hi => by have := (ho8.from hi).1; omega)
      refine ⟨hS9, ?_⟩
      rw [← dc_append] at ho9
      refine pq (fun k_ w_ h1_ h2_ hS_ => y_assign rfl) <| pend <| qsub (sub_cons (t := 6) rfl <| sub_cons (t := 5) rfl <| sub_cons (t := 4) rfl <| sub_cons (t := 3) rfl <| sub_cons (t := 2) rfl <| sub_cons (t := 0) rfl <| sub_cons (t := 1) rfl <| sub_nil) <| ?_
      exact qcut ((v9, _)) (sub_cons (t := 2) rfl <| sub_cons (t := 5) rfl <| sub_cons (t := 6) rfl <| sub_nil) (⟨hS9, rfl, ho9⟩)
  have ho6 : Own w6 w5.heap.size 23 32 v6 m (dc (goodL ds ++ [d])) := ho6
  have hm : m = (goodL ds).length + 1 := hm
  subst hm
  obtain ⟨A6, c6, rfl, hc6⟩ := ho6.slice
  have hDL : D32 (goodL ds ++ [d]) := fun x hx => by
    rcases List.mem_append.1 hx with h | h
    · exact hDg x h
    · have : x = d := by simpa using h
      rw [this]; exact hd
  have hLL : (goodL ds ++ [d]).length = (goodL ds).length + 1 := by simp
  have r6 := (Own.rd ho6).2.2
  have b26 := b25.fr0 hf6
  have b56 := hb55.fr0 hf6
  have s6 := hf6.size
  generalize hgl : goodL ds = gl at *
  generalize hL : gl ++ [d] = L at *
  have f06 := f05.trans0 hf6
  have ho36 := (ho3.fr0 f35).fr0 hf6
  have s06 := f06.size
  refine qthen <| cseq <| cseq <| creg <| nq (y_assign rfl) <| nend <| qthen <| cblock <| ?_
  refine cloop1 (fun i => gl.length + 1 - i) (fun i => [(2, .pointer (some ⟨g2, 0, none⟩)), (5, .pointer (some ⟨g5, 0, none⟩)), (6, .slice A6 (gl.length + 1) c6), (7, .int .i64 (i : Nat))]) (fun i w' => i ≤ gl.length + 1 ∧ Fr No w6 w') 0 (⟨Nat.zero_le _, Fr.refl _ _⟩) (sub_cons (t := 2) rfl <| sub_cons (t := 5) rfl <| sub_cons (t := 6) rfl <| sub_cons (t := 7) rfl <| sub_nil) (fun i w7 ⟨hi7, hf7⟩ => ?_)
  refine cseq <| cseq <| creg <| nq (y_move rfl) <| nq (y_move rfl) <| nq (y_lenS rfl Try.underlying54) <| nq (y_lss rfl rfl) <| nend <| qsub (sub_cons (t := 23) rfl <| sub_cons (t := 2) rfl <| sub_cons (t := 5) rfl <| sub_cons (t := 6) rfl <| sub_cons (t := 7) rfl <| sub_nil) <| qthen <| ?_
  refine cif rfl (fun h => ?_) (fun h => ?_)
  · have hil : i < L.length := by omega
    have hx := dc_getD hDL hil
    have hdx := fun (w' : World) (f : Fr No w6 w') => (r6.fr0 f).dig hDL hil
    generalize L.getD i [] = x at hx hdx
    have hxl : (b8s x).length = 32 := by rw [b8s_length]; exact hx
    refine cskip <| qthen <| cseq <| cblock <| cseq <| ?_
    refine ccut (ι := (Nat × Value)) (fun g => [(2, .pointer (some ⟨g2, 0, none⟩)), (5, .pointer (some ⟨g5, 0, none⟩)), (6, .slice A6 (gl.length + 1) c6), (7, .int .i64 (i : Nat)), (8, .pointer (some ⟨g.1, 0, none⟩)), (9, .int .i64 0)]) (fun g w' => Fr No w6 w' ∧ Blk w' g.1 61 (b8s img ++ [g.2]) ∧ Own w' w6.heap.size 23 32 g.2 (dput gl x).length (dc (dput gl x))) ?_ (fun ⟨g8, v8⟩ w8 ⟨hf8, hb8, ho8⟩ => ?_)
    · refine cdrwP [1, 6, 10, 11] (.take 0 3 <| .take 2 3 <| .take 3 3 <| .take 4 3 <| .take 5 3 <| .alt 1 (.alt 6 (.take 7 3 <| .take 8 3 <| .take 9 4 <| .alt 10 (.alt 11 (.take 12 4 <| .done) (.stop)) (.stop)) (.alt 10 (.alt 6 (.take 7 3 <| .take 8 3 <| .take 9 4 <| .alt 11 (.take 12 4 <| .done) (.stop)) (.stop)) (.stop))) (.alt 10 (.alt 1 (.alt 6 (.take 7 3 <| .take 8 3 <| .take 9 4 <| .alt 11 (.take 12 4 <| .done) (.stop)) (.stop)) (.stop)) (.stop))) (by kernel_rfl) (by kernel_rfl) rfl (fun _ w' => Fr No w6 w') (hf7.trans0 (Fr.drew _)) (fun w8 hf8 hS8 => ?_)
      refine pq (fun k_ w_ h1_ h2_ hS_ => y_ldN rfl ag56 sz56 ((j_len hi)) ((b56.fr0 hS_).cells0)) <| pq (fun k_ w_ h1_ h2_ hS_ => y_move rfl) <| pq (fun k_ w_ h1_ h2_ hS_ => y_move rfl) <| pq (fun k_ w_ h1_ h2_ hS_ => y_idxS rfl rfl Try.underlying54 sz23 ((fun _ e => r6.2.1 (by omega) e)) rfl (by omega)) <| pq (fun k_ w_ h1_ h2_ hS_ => y_ldN rfl ag23 sz23 hxl (hdx _ hS_)) <| ?_
      have r3' : Rd w6 32 A3 gl.length (dc gl) := r3.fr0 hf6
      have s68 := hS8.size
      refine pfork ?_ ?_
      · refine px (x_call rfl Try.call27 (of_j img (.slice A3 gl.length c3) _ hi rfl rfl) ?_)
        rintro e_ w9 ⟨rfl, hf9⟩
        refine ⟨_, rfl, ?_⟩
        refine ⟨hS8.trans0 hf9, ?_⟩
        have hS9 := hS8.trans0 hf9
        have s9 := hS9.size
        refine pfork ?_ ?_
        · refine px (x_call rfl Try.call31 (add_ok img A3 gl.length c3 gl x _ hi (r3'.fr0 hS9) hDg hRg hx (by omega)) ?_)
          rintro e_ w10 ⟨v8, rfl, ho8', hf10⟩
          refine ⟨_, rfl, ?_⟩
          refine ⟨hS9.trans0 hf10, ?_⟩
          have hS10 := hS9.trans0 hf10
          refine pq (fun k_ w_ h1_ h2_ hS_ => y_move rfl) <| pq (fun k_ w_ h1_ h2_ hS_ => y_extract rfl rfl) <| pq (fun k_ w_ h1_ h2_ hS_ => y_extract rfl rfl) <| ?_
          refine px (x_alloc ti61 fun gg w11 hg11 hf11 hb11 => ?_)
          have hS11 := hS10.trans0 hf11
          refine ⟨hS11, ?_⟩
          have s10 := hS10.size
          have ho8 := (ho8'.fr0 hf11).wide (b := w6.heap.size) s9
          obtain ⟨ov8, _⟩ := own_slice1 ho8
          refine px0 (x_stA rfl rfl sz61 (j_len hi) (j_one ov8) hb11 rfl fun w13 hf13 hb13 hs13 => ?_)
          have hS13 : Fr No w6 w13 := hS11.new hf13 (fun i hi => by omega)
          refine ⟨hS13, ?_⟩
          refine pq (fun k_ w_ h1_ h2_ hS_ => y_assign rfl) <| pend <| qsub (sub_cons (t := 9) rfl <| sub_cons (t := 8) rfl <| sub_cons (t := 23) rfl <| sub_cons (t := 2) rfl <| sub_cons (t := 5) rfl <| sub_cons (t := 6) rfl <| sub_cons (t := 7) rfl <| sub_nil) <| ?_
          exact qcut ((gg, v8)) (sub_cons (t := 2) rfl <| sub_cons (t := 5) rfl <| sub_cons (t := 6) rfl <| sub_cons (t := 7) rfl <| sub_cons (t := 8) rfl <| sub_cons (t := 9) rfl <| sub_nil) (⟨hS13, hb13, ho8.fr hf13 (fun i hi => by have := (ho8'.from hi).1; have := (ho8'.from hi).2; omega)⟩)
        · refine px (x_alloc ti61 fun gg w10 hg10 hf10 hb10 => ?_)
          have hS10 := hS9.trans0 hf10
          refine ⟨hS10, ?_⟩
          have s10 := hS10.size
          have l10 := hb10.lt
          refine px (x_call rfl Try.call31 (add_ok img A3 gl.length c3 gl x _ hi (r3'.fr0 hS10) hDg hRg hx (by omega)) ?_)
          rintro e_ w11 ⟨v8, rfl, ho8', hf11⟩
          refine ⟨_, rfl, ?_⟩
          refine ⟨hS10.trans0 hf11, ?_⟩
          have hS11 := hS10.trans0 hf11
          have ho8 := ho8'.wide (b := w6.heap.size) s10
          obtain ⟨ov8, _⟩ := own_slice1 ho8
          refine pq (fun k_ w_ h1_ h2_ hS_ => y_move rfl) <| pq (fun k_ w_ h1_ h2_ hS_ => y_extract rfl rfl) <| pq (fun k_ w_ h1_ h2_ hS_ => y_extract rfl rfl) <| ?_
          refine px0 (x_stA rfl rfl sz61 (j_len hi) (j_one ov8) (hb10.fr0 hf11) rfl fun w13 hf13 hb13 hs13 => ?_)
          have hS13 : Fr No w6 w13 := hS11.new hf13 (fun i hi => by omega)
          refine ⟨hS13, ?_⟩
          refine pq (fun k_ w_ h1_ h2_ hS_ => y_assign rfl) <| pend <| qsub (sub_cons (t := 9) rfl <| sub_cons (t := 8) rfl <| sub_cons (t := 23) rfl <| sub_cons (t := 2) rfl <| sub_cons (t := 5) rfl <| sub_cons (t := 6) rfl <| sub_cons (t := 7) rfl <| sub_nil) <| ?_
          exact qcut ((gg, v8)) (sub_cons (t := 2) rfl <| sub_cons (t := 5) rfl <| sub_cons (t := 6) rfl <| sub_cons (t := 7) rfl <| sub_cons (t := 8) rfl <| sub_cons (t := 9) rfl <| sub_nil) (⟨hS13, hb13, ho8.fr hf13 (fun i hi => by have := (ho8'.from hi).1; have := (ho8'.from hi).2; omega)⟩)
      · refine px (x_alloc ti61 fun gg w9 hg9 hf9 hb9 => ?_)
        have hS9 := hS8.trans0 hf9
        refine ⟨hS9, ?_⟩
        have s9 := hS9.size
        have l9 := hb9.lt
        refine px (x_call rfl Try.call27 (of_j img (.slice A3 gl.length c3) _ hi rfl rfl) ?_)
        rintro e_ w10 ⟨rfl, hf10⟩
        refine ⟨_, rfl, ?_⟩
        refine ⟨hS9.trans0 hf10, ?_⟩
        have hS10 := hS9.trans0 hf10
        have s10 := hS10.size
        have s910 := hf10.size
        refine px (x_call rfl Try.call31 (add_ok img A3 gl.length c3 gl x _ hi (r3'.fr0 hS10) hDg hRg hx (by omega)) ?_)
        rintro e_ w11 ⟨v8, rfl, ho8', hf11⟩
        refine ⟨_, rfl, ?_⟩
        refine ⟨hS10.trans0 hf11, ?_⟩
        have hS11 := hS10.trans0 hf11
        have ho8 := ho8'.wide (b := w6.heap.size) s10
        obtain ⟨ov8, _⟩ := own_slice1 ho8
        refine pq (fun k_ w_ h1_ h2_ hS_ => y_move rfl) <| pq (fun k_ w_ h1_ h2_ hS_ => y_extract rfl rfl) <| pq (fun k_ w_ h1_ h2_ hS_ => y_extract rfl rfl) <| ?_
        refine px0 (x_stA rfl rfl sz61 (j_len hi) (j_one ov8) ((hb9.fr0 hf10).fr0 hf11) rfl fun w13 hf13 hb13 hs13 => ?_)
        have hS13 : Fr No w6 w13 := hS11.new hf13 (fun i hi => by omega)
        refine ⟨hS13, ?_⟩
        refine pq (fun k_ w_ h1_ h2_ hS_ => y_assign rfl) <| pend <| qsub (sub_cons (t := 9) rfl <| sub_cons (t := 8) rfl <| sub_cons (t := 23) rfl <| sub_cons (t := 2) rfl <| sub_cons (t := 5) rfl <| sub_cons (t := 6) rfl <| sub_cons (t := 7) rfl <| sub_nil) <| ?_
        exact qcut ((gg, v8)) (sub_cons (t := 2) rfl <| sub_cons (t := 5) rfl <| sub_cons (t := 6) rfl <| sub_cons (t := 7) rfl <| sub_cons (t := 8) rfl <| sub_cons (t := 9) rfl <| sub_nil) (⟨hS13, hb13, ho8.fr hf13 (fun i hi => by have := (ho8'.from hi).1; have := (ho8'.from hi).2; omega)⟩)
    have hb8 : Blk w8 g8 61 (b8s img ++ [v8]) := hb8
    have ho8 : Own w8 w6.heap.size 23 32 v8 (dput gl x).length (dc (dput gl x)) := ho8
    have hf8 : Fr No w6 w8 := hf8
    have hDp := dput_D32 hDg hx
    have hpl := dput_length gl x
    have r3' : Rd w6 32 A3 gl.length (dc gl) := r3.fr0 hf6
    have b58 := b56.fr0 hf8
    have s8 := hf8.size
    have l8 := hb8.lt
    obtain ⟨A8, c8, rfl, hc8⟩ := ho8.slice
    have r8 := (Own.rd ho8).2.2
    refine qthen <| cseq <| ?_
    refine ccut (ι := (Nat × Value)) (fun g => [(2, .pointer (some ⟨g2, 0, none⟩)), (5, .pointer (some ⟨g5, 0, none⟩)), (6, .slice A6 (gl.length + 1) c6), (7, .int .i64 (i : Nat)), (8, .pointer (some ⟨g8, 0, none⟩)), (9, .int .i64 0), (10, .pointer (some ⟨g.1, 0, none⟩))]) (fun g w' => Fr No w8 w' ∧ Blk w' g.1 56 (b8s img ++ [g.2]) ∧ Own w' w2.heap.size 23 32 g.2 (dput gl x).length (dc (dput gl x))) ?_ (fun ⟨g10, v10⟩ w10 ⟨hf10, hb10, ho10⟩ => ?_)
    · refine cdrwP [8, 10, 11] (.take 0 2 <| .take 1 2 <| .take 2 2 <| .take 3 2 <| .take 4 2 <| .take 5 2 <| .take 6 2 <| .take 7 2 <| .alt 8 (.take 9 2 <| .alt 10 (.alt 11 (.done) (.stop)) (.stop)) (.alt 10 (.alt 8 (.take 9 2 <| .alt 11 (.done) (.stop)) (.stop)) (.stop))) (by kernel_rfl) (by kernel_rfl) rfl (fun _ w' => Fr No w8 w') (Fr.drew _) (fun w9 hf9 hS9 => ?_)
      have s9 := hS9.size
      have s56 := hf6.size
      have s23 := hf3.size
      have s35 := f35.size
      refine pq (fun k_ w_ h1_ h2_ hS_ => y_fld rfl fa56_0 (by decide)) <| pq (fun k_ w_ h1_ h2_ hS_ => y_ldN rfl ag23 sz23 il (j_img (b58.fr0 hS_))) <| pq (fun k_ w_ h1_ h2_ hS_ => y_fld rfl fa56_1 (by decide)) <| pq (fun k_ w_ h1_ h2_ hS_ => y_ld1 rfl ag54 (j_s (b58.fr0 hS_) hi)) <| pq (fun k_ w_ h1_ h2_ hS_ => y_move rfl) <| pq (fun k_ w_ h1_ h2_ hS_ => y_move rfl) <| pq (fun k_ w_ h1_ h2_ hS_ => y_idxS rfl rfl Try.underlying54 sz23 ((fun _ e => r6.2.1 (by omega) e)) rfl (by omega)) <| pq (fun k_ w_ h1_ h2_ hS_ => y_ldN rfl ag23 sz23 hxl (hdx _ (hf8.trans0 hS_))) <| ?_
      refine pfork ?_ ?_
      · refine px (x_call rfl Try.call32 (rput w2.heap.size _ gl.length gl x _ ((ho36.fr0 hf8).fr0 hS9) hDg hx (by omega) (by omega)) ?_)
        rintro e_ w11 ⟨vv, rfl, ho11, hf11⟩
        refine ⟨_, rfl, ?_⟩
        refine ⟨hS9.trans0 hf11, ?_⟩
        have hS11 := hS9.trans0 hf11
        obtain ⟨ov, ov2⟩ := own_slice1 ho11
        refine pq (fun k_ w_ h1_ h2_ hS_ => y_build ti56 rfl rfl (by kernel_rfl) ((bldJ pl56_0 pl56_1 (by simp) hi ov2))) <| ?_
        refine px (x_alloc ti56 fun gg w12 hg12 hf12 hb12 => ?_)
        have hS12 := hS11.trans0 hf12
        refine ⟨hS12, ?_⟩
        refine px0 (x_stA rfl rfl sz56 (j_len hi) (j_one ov) hb12 rfl fun w13 hf13 hb13 hs13 => ?_)
        have hS13 : Fr No w8 w13 := hS12.new hf13 (fun i hi => by have := hS11.size; omega)
        refine ⟨hS13, ?_⟩
        refine pend <| qsub (sub_cons (t := 10) rfl <| sub_cons (t := 2) rfl <| sub_cons (t := 5) rfl <| sub_cons (t := 6) rfl <| sub_cons (t := 7) rfl <| sub_cons (t := 8) rfl <| sub_cons (t := 9) rfl <| sub_nil) <| ?_
        exact qcut ((gg, vv)) (sub_cons (t := 2) rfl <| sub_cons (t := 5) rfl <| sub_cons (t := 6) rfl <| sub_cons (t := 7) rfl <| sub_cons (t := 8) rfl <| sub_cons (t := 9) rfl <| sub_cons (t := 10) rfl <| sub_nil) (⟨hS13, hb13, (ho11.fr0 hf12).fr hf13 (fun i hi => by have := (ho11.from hi).2; omega)⟩)
      · refine px (x_alloc ti56 fun gg w11 hg11 hf11 hb11 => ?_)
        have hS11 := hS9.trans0 hf11
        refine ⟨hS11, ?_⟩
        have l11 := hb11.lt
        have ho311 := ((ho36.fr0 hf8).fr0 hS9).fr0 hf11
        refine px (x_call rfl Try.call32 (rput w2.heap.size _ gl.length gl x _ ho311 hDg hx (by have := hf11.size; omega) (by omega)) ?_)
        rintro e_ w12 ⟨vv, rfl, ho12, hf12⟩
        refine ⟨_, rfl, ?_⟩
        refine ⟨hS11.trans0 hf12, ?_⟩
        have hS12 := hS11.trans0 hf12
        obtain ⟨ov, ov2⟩ := own_slice1 ho12
        refine pq (fun k_ w_ h1_ h2_ hS_ => y_build ti56 rfl rfl (by kernel_rfl) ((bldJ pl56_0 pl56_1 (by simp) hi ov2))) <| ?_
        refine px0 (x_stA rfl rfl sz56 (j_len hi) (j_one ov) (hb11.fr0 hf12) rfl fun w13 hf13 hb13 hs13 => ?_)
        have hS13 : Fr No w8 w13 := hS12.new hf13 (fun i hi => by omega)
        refine ⟨hS13, ?_⟩
        refine pend <| qsub (sub_cons (t := 10) rfl <| sub_cons (t := 2) rfl <| sub_cons (t := 5) rfl <| sub_cons (t := 6) rfl <| sub_cons (t := 7) rfl <| sub_cons (t := 8) rfl <| sub_cons (t := 9) rfl <| sub_nil) <| ?_
        exact qcut ((gg, vv)) (sub_cons (t := 2) rfl <| sub_cons (t := 5) rfl <| sub_cons (t := 6) rfl <| sub_cons (t := 7) rfl <| sub_cons (t := 8) rfl <| sub_cons (t := 9) rfl <| sub_cons (t := 10) rfl <| sub_nil) (⟨hS13, hb13, ho12.fr hf13 (fun i hi hg => ho12.ne_blk (hb11.fr0 hf12) (by decide) (hg ▸ hi))⟩)
    have hb10 : Blk w10 g10 56 (b8s img ++ [v10]) := hb10
    have ho10 : Own w10 w2.heap.size 23 32 v10 (dput gl x).length (dc (dput gl x)) := ho10
    have hf10 : Fr No w8 w10 := hf10
    obtain ⟨A10, c10, rfl, hc10⟩ := ho10.slice
    have r10 := (Own.rd ho10).2.2
    have b510 := b58.fr0 hf10
    have b810 := hb8.fr0 hf10
    have r810 := r8.fr0 hf10
    have f610 := hf8.trans0 hf10
    have hsame := dput_same (d := x) hRg
    refine qthen <| cseq <| creg <| nq (y_fld rfl fa56_1 (by decide)) <| nq (y_ld1 rfl ag54 ((j_s hb10 hi))) <| nq (y_lenS rfl Try.underlying54) <| nq (y_fld rfl fa56_1 (by decide)) <| nq (y_ld1 rfl ag54 ((j_s b510 hi))) <| nq (y_lenS rfl Try.underlying54) <| nq (y_eql rfl rfl) <| nq (y_assign rfl) <| nend <| qsub (sub_cons (t := 11) rfl <| sub_cons (t := 2) rfl <| sub_cons (t := 5) rfl <| sub_cons (t := 6) rfl <| sub_cons (t := 7) rfl <| sub_cons (t := 8) rfl <| sub_cons (t := 9) rfl <| sub_cons (t := 10) rfl <| sub_nil) <| qthen <| cseq <| ?_
    refine cdrw [(0, false), (1, false), (2, false), (3, false), (5, false), (4, true), (6, true), (7, false), (8, false), (9, false), (10, false), (12, false), (13, false), (14, false), (15, false), (17, false), (11, true), (16, true), (18, false), (19, false), (20, false), (21, false), (22, false), (23, false), (24, false), (25, false), (26, true), (27, false), (28, false)] (by kernel_rfl) (by kernel_rfl) rfl (fun w' => Fr No w10 w') (Fr.drew _) (fun w11 hf11 hS11 => ?_)
    refine sq (fun w_ hS_ => y_move rfl) <| sq (fun w_ hS_ => yF (y_neq rfl rfl) (decide_eq_false (fun h => h rfl))) <| sq (fun w_ hS_ => y_move rfl) <| sqg (o := _) rfl rfl rfl (fun w_ hS_ => y_ldN rfl ag61 sz61 ((j_len hi)) ((b810.fr0 hS_).cells0)) <| sqg (o := _) rfl rfl rfl (fun w_ hS_ => y_ldN rfl ag56 sz56 ((j_len hi)) ((hb10.fr0 hS_).cells0)) <| ?_
    refine sxg rfl rfl rfl (x_call rfl Try.call34 (as_j img (.slice A8 (dput gl x).length c8) _ hi rfl rfl) ?_)
    rintro e_ w12 ⟨rfl, hf12⟩
    refine ⟨_, rfl, ?_⟩
    refine ⟨hS11.trans0 hf12, ?_⟩
    have hS12 := hS11.trans0 hf12
    refine sxg rfl rfl rfl (x_call rfl Try.call33 (rsame img A8 _ c8 (dput gl x) img A10 _ c10 (dput gl x) _ hi hi (r810.fr0 hS12) hDp (r10.fr0 hS12) hDp (by omega)) ?_)
    rintro e_ w13 ⟨rfl, hf13⟩
    refine ⟨_, rfl, ?_⟩
    refine ⟨hS12.trans0 hf13, ?_⟩
    have hS13 := hS12.trans0 hf13
    rw [decide_eq_true (show dput gl x = dput gl x ∧ img = img from ⟨rfl, rfl⟩)]
    refine sqg (o := _) rfl rfl rfl (fun w_ hS_ => (y_not rfl)) <| sq (fun w_ hS_ => y_pickF rfl rfl) <| sq (fun w_ hS_ => y_move rfl) <| sqg (o := _) rfl rfl rfl (fun w_ hS_ => y_ldN rfl ag56 sz56 ((j_len hi)) ((b510.fr0 hS_).cells0)) <| sqg (o := _) rfl rfl rfl (fun w_ hS_ => y_move rfl) <| sqg (o := _) rfl rfl rfl (fun w_ hS_ => y_move rfl) <| sqg (o := _) rfl rfl rfl (fun w_ hS_ => y_idxS rfl rfl Try.underlying54 sz23 ((fun _ e => r6.2.1 (by omega) e)) rfl (by omega)) <| sqg (o := _) rfl rfl rfl (fun w_ hS_ => y_ldN rfl ag23 sz23 hxl (hdx _ (f610.trans0 hS_))) <| sqg (o := _) rfl rfl rfl (fun w_ hS_ => y_move rfl) <| ?_
    refine sxg rfl rfl rfl (x_call rfl Try.call27 (of_j img (.slice A3 gl.length c3) _ hi rfl rfl) ?_)
    rintro e_ w14 ⟨rfl, hf14⟩
    refine ⟨_, rfl, ?_⟩
    refine ⟨hS13.trans0 hf14, ?_⟩
    have hS14 := hS13.trans0 hf14
    refine sxg rfl rfl rfl (x_call rfl Try.call35 (has img A3 gl.length c3 gl x _ hi (r3'.fr0 (f610.trans0 hS14)) hDg hRg hx (by omega)) ?_)
    rintro e_ w15 ⟨rfl, hf15⟩
    refine ⟨_, rfl, ?_⟩
    refine ⟨hS14.trans0 hf15, ?_⟩
    have hS15 := hS14.trans0 hf15
    refine sqg (o := _) rfl rfl rfl (fun w_ hS_ => yF (y_bne Try.underlying4 rfl rfl) (has_ne hRg)) <| sq (fun w_ hS_ => y_pickF rfl rfl) <| sq (fun w_ hS_ => y_move rfl) <| sqg (o := _) rfl rfl rfl (fun w_ hS_ => y_ldN rfl ag61 sz61 ((j_len hi)) ((b810.fr0 hS_).cells0)) <| sqg (o := _) rfl rfl rfl (fun w_ hS_ => y_move rfl) <| sqg (o := _) rfl rfl rfl (fun w_ hS_ => y_move rfl) <| sqg (o := _) rfl rfl rfl (fun w_ hS_ => y_idxS rfl rfl Try.underlying54 sz23 ((fun _ e => r6.2.1 (by omega) e)) rfl (by omega)) <| sqg (o := _) rfl rfl rfl (fun w_ hS_ => y_ldN rfl ag23 sz23 hxl (hdx _ (f610.trans0 hS_))) <| ?_
    refine sxg rfl rfl rfl (x_call rfl Try.call35 (has img A8 _ c8 (dput gl x) x _ hi (r810.fr0 hS15) hDp (dput_rise gl x hRg) hx (by omega)) ?_)
    rintro e_ w16 ⟨rfl, hf16⟩
    refine ⟨_, rfl, ?_⟩
    refine ⟨hS15.trans0 hf16, ?_⟩
    have hS16 := hS15.trans0 hf16
    rw [decide_eq_true (mem_dput (d := x) hRg)]
    refine sqg (o := _) rfl rfl rfl (fun w_ hS_ => (y_not rfl)) <| sq (fun w_ hS_ => y_pickF rfl rfl) <| send <| qsub (sub_cons (t := 81) rfl <| sub_cons (t := 11) rfl <| sub_cons (t := 2) rfl <| sub_cons (t := 5) rfl <| sub_cons (t := 6) rfl <| sub_cons (t := 7) rfl <| sub_cons (t := 8) rfl <| sub_cons (t := 9) rfl <| sub_cons (t := 10) rfl <| sub_nil) <| qthen <| ?_
    refine ciff rfl (rfl) ?_
    refine cskip <| qblock <| qthen <| creg <| nq (y_move rfl) <| nq (y_add rfl rfl (w64 (by omega) (by omega))) <| nq (y_assign rfl) <| nend <| qsub (sub_cons (t := 7) rfl <| sub_cons (t := 81) rfl <| sub_cons (t := 11) rfl <| sub_cons (t := 2) rfl <| sub_cons (t := 5) rfl <| sub_cons (t := 6) rfl <| sub_cons (t := 8) rfl <| sub_cons (t := 9) rfl <| sub_cons (t := 10) rfl <| sub_nil) <| ?_
    refine qloop1 (i + 1) (sub_cons (t := 2) rfl <| sub_cons (t := 5) rfl <| sub_cons (t := 6) rfl <| sub_cons (t := 7) rfl <| sub_nil) (⟨by omega, f610.trans0 hS16⟩) (by omega)
  · refine cexit <| qthen_exit <| qthen_exit <| qblock_exit <| qthen <| cseq <| ?_
    refine cdrw [(0, false), (1, false), (2, true), (3, true), (4, false), (5, true), (6, false), (7, false)] (by kernel_rfl) (by kernel_rfl) rfl (fun w' => Fr No w7 w') (Fr.drew _) (fun w8 hf8 hS8 => ?_)
    refine sq (fun w_ hS_ => y_ldN rfl ag56 sz56 ((j_len hi)) (((b56.fr0 hf7).fr0 hS_).cells0)) <| sq (fun w_ hS_ => y_ldN rfl ag56 sz56 ((j_len hi)) (((b26.fr0 hf7).fr0 hS_).cells0)) <| ?_
    refine sx (x_call rfl Try.call24 (rgood img A n c ds _ hi (((hr.fr0 f06).fr0 hf7).fr0 hS8) hD hn) ?_)
    rintro e_ w9 ⟨v9, rfl, ho9, hf9⟩
    refine ⟨_, rfl, ?_⟩
    refine ⟨hS8.trans0 hf9, ?_⟩
    have hS9 := hS8.trans0 hf9
    rw [hgl] at ho9
    obtain ⟨A9, c9, rfl, hc9⟩ := ho9.slice
    refine sx (x_call rfl Try.call33 (rsame img A3 gl.length c3 gl img A9 _ c9 gl _ hi hi (((r3.fr0 hf6).fr0 hf7).fr0 hS9) hDg (Own.rd ho9).2.2 hDg (by omega)) ?_)
    rintro e_ w10 ⟨rfl, hf10⟩
    refine ⟨_, rfl, ?_⟩
    refine ⟨hS9.trans0 hf10, ?_⟩
    have hS10 := hS9.trans0 hf10
    rw [decide_eq_true (show gl = gl ∧ img = img from ⟨rfl, rfl⟩)]
    refine sq (fun w_ hS_ => y_move rfl) <| ?_
    refine sxg rfl rfl rfl (x_call rfl Try.call30 (lives17 _) ?_)
    rintro e_ w11 ⟨rfl, hf11⟩
    refine ⟨_, rfl, ?_⟩
    refine ⟨hS10.trans0 hf11, ?_⟩
    refine sq (fun w_ hS_ => y_pickT rfl rfl) <| sq (fun w_ hS_ => y_assign rfl) <| send <| qsub (sub_cons (t := 4) rfl <| sub_cons (t := 23) rfl <| sub_cons (t := 2) rfl <| sub_cons (t := 5) rfl <| sub_cons (t := 6) rfl <| sub_cons (t := 7) rfl <| sub_nil) <| qthen <| cret <| ?_
    exact ret1 trivial rfl rfl ⟨rfl, (f06.trans0 hf7).trans0 (hS10.trans0 hf11)⟩
end Go.Proofs.Ytpcgpnijhpcbeaa
