/- Contracts: a journal's bytes. -/
import Derived.Test.YtpcgpnijhpcbeaaJour3
set_option linter.unusedVariables false
set_option linter.unusedSimpArgs false
set_option maxRecDepth 20000
namespace Go.Proofs.Ytpcgpnijhpcbeaa
open Go.Eng Go.Hx
theorem number (n : Nat) (w : World) (hn : n < 4294967296) :
    Calls Try.prog 40 #[.int .i64 (n : Int)] w fun e w' => ∃ v, e = .returned v ∧ Own w' w.heap.size 5 1 v 4 (b8s (le4 n)) ∧ Fr No w w' := by
  refine enter (N := 21) Try.func40 rfl rfl (by simp) ?_
  refine cseq <| creg <| nq (y_assign rfl) <| nend <| qthen <| cseq <| creg <| nq (y_move rfl) <| nq (y_conv rfl Try.underlying3 Try.underlying82 ((w32 (by omega) (by omega)))) <| nq (y_assign rfl) <| nend <| qsub (sub_cons (t := 3) rfl <| sub_cons (t := 2) rfl <| sub_cons (t := 0) rfl <| sub_nil) <| qthen <| cseq <| creg <| nq (y_move rfl) <| nq (y_rem rfl rfl (by omega) (by omega)) <| nq (y_conv rfl Try.underlying82 Try.underlying5 ((show IntKind.u8.wrap ((n : Int) % 256) = ((UInt8.ofNat n).toNat : Int) by simp [IntKind.wrap, IntKind.signed, IntKind.bits]))) <| nq (y_move rfl) <| nq (y_quo rfl rfl (by omega) (by omega) (w32 (by omega) (by omega))) <| nq (y_rem rfl rfl (by omega) (by omega)) <| nq (y_conv rfl Try.underlying82 Try.underlying5 ((show IntKind.u8.wrap ((n : Int) / 256 % 256) = ((UInt8.ofNat (n / 256)).toNat : Int) by simp [IntKind.wrap, IntKind.signed, IntKind.bits]))) <| nq (y_move rfl) <| nq (y_quo rfl rfl (by omega) (by omega) (w32 (by omega) (by omega))) <| nq (y_rem rfl rfl (by omega) (by omega)) <| nq (y_conv rfl Try.underlying82 Try.underlying5 ((show IntKind.u8.wrap ((n : Int) / 65536 % 256) = ((UInt8.ofNat (n / 65536)).toNat : Int) by simp [IntKind.wrap, IntKind.signed, IntKind.bits]))) <| nq (y_move rfl) <| nq (y_quo rfl rfl (by omega) (by omega) (w32 (by omega) (by omega))) <| nq (y_conv rfl Try.underlying82 Try.underlying5 ((show IntKind.u8.wrap ((n : Int) / 16777216) = ((UInt8.ofNat (n / 16777216)).toNat : Int) by simp [IntKind.wrap, IntKind.signed, IntKind.bits]))) <| ?_
  refine nx (x_bsl Try.underlying29 ti5 rfl rfl rfl (by simp [Value.cells, B8]) (by decide) (by decide) fun g w1 hg hf1 hb1 => ?_)
  refine nq (y_assign rfl) <| nend <| qsub (sub_cons (t := 2) rfl <| sub_cons (t := 3) rfl <| sub_cons (t := 0) rfl <| sub_nil) <| qthen <| cret <| ?_
  exact ret1 trivial rfl rfl ⟨_, rfl, Own.made hb1 hg (Nat.le_refl _) (by decide) rfl, hf1⟩
def jbody (img : List UInt8) (ds : List (List UInt8)) : List UInt8 := [76, 84, 74, 49] ++ img ++ le4 ds.length ++ ds.flatten
theorem flatten_snoc {ds : List (List UInt8)} {k : Nat} (h : k < ds.length) : (ds.take (k + 1)).flatten = (ds.take k).flatten ++ ds.getD k [] := by
  rw [List.take_succ_eq_append_getElem h, List.flatten_append, List.getD, List.getElem?_eq_getElem h]
  simp
theorem flatten_length {ds : List (List UInt8)} (h : D32 ds) (k : Nat) (hk : k ≤ ds.length) : (ds.take k).flatten.length = 32 * k := by
  induction k with
  | zero => simp
  | succ k ih =>
    rw [flatten_snoc (by omega), List.length_append, ih (by omega), dc_getD h (by omega)]
    omega
theorem jbody_length {img : List UInt8} {ds : List (List UInt8)} (hi : img.length = 32) (h : D32 ds) : (jbody img ds).length = 40 + 32 * ds.length := by
  have := flatten_length h ds.length (Nat.le_refl _)
  rw [List.take_length] at this
  simp only [jbody, List.length_append, this, hi, le4_length, List.length_cons, List.length_nil]
theorem own_len {w : World} {b : Nat} {e : TypeId} {v : Value} {n : Nat} {l : List UInt8} (h : Own w b e 1 v n (b8s l)) : l.length = n := by
  have := h.1
  rw [b8s_length] at this
  omega
theorem rbytes (img : List UInt8) (A : Option Addr) (n c : Nat) (ds : List (List UInt8)) (w : World) (hi : img.length = 32) (hr : Rd w 32 A n (dc ds)) (hD : D32 ds) (hn : n ≤ 1000000) :
    Calls Try.prog 29 #[.agg (b8s img ++ [Value.slice A n c]).toArray] w fun e w' => ∃ v, e = .returned v ∧ Own w' w.heap.size 5 1 v (jbody img ds).length.succ.succ.succ.succ (b8s (putL (jbody img ds))) ∧ Fr No w w' := by
  have hl := dc_len hr hD
  have il : (b8s img).length = 32 := by rw [b8s_length]; exact hi
  refine enter (N := 35) Try.func29 rfl rfl (by simp) ?_
  refine cseq <| creg <| ?_
  refine nx (x_box rfl fun g1 w1 hg1 hf1 hb1 => ?_)
  rw [cells_agg] at hb1
  refine nq (y_assign rfl) <| nend <| qthen <| cseq <| creg <| ?_
  refine nx (x_bsl Try.underlying29 ti5 rfl rfl rfl (by simp [Value.cells, B8]) (by decide) (by decide) fun g2 w2 hg2 hf2 hb2 => ?_)
  have s01 := hf1.size
  have l1 := hb1.lt
  refine nx (x_cvS rfl Try.underlying29 Try.underlying5 hb2 fun w3 hf3 hb3 hs3 => ?_)
  have f13 : Fr No w1 w3 := hf2.new hf3 (fun i hi => by omega)
  have ho3 : Own w3 w1.heap.size 5 1 (.slice (some ⟨g2, 0, none⟩) 4 4) 4 (b8s [76, 84, 74, 49]) := Own.made hb3 hg2 (Nat.le_refl _) (by decide) rfl
  have b13 := hb1.fr0 f13
  refine nq (y_assign rfl) <| nend <| qsub (sub_cons (t := 3) rfl <| sub_cons (t := 2) rfl <| sub_cons (t := 1) rfl <| sub_cons (t := 0) rfl <| sub_nil) <| qthen <| cseq <| creg <| nq (y_move rfl) <| nq (y_fld rfl fa56_0 (by decide)) <| nq (y_ldN rfl ag23 sz23 il (j_img b13)) <| ?_
  refine nx (x_call rfl Try.call41 (bytes img _ hi) ?_)
  rintro e_ w4 ⟨v4, rfl, ho4, hf4⟩
  refine ⟨_, rfl, ?_⟩
  obtain ⟨A4, c4, rfl, hc4⟩ := ho4.slice
  refine nx (x_app rfl rfl Try.underlying29 Try.underlying29 (by exact .inl rfl) ti5 rfl (ho3.fr0 hf4) (Src.of_rd (Own.rd ho4).2.2) b8s_oneCell (by unfold maxLen; omega) (by omega) (f13.trans0 hf4).size fun v5 w5 ho5 hf5 hv5 => ?_)
  rw [← b8s_append] at ho5
  have f15 : Fr No w1 w5 := (f13.trans0 hf4).new hf5 (fun i hi => (ho3.from hi).1)
  have b15 := hb1.fr0 f15
  refine nq (y_assign rfl) <| nend <| qsub (sub_cons (t := 3) rfl <| sub_cons (t := 2) rfl <| sub_cons (t := 1) rfl <| sub_cons (t := 0) rfl <| sub_nil) <| qthen <| cseq <| creg <| nq (y_move rfl) <| nq (y_fld rfl fa56_1 (by decide)) <| nq (y_ld1 rfl ag54 (j_s b15 hi)) <| nq (y_lenS rfl Try.underlying54) <| ?_
  refine nx (x_call rfl Try.call40 (number n _ (by omega)) ?_)
  rintro e_ w6 ⟨v6, rfl, ho6, hf6⟩
  refine ⟨_, rfl, ?_⟩
  obtain ⟨A6, c6, rfl, hc6⟩ := ho6.slice
  refine nx (x_app rfl rfl Try.underlying29 Try.underlying29 (by exact .inl rfl) ti5 rfl (ho5.fr0 hf6) (Src.of_rd (Own.rd ho6).2.2) b8s_oneCell (by unfold maxLen; omega) (by omega) (f15.trans0 hf6).size fun v7 w7 ho7 hf7 hv7 => ?_)
  rw [← b8s_append] at ho7
  have f17 : Fr No w1 w7 := (f15.trans0 hf6).new hf7 (fun i hi => (ho5.from hi).1)
  refine nq (y_assign rfl) <| nend <| qsub (sub_cons (t := 3) rfl <| sub_cons (t := 2) rfl <| sub_cons (t := 1) rfl <| sub_cons (t := 0) rfl <| sub_nil) <| qthen <| cseq <| cseq <| creg <| nq (y_assign rfl) <| nend <| qthen <| cblock <| ?_
  generalize hpre : [76, 84, 74, 49] ++ img ++ le4 n = pre at ho7
  refine cloop2 (fun k _ => n - k) (fun k v => [(1, .pointer (some ⟨g1, 0, none⟩)), (3, v), (4, .int .i64 (k : Nat))]) (fun k v w' => k ≤ n ∧ Own w' w1.heap.size 5 1 v (40 + 32 * k) (b8s (pre ++ (ds.take k).flatten)) ∧ Fr No w1 w') 0 v7 (⟨Nat.zero_le _, by simpa using ho7, f17⟩) (sub_cons (t := 1) rfl <| sub_cons (t := 3) rfl <| sub_cons (t := 4) rfl <| sub_nil) (fun k v w8 ⟨hk, ho8, f18⟩ => ?_)
  have b18 := hb1.fr0 f18
  refine cseq <| cseq <| creg <| nq (y_move rfl) <| nq (y_fld rfl fa56_1 (by decide)) <| nq (y_ld1 rfl ag54 (j_s b18 hi)) <| nq (y_lenS rfl Try.underlying54) <| nq (y_lss rfl rfl) <| nend <| qsub (sub_cons (t := 22) rfl <| sub_cons (t := 1) rfl <| sub_cons (t := 3) rfl <| sub_cons (t := 4) rfl <| sub_nil) <| qthen <| ?_
  refine cif rfl (fun h => ?_) (fun h => ?_)
  · have hkl : k < ds.length := by omega
    have hdk := dc_getD hD hkl
    refine cskip <| qthen <| cseq <| cblock <| creg <| nq (y_move rfl) <| nq (y_fld rfl fa56_1 (by decide)) <| nq (y_ld1 rfl ag54 (j_s b18 hi)) <| nq (y_move rfl) <| nq (y_idxS rfl rfl Try.underlying54 sz23 hr.2.1 rfl (by omega)) <| nq (y_ldN rfl ag23 sz23 ((by rw [b8s_length]; exact hdk)) ((((hr.fr0 hf1).fr0 f18).dig hD hkl))) <| ?_
    refine nx (x_call rfl Try.call41 (bytes _ _ hdk) ?_)
    rintro e_ w9 ⟨v9, rfl, ho9, hf9⟩
    refine ⟨_, rfl, ?_⟩
    obtain ⟨A9, c9, rfl, hc9⟩ := ho9.slice
    refine nx (x_app rfl rfl Try.underlying29 Try.underlying29 (by exact .inl rfl) ti5 rfl (ho8.fr0 hf9) (Src.of_rd (Own.rd ho9).2.2) b8s_oneCell (by unfold maxLen; omega) (by omega) (f18.trans0 hf9).size fun v10 w10 ho10 hf10 hv10 => ?_)
    rw [← b8s_append, List.append_assoc, ← flatten_snoc hkl] at ho10
    refine nq (y_assign rfl) <| nend <| qsub (sub_cons (t := 3) rfl <| sub_cons (t := 22) rfl <| sub_cons (t := 1) rfl <| sub_cons (t := 4) rfl <| sub_nil) <| qblock <| qthen <| creg <| nq (y_move rfl) <| nq (y_add rfl rfl (w64 (by omega) (by omega))) <| nq (y_assign rfl) <| nend <| qsub (sub_cons (t := 4) rfl <| sub_cons (t := 3) rfl <| sub_cons (t := 22) rfl <| sub_cons (t := 1) rfl <| sub_nil) <| ?_
    refine qloop2 (k + 1) v10 (sub_cons (t := 1) rfl <| sub_cons (t := 3) rfl <| sub_cons (t := 4) rfl <| sub_nil) (⟨by omega, (show 40 + 32 * k + 32 = 40 + 32 * (k + 1) by omega) ▸ ho10, (f18.trans0 hf9).new hf10 (fun i hi => (ho8.from hi).1)⟩) (by omega)
  · obtain rfl : k = n := by omega
    rw [List.take_of_length_le (by omega)] at ho8
    have hjb : pre ++ ds.flatten = jbody img ds := by rw [← hpre, jbody, hl]
    rw [hjb] at ho8
    have hjl := own_len ho8
    obtain ⟨A8, c8, rfl, hc8⟩ := ho8.slice
    refine cexit <| qthen_exit <| qthen_exit <| qblock_exit <| qthen <| cseq <| creg <| nq (y_move rfl) <| ?_
    refine nx (x_call rfl Try.call36 (rcrcPut A8 _ c8 _ _ (Own.rd ho8).2.2 (by omega)) ?_)
    rintro e_ w9 ⟨v9, rfl, ho9, hf9⟩
    refine ⟨_, rfl, ?_⟩
    refine nq (y_assign rfl) <| nend <| qsub (sub_cons (t := 2) rfl <| sub_cons (t := 22) rfl <| sub_cons (t := 1) rfl <| sub_cons (t := 3) rfl <| sub_cons (t := 4) rfl <| sub_nil) <| qthen <| cret <| ?_
    rw [hjl]
    exact ret1 trivial rfl rfl ⟨v9, rfl, ho9.wide ((hf1.trans0 f18).size), (hf1.trans0 f18).trans0 hf9⟩
/-- what Write tells -/
theorem write (img : List UInt8) (A : Option Addr) (n c : Nat) (ds : List (List UInt8)) (w : World) (hi : img.length = 32) (hr : Rd w 32 A n (dc ds)) (hD : D32 ds) (hn : n ≤ 140737488351232) :
    Calls Try.prog 26 #[.agg (b8s img ++ [Value.slice A n c]).toArray] w fun e w' => (∃ v, e = .returned (.tuple #[v, .int .i64 (if JMay ds then 0 else 1)]) ∧ (JMay ds → Own w' w.heap.size 5 1 v ((jbody img ds).length + 4) (b8s (putL (jbody img ds)))) ∧ (¬ JMay ds → v = .slice none 0 0)) ∧ Fr No w w' := by
  have hl := dc_len hr hD
  have il : (b8s img).length = 32 := by rw [b8s_length]; exact hi
  refine enter (N := 42) Try.func26 rfl rfl (by simp) ?_
  refine cseq <| creg <| ?_
  refine nx (x_box rfl fun g1 w1 hg1 hf1 hb1 => ?_)
  rw [cells_agg] at hb1
  refine nq (y_assign rfl) <| nq (y_assign rfl) <| nend <| qthen <| cseq <| cseq <| creg <| nq (y_ldN rfl ag61 sz61 ((j_len hi)) hb1.cells0) <| ?_
  refine nx (x_call rfl Try.call28 (may img A n c ds w1 hi (hr.fr0 hf1) hD hn) ?_)
  rintro e_ w2 ⟨rfl, hf2⟩
  refine ⟨_, rfl, ?_⟩
  have b12 := hb1.fr0 hf2
  have hf := hf1.trans0 hf2
  refine nq ((y_notp rfl)) <| nend <| qsub (sub_cons (t := 10) rfl <| sub_cons (t := 3) rfl <| sub_cons (t := 2) rfl <| sub_cons (t := 1) rfl <| sub_cons (t := 0) rfl <| sub_nil) <| qthen <| ?_
  refine cif rfl (fun h => ?_) (fun h => ?_)
  · refine cseq <| creg <| nq (y_assign rfl) <| nq (y_assign rfl) <| nend <| qthen <| cret <| qthen_ret <| ?_
    exact ret2 trivial rfl rfl rfl ⟨⟨_, by rw [if_neg h], fun h' => absurd h' h, fun _ => rfl⟩, hf⟩
  · have hJ : JMay ds := Decidable.not_not.1 h
    have hn6 : n ≤ 4096 := by have := hJ.2; omega
    have l1 := b12.lt
    have s1 := hf1.size
    have s2 := hf2.size
    refine cskip <| qthen <| cseq <| creg <| ?_
    refine nx (x_bsl Try.underlying29 ti5 rfl rfl rfl (by simp [Value.cells, B8]) (by decide) (by decide) fun g3 w3 hg3 hf3 hb3 => ?_)
    refine nx (x_cvS rfl Try.underlying29 Try.underlying5 hb3 fun w4 hf4 hb4 hs4 => ?_)
    have f24 : Fr No w2 w4 := hf3.new hf4 (fun i hi => by omega)
    have ho4 : Own w4 w2.heap.size 5 1 (.slice (some ⟨g3, 0, none⟩) 4 4) 4 (b8s [76, 84, 74, 49]) := Own.made hb4 hg3 (Nat.le_refl _) (by decide) rfl
    have b14 := b12.fr0 f24
    have rimg : Rd w4 1 (some ((⟨g1, 0, none⟩ : Addr).add 0)) 32 (b8s img) := ⟨by rw [il], fun _ e => (by cases e), j_img b14⟩
    refine nq (y_fld rfl fa61_0 (by decide)) <| nq (y_slArr rfl Try.underlying23 sz5) <| ?_
    refine nx (x_app rfl rfl Try.underlying29 Try.underlying29 (by exact .inl rfl) ti5 rfl ho4 (Src.of_rd rimg) b8s_oneCell (by unfold maxLen; omega) (by omega) f24.size fun v5 w5 ho5 hf5 hv5 => ?_)
    rw [← b8s_append] at ho5
    have f25 : Fr No w2 w5 := f24.new hf5 (fun i hi => (ho4.from hi).1)
    have b15 := b12.fr0 f25
    refine nq (y_assign rfl) <| nend <| qsub (sub_cons (t := 4) rfl <| sub_cons (t := 10) rfl <| sub_cons (t := 3) rfl <| sub_cons (t := 2) rfl <| sub_cons (t := 1) rfl <| sub_cons (t := 0) rfl <| sub_nil) <| qthen <| cseq <| creg <| nq (y_fld rfl fa61_1 (by decide)) <| nq (y_ld1 rfl ag54 (j_s b15 hi)) <| nq (y_lenS rfl Try.underlying54) <| nq (y_assign rfl) <| nend <| qsub (sub_cons (t := 5) rfl <| sub_cons (t := 4) rfl <| sub_cons (t := 10) rfl <| sub_cons (t := 3) rfl <| sub_cons (t := 2) rfl <| sub_cons (t := 1) rfl <| sub_cons (t := 0) rfl <| sub_nil) <| qthen <| cseq <| cseq <| creg <| nq (y_move rfl) <| nend <| qthen <| cblock <| ?_
    refine cloop2 (fun k _ => 4 - k) (fun k v => [(1, .pointer (some ⟨g1, 0, none⟩)), (4, v), (5, .int .i64 (shr8 k n : Nat)), (19, .int .i64 (k : Nat))]) (fun k v w' => k ≤ 4 ∧ Own w' w2.heap.size 5 1 v (36 + k) (b8s ([76, 84, 74, 49] ++ img ++ lek k n)) ∧ Fr No w2 w') 0 v5 (⟨Nat.zero_le _, by simpa [lek] using ho5, f25⟩) (sub_cons (t := 1) rfl <| sub_cons (t := 4) rfl <| sub_cons (t := 5) rfl <| sub_cons (t := 19) rfl <| sub_nil) (fun k v w6 ⟨hk, ho6, f26⟩ => ?_)
    refine cseq <| creg <| nq (y_lss rfl rfl) <| nend <| qthen <| cseq <| ?_
    refine cif rfl (fun h2 => ?_) (fun h2 => ?_)
    · have hs8 := shr8_lt (n := n) (b := 4097) (by omega) k
      refine cskip <| qthen <| cseq <| cblock <| cseq <| creg <| nq (y_move rfl) <| nq (y_move rfl) <| nq (y_conv rfl Try.underlying3 Try.underlying5 ((u8mod _))) <| ?_
      refine nx (x_bsl Try.underlying29 ti5 rfl rfl rfl (by simp [Value.cells, B8]) (by decide) (by decide) fun g7 w7 hg7 hf7 hb7 => ?_)
      refine nx (x_app rfl rfl Try.underlying29 Try.underlying29 (by exact .inl rfl) ti5 rfl (ho6.fr0 hf7) (Src.of_blk hb7 rfl) (b8s_one (l := [_])) (by unfold maxLen; omega) (by omega) (f26.trans0 hf7).size fun v8 w8 ho8 hf8 hv8 => ?_)
      refine nq (y_assign rfl) <| nend <| qsub (sub_cons (t := 4) rfl <| sub_cons (t := 20) rfl <| sub_cons (t := 1) rfl <| sub_cons (t := 5) rfl <| sub_cons (t := 19) rfl <| sub_nil) <| qthen <| creg <| nq (y_move rfl) <| nq (y_shr (p := 256) rfl rfl (by decide) (by decide) (by decide)) <| nq (y_assign rfl) <| nend <| qsub (sub_cons (t := 5) rfl <| sub_cons (t := 4) rfl <| sub_cons (t := 20) rfl <| sub_cons (t := 1) rfl <| sub_cons (t := 19) rfl <| sub_nil) <| qblock <| qthen <| creg <| nq (y_add rfl rfl (w64 (by omega) (by omega))) <| nq (y_move rfl) <| nend <| qsub (sub_cons (t := 19) rfl <| sub_cons (t := 5) rfl <| sub_cons (t := 4) rfl <| sub_cons (t := 20) rfl <| sub_cons (t := 1) rfl <| sub_nil) <| ?_
      refine qloop2 (k + 1) v8 (sub_cons (t := 1) rfl <| sub_cons (t := 4) rfl <| sub_cons (t := 5) rfl <| sub_cons (t := 19) rfl <| sub_nil) (⟨by omega, by rw [lek_succ, ← List.append_assoc, b8s_append]; exact ho8, (f26.trans0 hf7).new hf8 (fun i hi => (ho6.from hi).1)⟩) (by omega)
    · obtain rfl : k = 4 := by omega
      rw [lek_four] at ho6
      generalize hpre : [76, 84, 74, 49] ++ img ++ le4 n = pre at ho6
      refine cexit <| qthen_exit <| qthen_exit <| qblock_exit <| qthen <| cseq <| cseq <| creg <| nq (y_fld rfl fa61_1 (by decide)) <| nq (y_ld1 rfl ag54 ((j_s (b12.fr0 f26) hi))) <| nq (y_lenS rfl Try.underlying54) <| nq (y_move rfl) <| nend <| qsub (sub_cons (t := 32) rfl <| sub_cons (t := 31) rfl <| sub_cons (t := 30) rfl <| sub_cons (t := 20) rfl <| sub_cons (t := 1) rfl <| sub_cons (t := 4) rfl <| sub_cons (t := 5) rfl <| sub_cons (t := 19) rfl <| sub_nil) <| qthen <| cblock <| ?_
      refine cloop2 (fun k _ => n - k) (fun k v => [(1, .pointer (some ⟨g1, 0, none⟩)), (4, v), (30, .slice A n c), (31, .int .i64 (n : Int)), (32, .int .i64 (k : Nat))]) (fun k v w' => k ≤ n ∧ Own w' w2.heap.size 5 1 v (40 + 32 * k) (b8s (pre ++ (ds.take k).flatten)) ∧ Fr No w2 w') 0 v (⟨Nat.zero_le _, by simpa using ho6, f26⟩) (sub_cons (t := 1) rfl <| sub_cons (t := 4) rfl <| sub_cons (t := 30) rfl <| sub_cons (t := 31) rfl <| sub_cons (t := 32) rfl <| sub_nil) (fun q v9 w9 ⟨hq, ho9, f29⟩ => ?_)
      refine cseq <| creg <| nq (y_lss rfl rfl) <| nend <| qthen <| cseq <| ?_
      refine cif rfl (fun h3 => ?_) (fun h3 => ?_)
      · have hkl : q < ds.length := by omega
        have hdk := dc_getD hD hkl
        have hdl : (b8s (ds.getD q [])).length = 32 := by rw [b8s_length]; exact hdk
        refine cskip <| qthen <| cseq <| cblock <| cseq <| creg <| nq (y_idxS rfl rfl Try.underlying54 sz23 hr.2.1 rfl (by omega)) <| nq (y_ldN rfl ag23 sz23 hdl ((((hr.fr0 hf).fr0 f29).dig hD hkl))) <| ?_
        refine nx (x_alloc ti23 fun g10 w10 hg10 hf10 hb10 => ?_)
        refine nx0 (x_stD rfl rfl sz23 hdk hb10 rfl fun w11 hf11 hb11 hs11 => ?_)
        have f911 : Fr No w9 w11 := hf10.new hf11 (fun i hi => by omega)
        have rd11 : Rd w11 1 (some (⟨g10, 0, none⟩ : Addr)) 32 (b8s (ds.getD q [])) := Rd.of_blk hb11 (by rw [hdl])
        refine nend <| qsub (sub_cons (t := 7) rfl <| sub_cons (t := 33) rfl <| sub_cons (t := 1) rfl <| sub_cons (t := 4) rfl <| sub_cons (t := 30) rfl <| sub_cons (t := 31) rfl <| sub_cons (t := 32) rfl <| sub_nil) <| qthen <| creg <| nq (y_move rfl) <| nq (y_slArr rfl Try.underlying23 sz5) <| ?_
        refine nx (x_app rfl rfl Try.underlying29 Try.underlying29 (by exact .inl rfl) ti5 rfl (ho9.fr0 f911) (Src.of_rd rd11) b8s_oneCell (by unfold maxLen; omega) (by omega) (f29.trans0 f911).size fun v12 w12 ho12 hf12 hv12 => ?_)
        rw [← b8s_append, List.append_assoc, ← flatten_snoc hkl] at ho12
        refine nq (y_assign rfl) <| nend <| qsub (sub_cons (t := 4) rfl <| sub_cons (t := 7) rfl <| sub_cons (t := 33) rfl <| sub_cons (t := 1) rfl <| sub_cons (t := 30) rfl <| sub_cons (t := 31) rfl <| sub_cons (t := 32) rfl <| sub_nil) <| qblock <| qthen <| creg <| nq (y_add rfl rfl (w64 (by omega) (by omega))) <| nq (y_move rfl) <| nend <| qsub (sub_cons (t := 32) rfl <| sub_cons (t := 4) rfl <| sub_cons (t := 7) rfl <| sub_cons (t := 33) rfl <| sub_cons (t := 1) rfl <| sub_cons (t := 30) rfl <| sub_cons (t := 31) rfl <| sub_nil) <| ?_
        refine qloop2 (q + 1) v12 (sub_cons (t := 1) rfl <| sub_cons (t := 4) rfl <| sub_cons (t := 30) rfl <| sub_cons (t := 31) rfl <| sub_cons (t := 32) rfl <| sub_nil) (⟨by omega, (show 40 + 32 * q + 32 = 40 + 32 * (q + 1) by omega) ▸ ho12, (f29.trans0 f911).new hf12 (fun i hi => (ho9.from hi).1)⟩) (by omega)
      · obtain rfl : q = n := by omega
        rw [List.take_of_length_le (by omega)] at ho9
        have hjb : pre ++ ds.flatten = jbody img ds := by rw [← hpre, jbody, hl]
        rw [hjb] at ho9
        have hjl := own_len ho9
        obtain ⟨A9, c9, rfl, hc9⟩ := ho9.slice
        refine cexit <| qthen_exit <| qthen_exit <| qblock_exit <| qthen <| cseq <| creg <| nq (y_move rfl) <| ?_
        refine nx (x_call rfl Try.call56 (crcPut A9 _ c9 _ _ (Own.rd ho9).2.2 (by omega)) ?_)
        rintro e_ w10 ⟨v10, rfl, ho10, hf10⟩
        refine ⟨_, rfl, ?_⟩
        refine nq (y_assign rfl) <| nq (y_assign rfl) <| nend <| qsub (sub_cons (t := 3) rfl <| sub_cons (t := 2) rfl <| sub_cons (t := 33) rfl <| sub_cons (t := 1) rfl <| sub_cons (t := 4) rfl <| sub_cons (t := 30) rfl <| sub_cons (t := 31) rfl <| sub_cons (t := 32) rfl <| sub_nil) <| qthen <| cret <| ?_
        refine ret2 trivial rfl rfl rfl ⟨⟨v10, by rw [if_pos hJ], fun _ => ?_, fun h' => absurd hJ h'⟩, (hf.trans0 f29).trans0 hf10⟩
        rw [hjl]
        exact ho10.wide ((hf.trans0 f29).size)
end Go.Proofs.Ytpcgpnijhpcbeaa
