/- What the claim leans on, part 3. -/
import Derived.Test.YtlbecpekemlllaaJS2
import Derived.Laws.BitsAllLaws
import Derived.ChangeSame
section
/- Contracts: slices.Clone, BinarySearchFunc, Insert, over rows of digests. -/
set_option linter.unusedVariables false
set_option linter.unusedSimpArgs false
set_option maxRecDepth 20000
namespace Go.Proofs.Ytlbecpekemlllaa
open Go.Eng Go.Hx
theorem sclone (A : Option Addr) (n c : Nat) (ds : List (List UInt8)) (w : World) (hr : Rd w 32 A n (dc ds)) (hD : D32 ds) (hn : n ≤ 1000000) :
    Calls Try.prog 50 #[.slice A n c] w fun e w' => ∃ v, e = .returned v ∧ Own w' w.heap.size 23 32 v n (dc ds) ∧ Fr No w w' := by
  have hl := dc_len hr hD
  refine enter (N := 8) Try.func50 rfl rfl (by simp) ?_
  refine cseq <| creg <| nq (y_assign rfl) <| nend <| qthen <| cseq <| cseq <| creg <| nq (y_move rfl) <| nq (y_eqSn rfl rfl Try.underlying24) <| nend <| qsub (sub_cons (t := 4) rfl <| sub_cons (t := 2) rfl <| sub_cons (t := 0) rfl <| sub_nil) <| qthen <| ?_
  cases A with
  | none =>
    have h0 : n = 0 := by
      rcases Nat.eq_zero_or_pos n with h | h
      · exact h
      · exact absurd rfl (hr.2.1 h)
    subst h0
    obtain rfl : ds = [] := List.eq_nil_of_length_eq_zero hl
    refine cift rfl (rfl) ?_
    refine cseq <| creg <| nq (y_assign rfl) <| nend <| qthen <| cret <| qthen_ret <| ?_
    exact ret1 trivial rfl rfl ⟨_, rfl, Own.nil _ _ _ _, Fr.refl _ _⟩
  | some a =>
    refine ciff rfl (rfl) ?_
    refine cskip <| qthen <| cseq <| creg <| ?_
    refine nx (x_bsl0 Try.underlying24 ti23 fun g w1 hg hf1 hb1 => ?_)
    refine nq (y_move rfl) <| ?_
    refine nx (x_app rfl rfl Try.underlying24 Try.underlying24 (by exact .inl rfl) ti23 rfl (Own.made0 hb1 hg) (Src.of_rd (hr.fr0 hf1)) dc_oneCell (by unfold maxLen; omega) (by omega) hf1.size fun v w2 ho hf2 hv => ?_)
    refine nq (y_assign rfl) <| nend <| qsub (sub_cons (t := 2) rfl <| sub_cons (t := 4) rfl <| sub_cons (t := 0) rfl <| sub_nil) <| qthen <| cret <| ?_
    refine ret1 trivial rfl rfl ⟨v, rfl, ?_, hf1.new hf2 (fun i hi => by have : i = g := hi; omega)⟩
    simpa using ho
theorem rise_lt : ∀ {l : List (List UInt8)}, Rise l → ∀ (j i : Nat), i < j → j < l.length → cb (l.getD i []) (l.getD j []) < 0
  | [], _, j, i, _, h => by simp at h
  | [_], _, j, i, h1, h2 => by simp at h2; omega
  | a :: b :: r, h, 0, i, h1, _ => by omega
  | a :: b :: r, h, j + 1, 0, _, h2 => by
    simp only [List.getD_cons_zero, List.getD_cons_succ]
    cases j with
    | zero => simpa using h.1
    | succ j =>
      have h3 := rise_lt h.2 (j + 1) 0 (by omega) (by simpa using h2)
      simp only [List.getD_cons_zero] at h3
      have h4 := cb_trans a b ((b :: r).getD (j + 1) []) (by have := h.1; omega) (by omega)
      have h5 : cb a ((b :: r).getD (j + 1) []) ≠ 0 := by
        intro h0
        have h6 := cb_eq _ _ h0
        rw [← h6] at h3
        have h7 := cb_neg a b
        have := h.1
        omega
      omega
  | a :: b :: r, h, j + 1, i + 1, h1, h2 => by
    simp only [List.getD_cons_succ]
    exact rise_lt h.2 j i (by omega) (by simpa using h2)
/-- where a binary search ends -/
structure Found (ds : List (List UInt8)) (d : List UInt8) (k : Nat) : Prop where
  le : k ≤ ds.length
  lt : ∀ i, i < k → cb (ds.getD i []) d < 0
  ge : ∀ i, k ≤ i → i < ds.length → ¬ cb (ds.getD i []) d < 0
theorem rise_down {ds : List (List UInt8)} (h : Rise ds) {d : List UInt8} {j i : Nat} (hij : i ≤ j) (hj : j < ds.length) (hc : cb (ds.getD j []) d < 0) : cb (ds.getD i []) d < 0 := by
  rcases Nat.lt_or_ge i j with h1 | h1
  · have h2 := rise_lt h j i h1 hj
    have h3 := cb_trans (ds.getD i []) (ds.getD j []) d (by omega) (by omega)
    have h4 : cb (ds.getD i []) d ≠ 0 := by
      intro h0
      have h5 := cb_eq _ _ h0
      rw [h5] at h2
      have := cb_neg (ds.getD j []) d
      omega
    omega
  · have : i = j := by omega
    rw [this]; exact hc
theorem bsearch (A : Option Addr) (n c : Nat) (ds : List (List UInt8)) (d : List UInt8) (w : World) (hr : Rd w 32 A n (dc ds)) (hD : D32 ds) (hR : Rise ds) (hd : d.length = 32) (hn : n ≤ 1000000) :
    Calls Try.prog 48 #[.slice A n c, .agg (b8s d).toArray, .func (.func 49) #[] #[]] w fun e w' => ∃ k, e = .returned (.tuple #[.int .i64 (k : Nat), .bool (decide (k < n ∧ cb (ds.getD k []) d = 0))]) ∧ Found ds d k ∧ Fr No w w' := by
  have hl := dc_len hr hD
  have dl : (b8s d).length = 32 := by rw [b8s_length]; exact hd
  refine enter (N := 49) Try.func48 rfl rfl (by simp) ?_
  refine cseq <| creg <| ?_
  refine nx (x_box rfl fun g1 w1 hg1 hf1 hb1 => ?_)
  rw [cells_agg] at hb1
  have hB : ∀ w', Fr No w1 w' → Blk w' g1 23 (b8s d) := fun w' f => hb1.fr0 f
  have hRd : ∀ w', Fr No w1 w' → Rd w' 32 A n (dc ds) := fun w' f => (hr.fr0 hf1).fr0 f
  refine nq (y_assign rfl) <| nq (y_assign rfl) <| nend <| qthen <| cseq <| creg <| nq (y_move rfl) <| nq (y_lenS rfl Try.underlying24) <| nq (y_assign rfl) <| nend <| qsub (sub_cons (t := 8) rfl <| sub_cons (t := 7) rfl <| sub_cons (t := 6) rfl <| sub_cons (t := 4) rfl <| sub_cons (t := 0) rfl <| sub_cons (t := 1) rfl <| sub_cons (t := 2) rfl <| sub_nil) <| qthen <| cseq <| creg <| nq (y_move rfl) <| nq (y_assign rfl) <| nq (y_assign rfl) <| nend <| qsub (sub_cons (t := 10) rfl <| sub_cons (t := 9) rfl <| sub_cons (t := 8) rfl <| sub_cons (t := 7) rfl <| sub_cons (t := 6) rfl <| sub_cons (t := 4) rfl <| sub_cons (t := 0) rfl <| sub_cons (t := 1) rfl <| sub_cons (t := 2) rfl <| sub_nil) <| qthen <| cseq <| cblock <| ?_
  refine cloop2 (fun i j => j - i) (fun i j => [(0, .slice A n c), (2, .func (.func 49) #[] #[]), (4, .pointer (some ⟨g1, 0, none⟩)), (8, .int .i64 (n : Int)), (9, .int .i64 (i : Nat)), (10, .int .i64 (j : Nat))]) (fun i j w' => i ≤ j ∧ j ≤ n ∧ (∀ q, q < i → cb (ds.getD q []) d < 0) ∧ (∀ q, j ≤ q → q < n → ¬ cb (ds.getD q []) d < 0) ∧ Fr No w1 w') 0 n (⟨Nat.zero_le _, Nat.le_refl _, fun q hq => absurd hq (by omega), fun q h1 h2 => absurd h2 (by omega), Fr.refl _ _⟩) (sub_cons (t := 0) rfl <| sub_cons (t := 2) rfl <| sub_cons (t := 4) rfl <| sub_cons (t := 8) rfl <| sub_cons (t := 9) rfl <| sub_cons (t := 10) rfl <| sub_nil) (fun i j w2 ⟨hij, hjn, hlt, hge, hf2⟩ => ?_)
  refine cseq <| cseq <| creg <| nq (y_move rfl) <| nq (y_move rfl) <| nq (y_lss rfl rfl) <| nend <| qsub (sub_cons (t := 17) rfl <| sub_cons (t := 0) rfl <| sub_cons (t := 2) rfl <| sub_cons (t := 4) rfl <| sub_cons (t := 8) rfl <| sub_cons (t := 9) rfl <| sub_cons (t := 10) rfl <| sub_nil) <| qthen <| ?_
  refine cif rfl (fun h => ?_) (fun h => ?_)
  · have hm : i + j < 2000001 := by omega
    have hh : (i + j) / 2 < n := by omega
    have hhl : (i + j) / 2 < ds.length := by omega
    refine cskip <| qthen <| cblock <| cseq <| creg <| nq (y_move rfl) <| nq (y_move rfl) <| nq (yV (y_add rfl rfl (w64 (by omega) (by omega))) ((show Value.int .i64 ((i : Int) + (j : Int)) = .int .i64 ((i + j : Nat) : Int) by congr 1))) <| nq (y_conv rfl Try.underlying3 Try.underlying77 ((show IntKind.u64.wrap ((i + j : Nat) : Int) = ((i + j : Nat) : Int) by simp [IntKind.wrap, IntKind.signed, IntKind.bits]; omega))) <| nq (y_shr (p := 2) rfl rfl (by decide) (by decide) (by decide)) <| nq (y_conv rfl Try.underlying77 Try.underlying3 ((show IntKind.i64.wrap (((i + j : Nat) : Int) / 2) = (((i + j) / 2 : Nat) : Int) by rw [w64 (by omega) (by omega)]; omega))) <| nq (y_assign rfl) <| nend <| qsub (sub_cons (t := 11) rfl <| sub_cons (t := 17) rfl <| sub_cons (t := 0) rfl <| sub_cons (t := 2) rfl <| sub_cons (t := 4) rfl <| sub_cons (t := 8) rfl <| sub_cons (t := 9) rfl <| sub_cons (t := 10) rfl <| sub_nil) <| qthen <| cseq <| ?_
    refine cdrw [(0, false), (1, false), (2, false), (3, false), (4, false), (5, false), (6, true), (7, false)] (by kernel_rfl) (by kernel_rfl) rfl (fun w' => Fr No w1 w') (hf2.trans0 (Fr.drew _)) (fun w3 hf3 hS3 => ?_)
    refine sq (fun w_ hS_ => y_move rfl) <| sq (fun w_ hS_ => y_move rfl) <| sq (fun w_ hS_ => y_move rfl) <| sq (fun w_ hS_ => y_idxS rfl rfl Try.underlying24 sz23 hr.2.1 rfl (by omega)) <| sq (fun w_ hS_ => y_ldN rfl ag23 sz23 ((by rw [b8s_length]; exact dc_getD hD hhl)) (((hRd _ hS_).dig hD hhl))) <| sq (fun w_ hS_ => y_ldN rfl ag23 sz23 dl ((hB _ hS_).cells0)) <| ?_
    refine sx (x_callv rfl rfl Try.call49 (first := []) (cap := []) (compare _ d _ (dc_getD hD hhl) hd) ?_)
    rintro e_ w4 ⟨rfl, hf4⟩
    refine ⟨_, rfl, ?_⟩
    refine ⟨hS3.trans0 hf4, ?_⟩
    have hS4 := hS3.trans0 hf4
    refine sq (fun w_ hS_ => y_lss rfl rfl) <| send <| qsub (sub_cons (t := 31) rfl <| sub_cons (t := 11) rfl <| sub_cons (t := 17) rfl <| sub_cons (t := 0) rfl <| sub_cons (t := 2) rfl <| sub_cons (t := 4) rfl <| sub_cons (t := 8) rfl <| sub_cons (t := 9) rfl <| sub_cons (t := 10) rfl <| sub_nil) <| qthen <| ?_
    refine cif rfl (fun h2 => ?_) (fun h2 => ?_)
    · refine creg <| nq (y_move rfl) <| nq (yV (y_add rfl rfl (w64 (by omega) (by omega))) ((show Value.int .i64 ((((i + j) / 2 : Nat) : Int) + 1) = .int .i64 (((i + j) / 2 + 1 : Nat) : Int) by congr 1))) <| nq (y_assign rfl) <| nend <| qsub (sub_cons (t := 9) rfl <| sub_cons (t := 31) rfl <| sub_cons (t := 11) rfl <| sub_cons (t := 17) rfl <| sub_cons (t := 0) rfl <| sub_cons (t := 2) rfl <| sub_cons (t := 4) rfl <| sub_cons (t := 8) rfl <| sub_cons (t := 10) rfl <| sub_nil) <| qblock <| ?_
      refine qloop2 ((i + j) / 2 + 1) j (sub_cons (t := 0) rfl <| sub_cons (t := 2) rfl <| sub_cons (t := 4) rfl <| sub_cons (t := 8) rfl <| sub_cons (t := 9) rfl <| sub_cons (t := 10) rfl <| sub_nil) (⟨by omega, hjn, fun q hq => rise_down hR (show q ≤ (i + j) / 2 by omega) hhl h2, hge, hS4⟩) (by omega)
    · refine creg <| nq (y_move rfl) <| nq (y_assign rfl) <| nend <| qsub (sub_cons (t := 10) rfl <| sub_cons (t := 31) rfl <| sub_cons (t := 11) rfl <| sub_cons (t := 17) rfl <| sub_cons (t := 0) rfl <| sub_cons (t := 2) rfl <| sub_cons (t := 4) rfl <| sub_cons (t := 8) rfl <| sub_cons (t := 9) rfl <| sub_nil) <| qblock <| ?_
      refine qloop2 i ((i + j) / 2) (sub_cons (t := 0) rfl <| sub_cons (t := 2) rfl <| sub_cons (t := 4) rfl <| sub_cons (t := 8) rfl <| sub_cons (t := 9) rfl <| sub_cons (t := 10) rfl <| sub_nil) (⟨by omega, by omega, hlt, fun q h3 h4 h5 => h2 (rise_down hR h3 (by omega) h5), hS4⟩) (by omega)
  · obtain rfl : i = j := by omega
    refine cexit <| qthen_exit <| qthen_exit <| qblock_exit <| qthen <| cseq <| ?_
    refine cdrw [(0, false), (1, false), (2, false), (3, false), (4, false), (5, false), (6, false), (7, false), (8, false), (9, false), (10, false), (11, true), (12, false), (13, false), (14, false), (15, false)] (by kernel_rfl) (by kernel_rfl) rfl (fun w' => Fr No w1 w') (hf2.trans0 (Fr.drew _)) (fun w3 hf3 hS3 => ?_)
    have hF : Found ds d i := ⟨by omega, hlt, fun q h1 h2 => hge q h1 (by omega)⟩
    refine sq (fun w_ hS_ => y_move rfl) <| sq (fun w_ hS_ => y_move rfl) <| sq (fun w_ hS_ => y_move rfl) <| sq (fun w_ hS_ => y_lss rfl rfl) <| sq (fun w_ hS_ => y_move rfl) <| ?_
    refine ssplit 39 rfl (fun h2 => ?_) (fun h2 => ?_)
    · have hil : i < ds.length := by omega
      refine sqg (o := _) rfl rfl rfl (fun w_ hS_ => y_move rfl) <| sqg (o := _) rfl rfl rfl (fun w_ hS_ => y_move rfl) <| sqg (o := _) rfl rfl rfl (fun w_ hS_ => y_move rfl) <| sqg (o := _) rfl rfl rfl (fun w_ hS_ => y_idxS rfl rfl Try.underlying24 sz23 hr.2.1 rfl (by omega)) <| sqg (o := _) rfl rfl rfl (fun w_ hS_ => y_ldN rfl ag23 sz23 ((by rw [b8s_length]; exact dc_getD hD hil)) (((hRd _ hS_).dig hD hil))) <| sqg (o := _) rfl rfl rfl (fun w_ hS_ => y_ldN rfl ag23 sz23 dl ((hB _ hS_).cells0)) <| ?_
      refine sxg rfl rfl rfl (x_callv rfl rfl Try.call49 (first := []) (cap := []) (compare _ d _ (dc_getD hD hil) hd) ?_)
      rintro e_ w4 ⟨rfl, hf4⟩
      refine ⟨_, rfl, ?_⟩
      refine ⟨hS3.trans0 hf4, ?_⟩
      have hS4 := hS3.trans0 hf4
      refine sqg (o := _) rfl rfl rfl (fun w_ hS_ => y_eql rfl rfl) <| sq (fun w_ hS_ => y_pickT rfl rfl) <| sq (fun w_ hS_ => y_assign rfl) <| sq (fun w_ hS_ => y_assign rfl) <| send <| qsub (sub_cons (t := 7) rfl <| sub_cons (t := 6) rfl <| sub_cons (t := 17) rfl <| sub_cons (t := 0) rfl <| sub_cons (t := 2) rfl <| sub_cons (t := 4) rfl <| sub_cons (t := 8) rfl <| sub_cons (t := 9) rfl <| sub_cons (t := 10) rfl <| sub_nil) <| qthen <| cret <| ?_
      refine ret2 trivial rfl rfl rfl ⟨i, ?_, hF, hf1.trans0 hS4⟩
      simp only [show i < n by omega, true_and]
    · refine sskip rfl rfl rfl (by decide) <| sskip rfl rfl rfl (by decide) <| sskip rfl rfl rfl (by decide) <| sskip rfl rfl rfl (by decide) <| sskip rfl rfl rfl (by decide) <| sskip rfl rfl rfl (by decide) <| sskip rfl rfl rfl (by decide) <| sskip rfl rfl rfl (by decide) <| sq (fun w_ hS_ => y_pickF rfl rfl) <| sq (fun w_ hS_ => y_assign rfl) <| sq (fun w_ hS_ => y_assign rfl) <| send <| qsub (sub_cons (t := 7) rfl <| sub_cons (t := 6) rfl <| sub_cons (t := 17) rfl <| sub_cons (t := 0) rfl <| sub_cons (t := 2) rfl <| sub_cons (t := 4) rfl <| sub_cons (t := 8) rfl <| sub_cons (t := 9) rfl <| sub_cons (t := 10) rfl <| sub_nil) <| qthen <| cret <| ?_
      refine ret2 trivial rfl rfl rfl ⟨i, ?_, hF, hf1.trans0 hS3⟩
      simp only [show ¬ i < n by omega, false_and, decide_false]
theorem ins_grow {xs rest vs ys : List Value} {p m q : Nat} (hx : xs.length = p) (hv : vs.length = m) (hy : ys.length = q) (hl : m + q ≤ rest.length) :
    (splice (splice (xs ++ rest) p vs) (p + m) ys).take (p + m + q) = xs ++ vs ++ ys ∧ (splice (splice (xs ++ rest) p vs) (p + m) ys).length = (xs ++ rest).length := by
  have e1 : xs ++ rest = xs ++ rest.take m ++ rest.drop m := by rw [List.append_assoc, List.take_append_drop]
  have e2 : splice (xs ++ rest) p vs = xs ++ vs ++ rest.drop m := by
    rw [e1]; exact splice_app hx (by rw [hv, List.length_take]; omega)
  have e3 : xs ++ vs ++ rest.drop m = (xs ++ vs) ++ (rest.drop m).take q ++ (rest.drop m).drop q := by rw [List.append_assoc (xs ++ vs), List.take_append_drop]
  have e4 : splice (splice (xs ++ rest) p vs) (p + m) ys = (xs ++ vs) ++ ys ++ (rest.drop m).drop q := by
    rw [e2, e3]; exact splice_app (by simp [hx, hv]) (by rw [hy, List.length_take, List.length_drop]; omega)
  rw [e4]
  refine ⟨?_, by simp; omega⟩
  have : p + m + q = (xs ++ vs ++ ys).length := by simp [hx, hv, hy]; omega
  rw [this, List.take_left]
theorem ins_room {cur xs vs ys : List Value} {o p m q : Nat} (hw : (cur.drop o).take (p + q) = xs ++ ys) (hx : xs.length = p) (hv : vs.length = m) (hy : ys.length = q) (hl : o + (p + m + q) ≤ cur.length) :
    ((splice (splice cur (o + p + m) ys) (o + p) vs).drop o).take (p + m + q) = xs ++ vs ++ ys ∧ (splice (splice cur (o + p + m) ys) (o + p) vs).length = cur.length := by
  have hxs : (cur.drop o).take p = xs := by
    have := congrArg (List.take p) hw
    rw [List.take_take, Nat.min_eq_left (by omega), ← hx, List.take_left] at this
    rw [← hx]; exact this
  have e0 : cur = cur.take o ++ (xs ++ (cur.drop o).drop p) := by
    conv => lhs; rw [← List.take_append_drop o cur]
    congr 1
    conv => lhs; rw [← List.take_append_drop p (cur.drop o), hxs]
  generalize hrest : (cur.drop o).drop p = rest at e0
  have hrl : rest.length = cur.length - o - p := by rw [← hrest, List.length_drop, List.length_drop]
  generalize hpre : cur.take o = pre at e0
  have hpl : pre.length = o := by rw [← hpre, List.length_take]; omega
  have e1 : cur = (pre ++ xs ++ rest.take m) ++ (rest.drop m).take q ++ (rest.drop m).drop q := by
    rw [List.append_assoc _ _ ((rest.drop m).drop q), List.take_append_drop, List.append_assoc, List.take_append_drop, List.append_assoc]
    exact e0
  have e2 : splice cur (o + p + m) ys = (pre ++ xs ++ rest.take m) ++ ys ++ (rest.drop m).drop q := by
    rw [e1]; exact splice_app (by simp [hpl, hx]; omega) (by rw [hy, List.length_take, List.length_drop]; omega)
  have e3 : (pre ++ xs ++ rest.take m) ++ ys ++ (rest.drop m).drop q = (pre ++ xs) ++ rest.take m ++ (ys ++ (rest.drop m).drop q) := by simp
  have e4 : splice (splice cur (o + p + m) ys) (o + p) vs = (pre ++ xs) ++ vs ++ (ys ++ (rest.drop m).drop q) := by
    rw [e2, e3]; exact splice_app (by simp [hpl, hx]) (by rw [hv, List.length_take]; omega)
  rw [e4]
  refine ⟨?_, ?_⟩
  · have e5 : (pre ++ xs) ++ vs ++ (ys ++ (rest.drop m).drop q) = pre ++ ((xs ++ vs ++ ys) ++ (rest.drop m).drop q) := by simp
    rw [e5, ← hpl, List.drop_left]
    have : p + m + q = (xs ++ vs ++ ys).length := by simp [hx, hv, hy]; omega
    rw [this, List.take_left]
  · simp [hpl, hx, hv, hy, hrl]; omega
theorem slFrom_val {g o a sz c m k : Nat} (h : c ≠ a) : Value.slice (if c = a then some (⟨g, o, none⟩ : Addr) else (some (⟨g, o, none⟩ : Addr)).map (·.add (a * sz))) m k = .slice (some ⟨g, o + a * sz, none⟩) m k := by
  rw [if_neg h, Option.map_some, addr_add]
theorem insert (b : Nat) (v : Value) (n i g2 : Nat) (bt : TypeId) (ds : List (List UInt8)) (d : List UInt8) (w : World) (ho : Own w b 23 32 v n (dc ds)) (hD : D32 ds) (hd : d.length = 32) (hi : i ≤ n) (hn : n ≤ 1000000) (hb : b ≤ w.heap.size) (h2 : w.heap[g2]? = some (.cells (dc [d]).toArray bt (0, 0))) (hne : ¬ vblk v g2) :
    Calls Try.prog 51 #[v, .int .i64 (i : Nat), .slice (some ⟨g2, 0, none⟩) 1 1] w fun e w' => ∃ v', e = .returned v' ∧ Own w' b 23 32 v' (n + 1) (dc (ds.take i ++ [d] ++ ds.drop i)) ∧ Fr (vblk v) w w' := by
  obtain ⟨A, c, rfl, hc⟩ := ho.slice
  have hr := (Own.rd ho).2.2
  have hl := dc_len hr hD
  have d32 : (dc [d]).length = 32 := by rw [dc_one, b8s_length]; exact hd
  have hb2 : Blk w g2 bt (dc [d]) := ⟨(0, 0), h2, fun i _ => by simp, Nat.le_refl _⟩
  have r2 : Rd w 32 (some ⟨g2, 0, none⟩) 1 (dc [d]) := Rd.of_blk hb2 (by rw [d32])
  have hDt : D32 (ds.take i) := fun x hx => hD x (List.mem_of_mem_take hx)
  have hDd : D32 (ds.drop i) := fun x hx => hD x (List.mem_of_mem_drop hx)
  have lt : (dc (ds.take i)).length = i * 32 := by rw [dc_length hDt, List.length_take]; congr 1; omega
  have ld : (dc (ds.drop i)).length = (n - i) * 32 := by rw [dc_length hDd, List.length_drop, hl]
  refine enter (N := 95) Try.func51 rfl rfl (by simp) ?_
  refine cseq <| creg <| nq (y_assign rfl) <| nend <| qthen <| cseq <| creg <| nq (y_move rfl) <| nq (y_move rfl) <| nq (y_slFrom rfl rfl Try.underlying24 sz23 rfl hi) <| nend <| qsub (sub_cons (t := 6) rfl <| sub_cons (t := 0) rfl <| sub_cons (t := 1) rfl <| sub_cons (t := 2) rfl <| sub_nil) <| qthen <| cseq <| creg <| nq (y_move rfl) <| nq (y_lenS rfl Try.underlying24) <| nq (y_assign rfl) <| nend <| qsub (sub_cons (t := 7) rfl <| sub_cons (t := 6) rfl <| sub_cons (t := 0) rfl <| sub_cons (t := 1) rfl <| sub_cons (t := 2) rfl <| sub_nil) <| qthen <| cseq <| cseq <| creg <| nq (y_move rfl) <| nq (y_eql rfl rfl) <| nend <| qsub (sub_cons (t := 16) rfl <| sub_cons (t := 7) rfl <| sub_cons (t := 6) rfl <| sub_cons (t := 0) rfl <| sub_cons (t := 1) rfl <| sub_cons (t := 2) rfl <| sub_nil) <| qthen <| ?_
  refine ciff rfl ((decide_eq_false (by decide) : decide (((1 : Nat) : Int) = 0) = false)) ?_
  refine cskip <| qthen <| cseq <| creg <| nq (y_move rfl) <| nq (y_lenS rfl Try.underlying24) <| nq (y_assign rfl) <| nend <| qsub (sub_cons (t := 8) rfl <| sub_cons (t := 16) rfl <| sub_cons (t := 7) rfl <| sub_cons (t := 6) rfl <| sub_cons (t := 0) rfl <| sub_cons (t := 1) rfl <| sub_cons (t := 2) rfl <| sub_nil) <| qthen <| cseq <| cseq <| creg <| nq (y_move rfl) <| nq (y_move rfl) <| nq (y_eql rfl rfl) <| nend <| qsub (sub_cons (t := 22) rfl <| sub_cons (t := 8) rfl <| sub_cons (t := 16) rfl <| sub_cons (t := 7) rfl <| sub_cons (t := 6) rfl <| sub_cons (t := 0) rfl <| sub_cons (t := 1) rfl <| sub_cons (t := 2) rfl <| sub_nil) <| qthen <| ?_
  refine cif rfl (fun h => ?_) (fun h => ?_)
  · obtain rfl : i = n := by omega
    refine cseq <| creg <| nq (y_move rfl) <| nq (y_move rfl) <| ?_
    refine nx (x_app rfl rfl Try.underlying24 Try.underlying24 (by exact .inl rfl) ti23 rfl ho (Src.of_rd r2) dc_oneCell (by unfold maxLen; omega) (by omega) hb fun v1 w1 ho1 hf1 hv1 => ?_)
    refine nq (y_assign rfl) <| nend <| qsub (sub_cons (t := 6) rfl <| sub_cons (t := 22) rfl <| sub_cons (t := 8) rfl <| sub_cons (t := 16) rfl <| sub_cons (t := 7) rfl <| sub_cons (t := 0) rfl <| sub_cons (t := 1) rfl <| sub_cons (t := 2) rfl <| sub_nil) <| qthen <| cret <| qthen_ret <| ?_
    refine ret1 trivial rfl rfl ⟨v1, rfl, ?_, hf1⟩
    rw [List.take_of_length_le (by omega), List.drop_of_length_le (by omega), List.append_nil, dc_append]
    exact ho1
  · have hin : i < n := by omega
    rcases ho with ⟨hlen, ⟨h1, h0⟩ | ⟨g, o, cap, cur, h1, hbg, hg, hnc, hcm, hcs, htake⟩⟩
    · omega
    injection h1 with h1 _ h3
    subst h1
    subst h3
    have hne : ¬ g2 = g := hne
    have hdr : Rd w 32 (some (⟨g, o + i * 32, none⟩ : Addr)) (n - i) (dc (ds.drop i)) := by
      have := hr.cut_dc hD hc hi
      rwa [if_neg (by omega), Option.map_some, addr_add] at this
    refine cskip <| qthen <| cseq <| cseq <| creg <| nq (y_move rfl) <| nq (y_move rfl) <| nq (y_add rfl rfl (w64 (by omega) (by omega))) <| nq (y_move rfl) <| nq (y_capS rfl Try.underlying24) <| nq (y_gtr rfl rfl) <| nend <| qsub (sub_cons (t := 31) rfl <| sub_cons (t := 22) rfl <| sub_cons (t := 8) rfl <| sub_cons (t := 16) rfl <| sub_cons (t := 7) rfl <| sub_cons (t := 6) rfl <| sub_cons (t := 0) rfl <| sub_cons (t := 1) rfl <| sub_cons (t := 2) rfl <| sub_nil) <| qthen <| ?_
    refine cif rfl (fun hgt => ?_) (fun hgt => ?_)
    · refine cseq <| creg <| nq (y_move rfl) <| nq (y_move rfl) <| nq (y_slTo rfl rfl Try.underlying24 sz23 rfl ((by omega))) <| nq (y_move rfl) <| nq (y_move rfl) <| nq (y_add rfl rfl (w64 (by omega) (by omega))) <| nq (y_move rfl) <| nq (yV (y_sub rfl rfl (w64 (by omega) (by omega))) ((show Value.int .i64 ((n : Int) + ((1 : Nat) : Int) - (i : Int)) = .int .i64 ((n + 1 - i : Nat) : Int) by congr 1; omega))) <| ?_
      refine nx (x_appZ rfl rfl Try.underlying24 Try.underlying3 ti23 rfl (hr.take_dc hD hi) (by omega) (by decide) (by omega) (by unfold maxLen; omega) (by omega) fun g3 w3 cap3 rest hg3 hf3 hc3 hm3 hl3 hb3 => ?_)
      rw [show i + (n + 1 - i) = n + 1 by omega] at hc3 ⊢
      have hne3 : ¬ g2 = g3 := by have := hb2.lt; omega
      have hg3b : b ≤ g3 := by omega
      have hrl : 32 + (n - i) * 32 ≤ rest.length := by
        rw [List.length_append, lt] at hl3
        have : (n + 1) * 32 ≤ cap3 * 32 := Nat.mul_le_mul_right _ hc3
        omega
      refine nq (y_assign rfl) <| nend <| qsub (sub_cons (t := 9) rfl <| sub_cons (t := 31) rfl <| sub_cons (t := 22) rfl <| sub_cons (t := 8) rfl <| sub_cons (t := 16) rfl <| sub_cons (t := 7) rfl <| sub_cons (t := 6) rfl <| sub_cons (t := 0) rfl <| sub_cons (t := 1) rfl <| sub_cons (t := 2) rfl <| sub_nil) <| qthen <| cseq <| creg <| nq (y_move rfl) <| nq (y_move rfl) <| nq (yV (y_slFrom rfl rfl Try.underlying24 sz23 rfl ((by omega))) (slFrom_val (by omega))) <| nq (y_move rfl) <| ?_
      refine nx (x_copy rfl rfl Try.underlying24 sz23 (r2.fr0 hf3) (show 1 = min 1 (n + 1 - i) by omega) hb3 (by rw [Nat.zero_add, hl3]; have : (i + 1) * 32 ≤ cap3 * 32 := Nat.mul_le_mul_right _ (by omega); omega) dc_oneCell fun w4 hf4 hb4 hs4 => ?_)
      rw [Nat.zero_add] at hb4
      have hsl4 : (splice (dc (ds.take i) ++ rest) (i * 32) (dc [d])).length = cap3 * 32 := by
        rw [splice_length (by rw [d32, hl3]; have : (i + 1) * 32 ≤ cap3 * 32 := Nat.mul_le_mul_right _ (by omega); omega), hl3]
      have hf34 : Fr No w w4 := hf3.new hf4 (fun j hj => by omega)
      refine nend <| qsub (sub_cons (t := 9) rfl <| sub_cons (t := 31) rfl <| sub_cons (t := 22) rfl <| sub_cons (t := 8) rfl <| sub_cons (t := 16) rfl <| sub_cons (t := 7) rfl <| sub_cons (t := 6) rfl <| sub_cons (t := 0) rfl <| sub_cons (t := 1) rfl <| sub_cons (t := 2) rfl <| sub_nil) <| qthen <| cseq <| ?_
      refine cdrwT [8] [(0, some 0), (1, some 0), (2, some 0), (3, some 0), (4, some 0), (5, some 0), (6, some 0), (7, some 0), (8, none)] (by kernel_rfl) (by kernel_rfl) rfl (fun k w' => k = 0 → Fr No w4 w') (fun _ => Fr.drew _) (fun w5 hf5 hS5 => ?_)
      refine tq1 (fun w_ hS_ => y_move rfl) <| tq1 (fun w_ hS_ => y_move rfl) <| tq1 (fun w_ hS_ => y_move rfl) <| tq1 (fun w_ hS_ => y_add rfl rfl (w64 (by omega) (by omega))) <| tq1 (fun w_ hS_ => yV (y_slFrom rfl rfl Try.underlying24 sz23 (show ((i + 1 : Nat) : Int) = _ by omega) ((by omega))) (slFrom_val (by omega))) <| tq1 (fun w_ hS_ => y_move rfl) <| tq1 (fun w_ hS_ => y_move rfl) <| tq1 (fun w_ hS_ => yV (y_slFrom rfl rfl Try.underlying24 sz23 rfl ((by omega))) (slFrom_val (by omega))) <| ?_
      refine tx (x_copy rfl rfl Try.underlying24 sz23 ((hdr.fr0 hf34).fr0 hf5) (show n - i = min (n - i) (n + 1 - (i + 1)) by omega) (hb4.fr0 hf5) (by rw [hsl4]; have : (n + 1) * 32 ≤ cap3 * 32 := Nat.mul_le_mul_right _ hc3; omega) dc_oneCell fun w6 hf6 hb6 hs6 => ?_)
      refine ⟨fun h => absurd h (by omega), ?_⟩
      rw [show 0 + (i + 1) * 32 = i * 32 + 32 by omega] at hb6
      obtain ⟨q1, q2⟩ := ins_grow (xs := dc (ds.take i)) (rest := rest) (vs := dc [d]) (ys := dc (ds.drop i)) (p := i * 32) (m := 32) (q := (n - i) * 32) lt d32 ld hrl
      refine tend <| qsub (sub_cons (t := 9) rfl <| sub_cons (t := 31) rfl <| sub_cons (t := 22) rfl <| sub_cons (t := 8) rfl <| sub_cons (t := 16) rfl <| sub_cons (t := 7) rfl <| sub_cons (t := 6) rfl <| sub_cons (t := 0) rfl <| sub_cons (t := 1) rfl <| sub_cons (t := 2) rfl <| sub_nil) <| qthen <| cseq <| creg <| nq (y_move rfl) <| nq (y_assign rfl) <| nend <| qsub (sub_cons (t := 6) rfl <| sub_cons (t := 9) rfl <| sub_cons (t := 31) rfl <| sub_cons (t := 22) rfl <| sub_cons (t := 8) rfl <| sub_cons (t := 16) rfl <| sub_cons (t := 7) rfl <| sub_cons (t := 0) rfl <| sub_cons (t := 1) rfl <| sub_cons (t := 2) rfl <| sub_nil) <| qthen <| cret <| qthen_ret <| ?_
      refine ret1 trivial rfl rfl ⟨_, rfl, ⟨?_, .inr ⟨g3, 0, cap3, _, rfl, hg3b, hb6, hc3, hm3, by rw [q2, hl3]; omega, ?_⟩⟩, ((hf34.trans0 hf5).new hf6 (fun j hj => by omega)).mono (fun _ _ e => e.elim)⟩
      · rw [dc_append, dc_append, List.length_append, List.length_append, lt, ld, d32]
        omega
      · rw [List.drop_zero, dc_append, dc_append, ← q1]
        congr 1
        omega
    · have hcap : n + 1 ≤ c := by omega
      have hcl : (n + 1) * 32 ≤ c * 32 := Nat.mul_le_mul_right _ hcap
      have hsb : w.shape? g = some (23, cur.length) := by
        obtain ⟨f, h, _⟩ := hg
        simp only [World.shape?, h]
        simp
      have hsa : w.shape? g2 = some (bt, 32) := by
        simp only [World.shape?, h2]
        simp [d32]
      have hov := Lib.run_overlaps_apart (P := Try.prog) w 24 4 23 Try.underlying24 32 (fun w => Go.Eng.run_sizeOf sz23) ⟨g2, 0, none⟩ ⟨g, o + (i + 1) * 32, none⟩ 1 1 (n + 1 - (i + 1)) (c - (i + 1)) hne bt 23 32 cur.length hsa hsb (by omega) (by simp [World.frozen?, h2]) (by simp [World.frozen?, h2])
      refine cskip <| qthen <| cseq <| creg <| nq (y_move rfl) <| nq (y_move rfl) <| nq (y_move rfl) <| nq (y_add rfl rfl (w64 (by omega) (by omega))) <| nq (y_slTo rfl rfl Try.underlying24 sz23 (show ((n + 1 : Nat) : Int) = _ by omega) ((by omega))) <| nq (y_assign rfl) <| nend <| qsub (sub_cons (t := 0) rfl <| sub_cons (t := 31) rfl <| sub_cons (t := 22) rfl <| sub_cons (t := 8) rfl <| sub_cons (t := 16) rfl <| sub_cons (t := 7) rfl <| sub_cons (t := 6) rfl <| sub_cons (t := 1) rfl <| sub_cons (t := 2) rfl <| sub_nil) <| qthen <| cseq <| cseq <| creg <| nq (y_move rfl) <| nq (y_move rfl) <| nq (y_move rfl) <| nq (y_move rfl) <| nq (y_add rfl rfl (w64 (by omega) (by omega))) <| nq (yV (y_slFrom rfl rfl Try.underlying24 sz23 (show ((i + 1 : Nat) : Int) = _ by omega) ((by omega))) (slFrom_val (by omega))) <| ?_
      refine nq (y_ext rfl Try.func58 (by kernel_rfl) (by kernel_rfl) (by kernel_rfl) (show _ = some (Extern.SlicesOverlaps.overlaps #[24, 24] #[4]) by kernel_rfl) hov) ?_
      refine nq ((y_not rfl)) <| nend <| qsub (sub_cons (t := 68) rfl <| sub_cons (t := 0) rfl <| sub_cons (t := 31) rfl <| sub_cons (t := 22) rfl <| sub_cons (t := 8) rfl <| sub_cons (t := 16) rfl <| sub_cons (t := 7) rfl <| sub_cons (t := 6) rfl <| sub_cons (t := 1) rfl <| sub_cons (t := 2) rfl <| sub_nil) <| qthen <| ?_
      refine cift rfl (rfl) ?_
      refine cseq <| ?_
      refine cdrwT [8] [(0, some 0), (1, some 0), (2, some 0), (3, some 0), (4, some 0), (5, some 0), (6, some 0), (7, some 0), (8, none)] (by kernel_rfl) (by kernel_rfl) rfl (fun k w' => k = 0 → Fr No w w') (fun _ => Fr.drew _) (fun w5 hf5 hS5 => ?_)
      refine tq1 (fun w_ hS_ => y_move rfl) <| tq1 (fun w_ hS_ => y_move rfl) <| tq1 (fun w_ hS_ => y_move rfl) <| tq1 (fun w_ hS_ => y_add rfl rfl (w64 (by omega) (by omega))) <| tq1 (fun w_ hS_ => yV (y_slFrom rfl rfl Try.underlying24 sz23 (show ((i + 1 : Nat) : Int) = _ by omega) ((by omega))) (slFrom_val (by omega))) <| tq1 (fun w_ hS_ => y_move rfl) <| tq1 (fun w_ hS_ => y_move rfl) <| tq1 (fun w_ hS_ => yV (y_slFrom rfl rfl Try.underlying24 sz23 rfl ((by omega))) (slFrom_val (by omega))) <| ?_
      refine tx (x_copy rfl rfl Try.underlying24 sz23 (hdr.fr0 hf5) (show n - i = min (n + 1 - i) (n + 1 - (i + 1)) by omega) (hg.fr0 hf5) (by omega) dc_oneCell fun w6 hf6 hb6 hs6 => ?_)
      refine ⟨fun h => absurd h (by omega), ?_⟩
      have hsl6 : (splice cur (o + (i + 1) * 32) (dc (ds.drop i))).length = cur.length := splice_length (by rw [ld]; omega)
      refine tend <| qsub (sub_cons (t := 68) rfl <| sub_cons (t := 0) rfl <| sub_cons (t := 31) rfl <| sub_cons (t := 22) rfl <| sub_cons (t := 8) rfl <| sub_cons (t := 16) rfl <| sub_cons (t := 7) rfl <| sub_cons (t := 6) rfl <| sub_cons (t := 1) rfl <| sub_cons (t := 2) rfl <| sub_nil) <| qthen <| cseq <| creg <| nq (y_move rfl) <| nq (y_move rfl) <| nq (yV (y_slFrom rfl rfl Try.underlying24 sz23 rfl ((by omega))) (slFrom_val (by omega))) <| nq (y_move rfl) <| ?_
      refine nx (x_copy rfl rfl Try.underlying24 sz23 ((r2.fr0 hf5).fr hf6 (fun a ha => by cases ha; exact hne)) (show 1 = min 1 (n + 1 - i) by omega) hb6 (by rw [hsl6]; omega) dc_oneCell fun w7 hf7 hb7 hs7 => ?_)
      rw [show o + (i + 1) * 32 = o + i * 32 + 32 by omega] at hb7
      have hw : (cur.drop o).take (i * 32 + (n - i) * 32) = dc (ds.take i) ++ dc (ds.drop i) := by
        rw [← dc_append, List.take_append_drop, ← htake]
        congr 1
        omega
      obtain ⟨q1, q2⟩ := ins_room (cur := cur) (xs := dc (ds.take i)) (vs := dc [d]) (ys := dc (ds.drop i)) (o := o) (p := i * 32) (m := 32) (q := (n - i) * 32) hw lt d32 ld (by omega)
      refine nend <| qsub (sub_cons (t := 68) rfl <| sub_cons (t := 0) rfl <| sub_cons (t := 31) rfl <| sub_cons (t := 22) rfl <| sub_cons (t := 8) rfl <| sub_cons (t := 16) rfl <| sub_cons (t := 7) rfl <| sub_cons (t := 6) rfl <| sub_cons (t := 1) rfl <| sub_cons (t := 2) rfl <| sub_nil) <| qthen <| cseq <| creg <| nq (y_move rfl) <| nq (y_assign rfl) <| nend <| qsub (sub_cons (t := 6) rfl <| sub_cons (t := 68) rfl <| sub_cons (t := 0) rfl <| sub_cons (t := 31) rfl <| sub_cons (t := 22) rfl <| sub_cons (t := 8) rfl <| sub_cons (t := 16) rfl <| sub_cons (t := 7) rfl <| sub_cons (t := 1) rfl <| sub_cons (t := 2) rfl <| sub_nil) <| qthen <| cret <| qthen_ret <| ?_
      refine ret1 trivial rfl rfl ⟨_, rfl, ⟨?_, .inr ⟨g, o, c, _, rfl, hbg, hb7, hcap, hcm, by rw [q2]; exact hcs, ?_⟩⟩, ?_⟩
      · rw [dc_append, dc_append, List.length_append, List.length_append, lt, ld, d32]
        omega
      · rw [dc_append, dc_append, ← q1]
        congr 1
        omega
      · have h67 : Fr (fun i => i = g) w w7 := (hf5.trans hf6 (fun _ e => e.elim) (fun _ _ hi => hi)).trans hf7 (fun _ e => e) (fun _ _ hi => hi)
        exact h67.mono (fun _ _ hi => hi)
end Go.Proofs.Ytlbecpekemlllaa
end
section
/- Contracts: journal.Has, Add; the example. -/
set_option linter.unusedVariables false
set_option linter.unusedSimpArgs false
set_option maxRecDepth 20000
namespace Go.Proofs.Ytlbecpekemlllaa
open Go.Eng Go.Hx
theorem found_has {ds : List (List UInt8)} {d : List UInt8} {k : Nat} (h : Found ds d k) (hR : Rise ds) : (k < ds.length ∧ cb (ds.getD k []) d = 0) ↔ d ∈ ds := by
  constructor
  · rintro ⟨h1, h2⟩
    have h3 := cb_eq _ _ h2
    rw [List.getD, List.getElem?_eq_getElem h1] at h3
    simp only [Option.getD_some] at h3
    rw [← h3]
    exact List.getElem_mem h1
  · intro hm
    obtain ⟨q, hq, he⟩ := List.getElem_of_mem hm
    have hgq : ds.getD q [] = d := by rw [List.getD, List.getElem?_eq_getElem hq]; simpa using he
    have h0 : cb (ds.getD q []) d = 0 := by rw [hgq]; exact cb_self d
    rcases Nat.lt_or_ge q k with h1 | h1
    · have := h.lt q h1; omega
    · rcases Nat.eq_or_lt_of_le h1 with h2 | h2
      · subst h2; exact ⟨hq, h0⟩
      · exact absurd (by have h3 := rise_lt hR q k h2 hq; rw [hgq] at h3; exact h3) (h.ge k (Nat.le_refl _) (by omega))
theorem has (img : List UInt8) (A : Option Addr) (n c : Nat) (ds : List (List UInt8)) (d : List UInt8) (w : World) (hi : img.length = 32) (hr : Rd w 32 A n (dc ds)) (hD : D32 ds) (hR : Rise ds) (hd : d.length = 32) (hn : n ≤ 1000000) :
    Calls Try.prog 33 #[.agg (b8s img ++ [Value.slice A n c]).toArray, .agg (b8s d).toArray] w fun e w' => e = .returned (.bool (decide (d ∈ ds))) ∧ Fr No w w' := by
  have hl := dc_len hr hD
  have dl : (b8s d).length = 32 := by rw [b8s_length]; exact hd
  refine enter (N := 15) Try.func33 rfl rfl (by simp) ?_
  refine cseq <| creg <| ?_
  refine nx (x_box rfl fun g1 w1 hg1 hf1 hb1 => ?_)
  refine nx (x_box rfl fun g2 w2 hg2 hf2 hb2 => ?_)
  rw [cells_agg] at hb1 hb2
  have b1 := hb1.fr0 hf2
  refine nq (y_assign rfl) <| nend <| qthen <| cseq <| creg <| nq (y_fld rfl fa31_1 (by decide)) <| nq (y_ld1 rfl ag24 (j_s b1 hi)) <| nq (y_ldN rfl ag23 sz23 dl hb2.cells0) <| ?_
  refine nx (x_call rfl Try.call48 (bsearch A n c ds d _ ((hr.fr0 hf1).fr0 hf2) hD hR hd hn) ?_)
  rintro e_ w3 ⟨k, rfl, hF, hf3⟩
  refine ⟨_, rfl, ?_⟩
  refine nq (y_move rfl) <| nq (y_extract rfl rfl) <| nq (y_extract rfl rfl) <| nq (y_assign rfl) <| nq (y_assign rfl) <| nend <| qsub (sub_cons (t := 6) rfl <| sub_cons (t := 4) rfl <| sub_cons (t := 3) rfl <| sub_cons (t := 2) rfl <| sub_cons (t := 0) rfl <| sub_cons (t := 1) rfl <| sub_nil) <| qthen <| cseq <| creg <| nq (y_move rfl) <| nq (y_assign rfl) <| nend <| qsub (sub_cons (t := 4) rfl <| sub_cons (t := 6) rfl <| sub_cons (t := 3) rfl <| sub_cons (t := 2) rfl <| sub_cons (t := 0) rfl <| sub_cons (t := 1) rfl <| sub_nil) <| qthen <| cret <| ?_
  refine ret1 trivial rfl rfl ⟨?_, (hf1.trans0 hf2).trans0 hf3⟩
  have := found_has hF hR
  rw [hl] at this
  show Ending.returned (.bool (decide (k < n ∧ cb (ds.getD k []) d = 0))) = _
  simp only [this]
theorem dput_mem {ds : List (List UInt8)} {d : List UInt8} {k : Nat} (h : Found ds d k) (hR : Rise ds) : dput ds d = if d ∈ ds then ds else ds.take k ++ [d] ++ ds.drop k := by
  have e := dput_at ds d k h.le h.lt (fun hk => h.ge k (Nat.le_refl _) hk)
  rw [e]
  have h1 : (k < ds.length ∧ ds.getD k [] = d) ↔ d ∈ ds := by
    rw [← found_has h hR]
    exact ⟨fun ⟨a, b⟩ => ⟨a, by rw [b]; exact cb_self d⟩, fun ⟨a, b⟩ => ⟨a, cb_eq _ _ b⟩⟩
  simp only [h1]
theorem add (img : List UInt8) (A : Option Addr) (n c : Nat) (ds : List (List UInt8)) (d : List UInt8) (w : World) (hi : img.length = 32) (hr : Rd w 32 A n (dc ds)) (hD : D32 ds) (hR : Rise ds) (hd : d.length = 32) (hn : n ≤ 1000000) :
    Calls Try.prog 32 #[.agg (b8s img ++ [Value.slice A n c]).toArray, .agg (b8s d).toArray] w fun e w' => ((∃ v, (d ∈ ds ∨ n < 4096) ∧ e = .returned (.tuple #[.agg (b8s img ++ [v]).toArray, .int .i64 0]) ∧ Own w' w.heap.size 23 32 v (dput ds d).length (dc (dput ds d))) ∨ (¬ d ∈ ds ∧ 4096 ≤ n ∧ e = .returned (.tuple #[.agg (b8s (List.replicate 32 0) ++ [Value.slice none 0 0]).toArray, .int .i64 5]))) ∧ Fr No w w' := by
  have hl := dc_len hr hD
  have dl : (b8s d).length = 32 := by rw [b8s_length]; exact hd
  refine enter (N := 36) Try.func32 rfl rfl (by simp) ?_
  refine cseq <| creg <| ?_
  refine nx (x_box rfl fun g1 w1 hg1 hf1 hb1 => ?_)
  refine nx (x_box rfl fun g2 w2 hg2 hf2 hb2 => ?_)
  refine nx (x_alloc ti31 fun g3 w3 hg3 hf3 hb3 => ?_)
  rw [cells_agg] at hb1 hb2
  have l1 := hb1.lt
  have l2 := hb2.lt
  have l3 := hb3.lt
  have s1 := hf1.size
  have s2 := hf2.size
  have s3 := hf3.size
  have b1 := (hb1.fr0 hf2).fr0 hf3
  have b2 := hb2.fr0 hf3
  have f3 := (hf1.trans0 hf2).trans0 hf3
  refine nq (y_assign rfl) <| nend <| qthen <| cseq <| creg <| nq (y_fld rfl fa31_1 (by decide)) <| nq (y_ld1 rfl ag24 (j_s b1 hi)) <| nq (y_ldN rfl ag23 sz23 dl b2.cells0) <| ?_
  refine nx (x_call rfl Try.call48 (bsearch A n c ds d _ (hr.fr0 f3) hD hR hd hn) ?_)
  rintro e_ w4 ⟨k, rfl, hF, hf4⟩
  refine ⟨_, rfl, ?_⟩
  have hfm := found_has hF hR
  rw [hl] at hfm
  have hpm := dput_mem hF hR
  have hkn : k ≤ n := by have := hF.le; omega
  have f4 := f3.trans0 hf4
  have s4 := hf4.size
  have b14 := b1.fr0 hf4
  have b24 := b2.fr0 hf4
  have b34 := hb3.fr0 hf4
  refine nq (y_move rfl) <| nq (y_extract rfl rfl) <| nq (y_extract rfl rfl) <| nq (y_assign rfl) <| nq (y_assign rfl) <| nend <| qsub (sub_cons (t := 7) rfl <| sub_cons (t := 6) rfl <| sub_cons (t := 5) rfl <| sub_cons (t := 4) rfl <| sub_cons (t := 3) rfl <| sub_cons (t := 2) rfl <| sub_cons (t := 0) rfl <| sub_cons (t := 1) rfl <| sub_nil) <| qthen <| cseq <| creg <| nq (y_fld rfl fa31_1 (by decide)) <| nq (y_ld1 rfl ag24 (j_s b14 hi)) <| ?_
  refine nx (x_call rfl Try.call50 (sclone A n c ds _ (hr.fr0 f4) hD hn) ?_)
  rintro e_ w5 ⟨v5, rfl, ho5, hf5⟩
  refine ⟨_, rfl, ?_⟩
  have s5 := hf5.size
  have b15 := b14.fr0 hf5
  obtain ⟨ov5, _⟩ := own_slice1 ho5
  refine nq (y_fld rfl fa31_1 (by decide)) <| ?_
  refine nx0 (x_st1a rfl rfl sz24 ov5 b15 (by rw [j_len hi]; decide) fun w6 hf6 b16 hs6 => ?_)
  rw [Nat.zero_add, j_set hi] at b16
  have ho6 := ho5.fr hf6 (fun i hi => by have := (ho5.from hi).1; omega)
  have b26 := (b24.fr0 hf5).fr hf6 (by omega)
  have b36 := (b34.fr0 hf5).fr hf6 (by omega)
  have f6 : Fr No w w6 := (f4.trans0 hf5).new hf6 (fun i hi => by omega)
  simp only [hfm]
  refine nend <| qsub (sub_cons (t := 7) rfl <| sub_cons (t := 6) rfl <| sub_cons (t := 5) rfl <| sub_cons (t := 4) rfl <| sub_cons (t := 3) rfl <| sub_cons (t := 2) rfl <| sub_cons (t := 0) rfl <| sub_cons (t := 1) rfl <| sub_nil) <| qthen <| cseq <| cblock <| cseq <| creg <| nq (y_move rfl) <| nq (y_assign rfl) <| nend <| qsub (sub_cons (t := 19) rfl <| sub_cons (t := 7) rfl <| sub_cons (t := 6) rfl <| sub_cons (t := 5) rfl <| sub_cons (t := 4) rfl <| sub_cons (t := 3) rfl <| sub_cons (t := 2) rfl <| sub_cons (t := 0) rfl <| sub_cons (t := 1) rfl <| sub_nil) <| qthen <| ?_
  refine cif rfl (fun h => ?_) (fun h => ?_)
  · refine cseq <| creg <| nq (y_ldN rfl ag31 sz31 ((j_len hi)) b16.cells0) <| ?_
    refine nx0 (x_stA rfl rfl sz31 (j_len hi) (j_one ov5) b36 rfl fun w7 hf7 hb7 hs7 => ?_)
    refine nq (y_assign rfl) <| nend <| qsub (sub_cons (t := 5) rfl <| sub_cons (t := 19) rfl <| sub_cons (t := 7) rfl <| sub_cons (t := 6) rfl <| sub_cons (t := 4) rfl <| sub_cons (t := 3) rfl <| sub_cons (t := 2) rfl <| sub_cons (t := 0) rfl <| sub_cons (t := 1) rfl <| sub_nil) <| qthen <| cret <| qblock_ret <| qthen_ret <| ?_
    have ho7 := ho6.fr hf7 (fun i hi => by have := (ho6.from hi).1; omega)
    refine retN1 trivial rfl rfl rfl ag31 sz31 (j_len hi) hb7.cells0 ⟨.inl ⟨v5, .inl h, rfl, ?_⟩, f6.new hf7 (fun i hi => by omega)⟩
    rw [hpm, if_pos h, hl]
    exact ho7.wide (by omega)
  · obtain ⟨A5, c5, rfl, hc5⟩ := ho6.slice
    refine cseq <| creg <| nq (y_fld rfl fa31_1 (by decide)) <| nq (y_ld1 rfl ag24 (j_s b16 hi)) <| nq (y_lenS rfl Try.underlying24) <| nq (y_geq rfl rfl) <| nq (y_assign rfl) <| nend <| qsub (sub_cons (t := 22) rfl <| sub_cons (t := 19) rfl <| sub_cons (t := 7) rfl <| sub_cons (t := 6) rfl <| sub_cons (t := 5) rfl <| sub_cons (t := 4) rfl <| sub_cons (t := 3) rfl <| sub_cons (t := 2) rfl <| sub_cons (t := 0) rfl <| sub_cons (t := 1) rfl <| sub_nil) <| qthen <| ?_
    refine cif rfl (fun h2 => ?_) (fun h2 => ?_)
    · refine cseq <| creg <| nq (y_build0 ti31 rfl (by kernel_rfl)) <| ?_
      refine nx0 (x_stA rfl rfl sz31 rfl (j_one (img := List.replicate 32 0) (s := .slice none 0 0) rfl) b36 rfl fun w7 hf7 hb7 hs7 => ?_)
      refine nq (y_assign rfl) <| nend <| qsub (sub_cons (t := 5) rfl <| sub_cons (t := 22) rfl <| sub_cons (t := 19) rfl <| sub_cons (t := 7) rfl <| sub_cons (t := 6) rfl <| sub_cons (t := 4) rfl <| sub_cons (t := 3) rfl <| sub_cons (t := 2) rfl <| sub_cons (t := 0) rfl <| sub_cons (t := 1) rfl <| sub_nil) <| qthen <| cret <| qblock_ret <| qthen_ret <| ?_
      exact retN1 trivial rfl rfl rfl ag31 sz31 rfl hb7.cells0 ⟨.inr ⟨h, by omega, rfl⟩, f6.new hf7 (fun i hi => by omega)⟩
    · refine cskip <| qblock <| qthen <| cseq <| creg <| nq (y_fld rfl fa31_1 (by decide)) <| nq (y_ld1 rfl ag24 (j_s b16 hi)) <| nq (y_move rfl) <| nq (y_ldN rfl ag23 sz23 dl b26.cells0) <| ?_
      refine nx (x_bslR Try.underlying24 ti23 rfl rfl rfl (by simp [Value.cells, dl]) (by decide) (by decide) fun g8 w8 hg8 hf8 hh8 => ?_)
      have hh8 : w8.heap[g8]? = some (.cells (dc [d]).toArray 23 (0, 0)) := by simpa [Value.cells, dc] using hh8
      have s8 := hf8.size
      have b18 := b16.fr0 hf8
      have b38 := b36.fr0 hf8
      refine nx (x_call rfl Try.call51 (insert w4.heap.size _ n k g8 _ ds d _ (ho6.fr0 hf8) hD hd hkn hn (by omega) hh8 (fun hv => by have := (ho6.from hv).2; omega)) ?_)
      rintro e_ w9 ⟨v9, rfl, ho9, hf9⟩
      refine ⟨_, rfl, ?_⟩
      have s9 := hf9.size
      have hv5 : ∀ i, vblk (Value.slice A5 n c5) i → w4.heap.size ≤ i := fun i hi => (ho6.from hi).1
      have b19 := b18.fr hf9 (fun hv => by have := hv5 _ hv; omega)
      have b39 := b38.fr hf9 (fun hv => by have := hv5 _ hv; omega)
      have f9 : Fr No w w9 := (f6.trans0 hf8).new hf9 (fun i hi => by have := hv5 _ hi; omega)
      obtain ⟨ov9, _⟩ := own_slice1 ho9
      refine nq (y_fld rfl fa31_1 (by decide)) <| ?_
      refine nx0 (x_st1a rfl rfl sz24 ov9 b19 (by rw [j_len hi]; decide) fun w10 hf10 b110 hs10 => ?_)
      rw [Nat.zero_add, j_set hi] at b110
      have b310 := b39.fr hf10 (by omega)
      have ho10 := ho9.fr hf10 (fun i hi => by have := (ho9.from hi).1; omega)
      refine nend <| qsub (sub_cons (t := 22) rfl <| sub_cons (t := 19) rfl <| sub_cons (t := 7) rfl <| sub_cons (t := 6) rfl <| sub_cons (t := 5) rfl <| sub_cons (t := 4) rfl <| sub_cons (t := 3) rfl <| sub_cons (t := 2) rfl <| sub_cons (t := 0) rfl <| sub_cons (t := 1) rfl <| sub_nil) <| qthen <| cseq <| creg <| nq (y_ldN rfl ag31 sz31 ((j_len hi)) b110.cells0) <| ?_
      refine nx0 (x_stA rfl rfl sz31 (j_len hi) (j_one ov9) b310 rfl fun w11 hf11 hb11 hs11 => ?_)
      refine nq (y_assign rfl) <| nend <| qsub (sub_cons (t := 5) rfl <| sub_cons (t := 22) rfl <| sub_cons (t := 19) rfl <| sub_cons (t := 7) rfl <| sub_cons (t := 6) rfl <| sub_cons (t := 4) rfl <| sub_cons (t := 3) rfl <| sub_cons (t := 2) rfl <| sub_cons (t := 0) rfl <| sub_cons (t := 1) rfl <| sub_nil) <| qthen <| cret <| ?_
      have ho11 := ho10.fr hf11 (fun i hi => by have := (ho10.from hi).1; omega)
      refine retN1 trivial rfl rfl rfl ag31 sz31 (j_len hi) hb11.cells0 ⟨.inl ⟨v9, .inr (by omega), rfl, ?_⟩, (f9.new hf10 (fun i hi => by omega)).new hf11 (fun i hi => by omega)⟩
      rw [hpm, if_neg h]
      have hlen : (ds.take k ++ [d] ++ ds.drop k).length = n + 1 := by simp [hl]; omega
      rw [hlen]
      exact ho11.wide (by omega)
theorem add_ok (img : List UInt8) (A : Option Addr) (n c : Nat) (ds : List (List UInt8)) (d : List UInt8) (w : World) (hi : img.length = 32) (hr : Rd w 32 A n (dc ds)) (hD : D32 ds) (hR : Rise ds) (hd : d.length = 32) (hn : n < 4096) :
    Calls Try.prog 32 #[.agg (b8s img ++ [Value.slice A n c]).toArray, .agg (b8s d).toArray] w fun e w' => ∃ v, e = .returned (.tuple #[.agg (b8s img ++ [v]).toArray, .int .i64 0]) ∧ Own w' w.heap.size 23 32 v (dput ds d).length (dc (dput ds d)) ∧ Fr No w w' := by
  refine (add img A n c ds d w hi hr hD hR hd (by omega)).mono fun e w' h => ?_
  rcases h with ⟨⟨v, _, h1, h2⟩ | ⟨_, h1, _⟩, hf⟩
  · exact ⟨v, h1, h2, hf⟩
  · omega
theorem may_nil : JMay [] := by decide
theorem D32nil : D32 [] := fun x hx => by cases hx
theorem bldD (x : UInt8) : Bld Try.prog (plB Try.prog 23) (b8s (List.replicate 32 0)) [(0, B8 x)] (b8s (x :: List.replicate 31 0)) :=
  .cons (o := 0) (sz := 1) (by kernel_rfl) rfl rfl (by decide) .nil
theorem lives17 (w : World) : Calls Try.prog 14 #[] w fun e w' => e = .returned (.bool true) ∧ Fr No w w' := by
  have z32 : (List.replicate 32 (0 : UInt8)).length = 32 := by simp
  have h7 : ((7 : UInt8) :: List.replicate 31 0).length = 32 := by simp
  have h8 : ((8 : UInt8) :: List.replicate 31 0).length = 32 := by simp
  refine enter (N := 44) Try.func14 rfl rfl (by simp) ?_
  refine cseq <| creg <| nq (y_assign rfl) <| nend <| qthen <| cseq <| creg <| nq (y_build0 ti31 rfl (by kernel_rfl)) <| ?_
  refine nx (x_call rfl Try.call19 (write (List.replicate 32 0) none 0 0 [] _ z32 (Rd.nil _ _ _) D32nil (by omega)) ?_)
  rintro e_ w1 ⟨⟨v1, rfl, hv1, _⟩, hf1⟩
  refine ⟨_, rfl, ?_⟩
  have ho1 := hv1 may_nil
  obtain ⟨A1, c1, rfl, hc1⟩ := ho1.slice
  rw [jbody_length z32 D32nil] at ho1 ⊢
  rw [if_pos may_nil]
  refine nq (y_move rfl) <| nq (y_extract rfl rfl) <| nq (y_extract rfl rfl) <| nq (y_assign rfl) <| nq (y_assign rfl) <| nend <| qsub (sub_cons (t := 2) rfl <| sub_cons (t := 1) rfl <| sub_cons (t := 0) rfl <| sub_nil) <| qthen <| cseq <| creg <| nq (y_build0 ti31 rfl (by kernel_rfl)) <| nq (y_build ti23 rfl rfl (by kernel_rfl) ((bldD 7))) <| ?_
  refine nx (x_call rfl Try.call32 (add_ok (List.replicate 32 0) none 0 0 [] (7 :: List.replicate 31 0) _ z32 (Rd.nil _ _ _) D32nil trivial h7 (by omega)) ?_)
  rintro e_ w2 ⟨v2, rfl, ho2, hf2⟩
  refine ⟨_, rfl, ?_⟩
  obtain ⟨A2, c2, rfl, hc2⟩ := ho2.slice
  have r2 := (Own.rd ho2).2.2
  have e2 : dput [] ((7 : UInt8) :: List.replicate 31 0) = [7 :: List.replicate 31 0] := rfl
  rw [e2] at ho2 r2 ⊢
  have hDs : D32 [(7 : UInt8) :: List.replicate 31 0] := fun x hx => by
    have : x = (7 : UInt8) :: List.replicate 31 0 := by simpa using hx
    rw [this]; exact h7
  refine nq (y_move rfl) <| nq (y_extract rfl rfl) <| nq (y_extract rfl rfl) <| ?_
  refine nx (x_alloc ti31 fun g3 w3 hg3 hf3 hb3 => ?_)
  refine nx0 (x_stA rfl rfl sz31 (j_len z32) (j_one rfl) hb3 rfl fun w4 hf4 hb4 hs4 => ?_)
  have f24 : Fr No w2 w4 := hf3.new hf4 (fun i hi => by omega)
  refine nq (y_assign rfl) <| nend <| qsub (sub_cons (t := 4) rfl <| sub_cons (t := 3) rfl <| sub_cons (t := 2) rfl <| sub_cons (t := 1) rfl <| sub_cons (t := 0) rfl <| sub_nil) <| qthen <| cseq <| creg <| nq (y_move rfl) <| nq (yT (y_eql rfl rfl) (decide_eq_true rfl)) <| nq (y_move rfl) <| ng rfl rfl rfl (y_move rfl) <| ng rfl rfl rfl (y_lenS rfl Try.underlying47) <| ng rfl rfl rfl (yT (y_eql rfl rfl) (decide_eq_true rfl)) <| nq (y_pickT rfl rfl) <| nq (y_move rfl) <| ng rfl rfl rfl (y_move rfl) <| ng rfl rfl rfl (yT (y_eql rfl rfl) (decide_eq_true rfl)) <| nq (y_pickT rfl rfl) <| nq (y_move rfl) <| ng rfl rfl rfl (y_fld rfl fa31_1 (by decide)) <| ng rfl rfl rfl (y_ld1 rfl ag24 (j_s hb4 z32)) <| ng rfl rfl rfl (y_lenS rfl Try.underlying24) <| ng rfl rfl rfl (yT (y_eql rfl rfl) (decide_eq_true rfl)) <| nq (y_pickT rfl rfl) <| nq (y_move rfl) <| ng rfl rfl rfl (y_ldN rfl ag31 sz31 ((j_len z32)) hb4.cells0) <| ng rfl rfl rfl (y_build ti23 rfl rfl (by kernel_rfl) ((bldD 7))) <| ?_
  refine nxg rfl rfl rfl (x_call rfl Try.call33 (has (List.replicate 32 0) A2 1 c2 [7 :: List.replicate 31 0] (7 :: List.replicate 31 0) _ z32 (r2.fr0 f24) hDs trivial h7 (by omega)) ?_)
  rintro e_ w5 ⟨rfl, hf5⟩
  refine ⟨_, rfl, ?_⟩
  rw [show decide ((7 : UInt8) :: List.replicate 31 0 ∈ [(7 : UInt8) :: List.replicate 31 0]) = true by decide]
  refine nq (y_pickT rfl rfl) <| nq (y_move rfl) <| ng rfl rfl rfl (y_ldN rfl ag31 sz31 ((j_len z32)) ((hb4.fr0 hf5).cells0)) <| ng rfl rfl rfl (y_build ti23 rfl rfl (by kernel_rfl) ((bldD 8))) <| ?_
  refine nxg rfl rfl rfl (x_call rfl Try.call33 (has (List.replicate 32 0) A2 1 c2 [7 :: List.replicate 31 0] (8 :: List.replicate 31 0) _ z32 ((r2.fr0 f24).fr0 hf5) hDs trivial h8 (by omega)) ?_)
  rintro e_ w6 ⟨rfl, hf6⟩
  refine ⟨_, rfl, ?_⟩
  rw [show decide ((8 : UInt8) :: List.replicate 31 0 ∈ [(7 : UInt8) :: List.replicate 31 0]) = false by decide]
  refine ng rfl rfl rfl ((y_not rfl)) <| nq (y_pickT rfl rfl) <| nq (y_assign rfl) <| nend <| qsub (sub_cons (t := 0) rfl <| sub_cons (t := 4) rfl <| sub_cons (t := 3) rfl <| sub_cons (t := 2) rfl <| sub_cons (t := 1) rfl <| sub_nil) <| qthen <| cret <| ?_
  exact ret1 trivial rfl rfl ⟨rfl, ((((hf1.trans0 hf2).trans0 f24).trans0 hf5).trans0 hf6)⟩
end Go.Proofs.Ytlbecpekemlllaa
end
section
/- A journal's bytes, read: plain lists. No program. -/
set_option linter.unusedVariables false
set_option linter.unusedSimpArgs false
namespace Go.Hx
open Go.Eng
def chunks (k : Nat) (l : List UInt8) : List (List UInt8) := (List.range k).map fun i => (l.drop (32 * i)).take 32
theorem chunks_length (k : Nat) (l : List UInt8) : (chunks k l).length = k := by simp [chunks]
theorem chunks_succ (k : Nat) (l : List UInt8) : chunks (k + 1) l = chunks k l ++ [(l.drop (32 * k)).take 32] := by simp [chunks, List.range_succ]
theorem chunks_D32 {k : Nat} {l : List UInt8} (h : 32 * k ≤ l.length) : D32 (chunks k l) := by
  intro x hx
  simp only [chunks, List.mem_map, List.mem_range] at hx
  obtain ⟨i, hi, rfl⟩ := hx
  rw [List.length_take, List.length_drop]
  omega
theorem chunks_flatten {k : Nat} {l : List UInt8} (h : 32 * k ≤ l.length) : (chunks k l).flatten = l.take (32 * k) := by
  induction k with
  | zero => simp [chunks]
  | succ k ih =>
    rw [chunks_succ, List.flatten_append, ih (by omega)]
    simp only [List.flatten_cons, List.flatten_nil, List.append_nil]
    rw [show 32 * (k + 1) = 32 * k + 32 by omega, List.take_add]
/-- the number of four bytes, the lowest one first -/
def num4 (l : List UInt8) : Nat := (l.getD 0 0).toNat + 256 * (l.getD 1 0).toNat + 65536 * (l.getD 2 0).toNat + 16777216 * (l.getD 3 0).toNat
theorem num4_lt (l : List UInt8) : num4 l < 4294967296 := by
  have h0 := (l.getD 0 0).toNat_lt
  have h1 := (l.getD 1 0).toNat_lt
  have h2 := (l.getD 2 0).toNat_lt
  have h3 := (l.getD 3 0).toNat_lt
  unfold num4
  omega
theorem le4_num4 {l : List UInt8} (h : l.length = 4) : le4 (num4 l) = l := by
  match l, h with
  | [a, b, c, d], _ =>
    have h0 := a.toNat_lt
    have h1 := b.toNat_lt
    have h2 := c.toNat_lt
    have h3 := d.toNat_lt
    have e : ∀ (x : Nat) (u : UInt8), x % 256 = u.toNat → UInt8.ofNat x = u := fun x u hx => by
      apply UInt8.toNat_inj.1
      rw [UInt8.toNat_ofNat']
      exact hx
    simp only [le4, num4, List.getD_cons_zero, List.getD_cons_succ]
    rw [e _ a (by omega), e _ b (by omega), e _ c (by omega), e _ d (by omega)]
theorem num4_le4 {n : Nat} (h : n < 4294967296) : num4 (le4 n) = n := by
  simp only [le4, num4, List.getD_cons_zero, List.getD_cons_succ, UInt8.toNat_ofNat']
  omega
end Go.Hx
end
section
/- Contracts: journal.Read, the reference's Read; the law JournalReads. -/
set_option linter.unusedVariables false
set_option linter.unusedSimpArgs false
set_option maxRecDepth 20000
namespace Go.Proofs.Ytlbecpekemlllaa
open Go.Eng Go.Hx
def jpre : List UInt8 := [76, 84, 74, 49]
def imgOf (b : List UInt8) : List UInt8 := (b.drop 4).take 32
def cntOf (b : List UInt8) : Nat := (b.length - 40) / 32
def dsOf (b : List UInt8) : List (List UInt8) := chunks (cntOf b) (b.drop 40)
/-- the body of a journal -/
structure OkJ (b : List UInt8) : Prop where
  len : 40 ≤ b.length
  mod : (b.length - 40) % 32 = 0
  may : JMay (dsOf b)
  eq : jbody (imgOf b) (dsOf b) = b
theorem split_body {b : List UInt8} (h : 40 ≤ b.length) : b = b.take 4 ++ imgOf b ++ (b.drop 36).take 4 ++ b.drop 40 := by
  have e1 : b.drop 36 = (b.drop 36).take 4 ++ b.drop 40 := by
    conv => lhs; rw [← List.take_append_drop 4 (b.drop 36)]
    rw [List.drop_drop]
  have e2 : b.drop 4 = imgOf b ++ b.drop 36 := by
    conv => lhs; rw [← List.take_append_drop 32 (b.drop 4)]
    rw [List.drop_drop]
    rfl
  conv => lhs; rw [← List.take_append_drop 4 b, e2, e1]
  simp
theorem img_len {b : List UInt8} (h : 40 ≤ b.length) : (imgOf b).length = 32 := by
  rw [imgOf, List.length_take, List.length_drop]; omega
theorem ds_D32 {b : List UInt8} (h : 40 ≤ b.length) : D32 (dsOf b) := chunks_D32 (by rw [List.length_drop, cntOf]; omega)
theorem ds_length (b : List UInt8) : (dsOf b).length = cntOf b := chunks_length _ _
theorem flat_all {b : List UInt8} (h : 40 ≤ b.length) (hm : (b.length - 40) % 32 = 0) : (dsOf b).flatten = b.drop 40 := by
  rw [dsOf, Go.Hx.chunks_flatten (by rw [List.length_drop, cntOf]; omega), List.take_of_length_le]
  rw [List.length_drop, cntOf]; omega
/-- what the program looks at -/
theorem okJ_iff {b : List UInt8} (h : 40 ≤ b.length) : OkJ b ↔ b.take 4 = jpre ∧ b.length - 40 = 32 * num4 ((b.drop 36).take 4) ∧ JMay (dsOf b) := by
  have hs := split_body h
  have l4 : ((b.drop 36).take 4).length = 4 := by rw [List.length_take, List.length_drop]; omega
  have t4 : (b.take 4).length = 4 := by rw [List.length_take]; omega
  have hi := img_len h
  constructor
  · rintro ⟨h1, h2, h3, h4⟩
    have hc : cntOf b < 4294967296 := by have := h3.2; rw [ds_length] at this; omega
    rw [jbody, flat_all h1 h2, ds_length] at h4
    have h5 := h4.trans hs
    rw [List.append_assoc, List.append_assoc, List.append_assoc (b.take 4 ++ imgOf b), List.append_assoc (b.take 4)] at h5
    obtain ⟨h6, h7⟩ := List.append_inj h5 (by rw [t4]; rfl)
    obtain ⟨_, h8⟩ := List.append_inj h7 rfl
    obtain ⟨h9, _⟩ := List.append_inj h8 (by rw [l4]; rfl)
    refine ⟨h6.symm, ?_, h3⟩
    rw [← h9, num4_le4 hc, cntOf]
    omega
  · rintro ⟨h1, h2, h3⟩
    have hm : (b.length - 40) % 32 = 0 := by omega
    have hc : cntOf b = num4 ((b.drop 36).take 4) := by rw [cntOf]; omega
    refine ⟨h, hm, h3, ?_⟩
    rw [jbody, flat_all h hm, ds_length, hc, le4_num4 l4]
    conv => rhs; rw [hs, h1]
    rfl
/-- what Read tells -/
def ReadJ (l : List UInt8) (img : List UInt8) (ds : List (List UInt8)) (e : Int) : Prop :=
  (takeE l ≠ 0 ∧ img = List.replicate 32 0 ∧ ds = [] ∧ e = takeE l) ∨
  (takeE l = 0 ∧ OkJ (l.take (l.length - 4)) ∧ img = imgOf (l.take (l.length - 4)) ∧ ds = dsOf (l.take (l.length - 4)) ∧ e = 0) ∨
  (takeE l = 0 ∧ ¬ OkJ (l.take (l.length - 4)) ∧ img = List.replicate 32 0 ∧ ds = [] ∧ e = 2)
theorem ReadJ.same {l i1 i2 : List UInt8} {d1 d2 : List (List UInt8)} {e1 e2 : Int} (h : ReadJ l i1 d1 e1) (h' : ReadJ l i2 d2 e2) : i1 = i2 ∧ d1 = d2 ∧ e1 = e2 := by
  rcases h with ⟨a, rfl, rfl, rfl⟩ | ⟨a, b, rfl, rfl, rfl⟩ | ⟨a, b, rfl, rfl, rfl⟩ <;> rcases h' with ⟨a', rfl, rfl, rfl⟩ | ⟨a', b', rfl, rfl, rfl⟩ | ⟨a', b', rfl, rfl, rfl⟩ <;> first | exact ⟨rfl, rfl, rfl⟩ | exact absurd a' a | exact absurd a a' | exact absurd b b' | exact absurd b' b
theorem Rd.sub {w : World} {A : Option Addr} {N c : Nat} {B : List UInt8} (h : Rd w 1 A N (b8s B)) (hc : N ≤ c) {k m : Nat} (hk : k + m ≤ N) : Rd w 1 (if c = k then A else A.map (·.add (k * 1))) m (b8s ((B.drop k).take m)) := by
  have h1 := Rd.cut h (show k ≤ N by omega) hc
  rw [Nat.mul_one, ← b8s_drop] at h1
  rw [Nat.mul_one]
  exact Rd.takeB h1 (by omega)
end Go.Proofs.Ytlbecpekemlllaa
end
section
/- The number of four bytes, read from the highest one down. No program. -/
set_option linter.unusedVariables false
namespace Go.Hx
open Go.Eng
/-- what is read of j bytes, the highest one first -/
def acc (l : List UInt8) : Nat → Nat
  | 0 => 0
  | j + 1 => acc l j * 256 + (l.getD (3 - j) 0).toNat
theorem acc_lt (l : List UInt8) : ∀ j, acc l j < 256 ^ j
  | 0 => by simp [acc]
  | j + 1 => by
    have h1 := acc_lt l j
    have h2 := (l.getD (3 - j) 0).toNat_lt
    rw [acc, Nat.pow_succ]
    omega
theorem acc_le (l : List UInt8) {j : Nat} (h : j ≤ 4) : acc l j < 4294967296 := by
  have h1 := acc_lt l j
  have h2 : 256 ^ j ≤ 256 ^ 4 := Nat.pow_le_pow_right (by decide) h
  have h3 : 256 ^ 4 = 4294967296 := by decide
  omega
theorem acc4 (l : List UInt8) : acc l 4 = num4 l := by
  have e : (3 - 0 = 3) ∧ (3 - 1 = 2) ∧ (3 - 2 = 1) ∧ (3 - 3 = 0) := by decide
  simp only [acc, num4, e.1, e.2.1, e.2.2.1, e.2.2.2]
  omega
theorem or_byte (a b : Nat) (ha : a < 4294967296) (hb : b < 256) : bits .or .i64 (a * 256 : Int) (b : Int) = ((a * 256 + b : Nat) : Int) := by
  have h1 : (a * 256 : Int) = ((a * 256 : Nat) : Int) := by simp
  have h2 : a * 256 ||| b = a * 256 + b := by rw [Nat.mul_comm a 256, show 256 = 2 ^ 8 from rfl, Nat.two_pow_add_eq_or_of_lt (by simpa using hb)]
  have e0 : ∀ n : Nat, n < 18446744073709551616 → (BitVec.ofInt 64 (n : Int)).toNat = n := fun n hn => by
    rw [BitVec.toNat_ofInt]
    simp
    omega
  rw [h1]
  show IntKind.i64.wrap ((BitVec.ofInt 64 ((a * 256 : Nat) : Int) ||| BitVec.ofInt 64 (b : Int)).toNat : Int) = _
  rw [BitVec.toNat_or, e0 _ (by omega), e0 _ (by omega), h2]
  exact w64 (by omega) (by omega)
end Go.Hx
end
section
/- Contract: journal.Read. -/
set_option linter.unusedVariables false
set_option linter.unusedSimpArgs false
set_option maxRecDepth 20000
namespace Go.Proofs.Ytlbecpekemlllaa
open Go.Eng Go.Hx
theorem cutPrefixC {s p : List UInt8} (hs : s.length ≤ 70368744177664) (hp : p.length ≤ 70368744177664) : Con Try.prog 38 [.string (strOf s), .string (strOf p)] [] [] (fun v_ X_ S_ => v_ = (.tuple #[.string (strOf (if s.take p.length = p then s.drop p.length else s)), .bool (decide (s.take p.length = p))]) ∧ X_ = [] ∧ S_ = []) := by
  exact con_pure fun m => Calls.mono (cutPrefix s p _ hs hp) (fun e w' ⟨h, hw⟩ => ⟨_, h, ⟨rfl, rfl, rfl⟩, hw ▸ Fr.refl _ _⟩)
theorem jmayC {img : List UInt8} {A : Option Addr} {n c : Nat} {ds : List (List UInt8)} (hi : img.length = 32) (hD : D32 ds) (hn : n ≤ 140737488351232) : Con Try.prog 39 [.agg (b8s img ++ [Value.slice A n c]).toArray] [] [RRd 32 A n (dc ds)] (fun v_ X_ S_ => v_ = (.bool (decide (JMay ds))) ∧ X_ = [] ∧ S_ = []) := by
  exact con_pure fun m => Calls.mono (may img A n c ds _ hi (m.rd 0 rfl) hD hn) (fun e w' ⟨h, hw⟩ => ⟨_, h, ⟨rfl, rfl, rfl⟩, hw⟩)
theorem jreadC {A : Option Addr} {n c : Nat} {l : List UInt8} (hc : n ≤ c) (hn : n ≤ 1000000) : Con Try.prog 18 [.slice A n c] [] [RRd 1 A n (b8s l)] (fun v_ X_ S_ => ∃ img v ds err, v_ = (.tuple #[.agg (b8s img ++ [v]).toArray, .int .i64 err]) ∧ X_ = [ROwn 23 32 v ds.length (dc ds)] ∧ S_ = [] ∧ (img.length = 32 ∧ D32 ds ∧ ReadJ l img ds err)) := by
  have z32 : (List.replicate 32 (0 : UInt8)).length = 32 := by simp
  refine henter (N := 81) Try.func18 rfl rfl (by simp) fun b => ?_
  refine hfactC (fun m => rdB (m.rd 0 rfl)) ?_
  rintro ⟨hl_r, hA_r⟩
  refine hseq <| hreg <| ?_
  refine hx (xh_alloc ti31 (fun g2 => ?_))
  refine hy (fun _ => y_assign rfl) <| hend <| hmemQ (X' := [_]) (S' := [_]) (fun _ m => m) <| hthen <| hseq <| hreg <| hy (fun _ => y_move rfl) <| ?_
  refine hx (xh_call rfl Try.call37 (crcTakeC (by omega) (by omega)) [] rfl [0] rfl ?_)
  rintro _ _ _ ⟨v, rfl, rfl, rfl⟩
  refine hfactL (fun m => (m.own 0 rfl).slice) ?_
  rintro ⟨A_x, c_x, rfl, hc_x⟩
  refine hfactL (fun m => (m.ord 0 rfl).2.1) fun hA_x => ?_
  refine hy (fun _ => y_move rfl) <| hy (fun _ => y_extract rfl rfl) <| hy (fun _ => y_extract rfl rfl) <| hy (fun _ => y_assign rfl) <| hy (fun _ => y_assign rfl) <| hend <| hsub (ρ' := [(5, _), (4, _), (3, _), (2, _), (0, _)]) ⟨rfl, rfl, rfl, rfl, rfl, trivial⟩ <| hmemQ (X' := [_, _]) (S' := [_]) (fun _ m => m) <| hthen <| hseq <| hseq <| hreg <| hy (fun _ => y_move rfl) <| hy (fun _ => y_neq rfl rfl) <| hend <| hsub (ρ' := [(17, _), (5, _), (4, _), (3, _), (2, _), (0, _)]) ⟨rfl, rfl, rfl, rfl, rfl, rfl, trivial⟩ <| hthen <| ?_
  refine hif rfl (fun h => ?_) (fun h => ?_)
  · refine hseq <| hreg <| hy (fun _ => y_build0 ti31 rfl (by kernel_rfl)) <| hy (fun _ => y_move rfl) <| ?_
    refine hx0 (xh_stA 1 rfl rfl rfl sz31 (j_len z32) (j_one (s := .slice none 0 0) rfl) rfl ?_)
    refine hy (fun _ => y_assign rfl) <| hend <| hsub (ρ' := [(3, _), (17, _), (5, _), (4, _), (2, _), (0, _)]) ⟨rfl, rfl, rfl, rfl, rfl, rfl, trivial⟩ <| hmemQ (X' := [_, _]) (S' := [_]) (fun _ m => m) <| hthen <| hret <| hthen_ret <| ?_
    refine hmemQ (fun w m => m.addX (r' := ROwn 23 32 (.slice none 0 0) 0 []) (.refl _ _) (Own.nil _ _ _ _) (fun k hk => hk.elim)) ?_
    exact hretN1 trivial rfl rfl rfl ag31 sz31 (j_len z32) (fun m => (m.blk 1 rfl).cells0) [0] rfl [] rfl ⟨_, _, [], _, rfl, rfl, rfl, ⟨z32, D32nil, .inl ⟨h, rfl, rfl, rfl⟩⟩⟩
  · have h0 := Decidable.not_not.1 h
    have hn4 : 4 ≤ n := by
      rcases Nat.lt_or_ge l.length 4 with hlt | hge
      · rw [(takeE_2 hlt).1] at h0; omega
      · omega
    have hB : takeB l = l.take (l.length - 4) := by rw [takeB, if_pos h0]
    have hbl := takeB_len h0
    generalize takeB l = B at hB hbl
    have hbad : ¬ OkJ B → ReadJ l (List.replicate 32 0) [] 2 := fun hb => .inr (.inr ⟨h0, by rw [← hB]; exact hb, rfl, rfl, rfl⟩)
    have hok : OkJ B → ReadJ l (imgOf B) (dsOf B) 0 := fun hb => .inr (.inl ⟨h0, by rw [← hB]; exact hb, by rw [← hB], by rw [← hB], rfl⟩)
    refine hcskip <| hthen <| hseq <| hreg <| hy (fun _ => y_move rfl) <| hy (fun m => y_b2s rfl Try.underlying47 Try.underlying5 Try.underlying9 (m.ord 0 rfl)) <| ?_
    refine hx (xh_call rfl Try.call38 (cutPrefixC (by omega) (by decide)) [] rfl [] rfl ?_)
    rintro _ _ _ ⟨rfl, rfl, rfl⟩
    refine hy (fun _ => y_move rfl) <| hy (fun _ => y_extract rfl rfl) <| hy (fun _ => y_extract rfl rfl) <| hy (fun _ => y_assign rfl) <| hy (fun _ => y_assign rfl) <| hend <| hsub (ρ' := [(7, _), (6, _), (17, _), (5, _), (4, _), (3, _), (2, _), (0, _)]) ⟨rfl, rfl, rfl, rfl, rfl, rfl, rfl, rfl, trivial⟩ <| hmemQ (X' := [_, _]) (S' := [_]) (fun _ m => m) <| hthen <| hseq <| hseq <| hreg <| hy (fun _ => y_move rfl) <| hy (fun _ => y_notp rfl) <| hy (fun _ => y_move rfl) <| ?_
    refine hsplit 28 rfl (fun hp => ?_) (fun hp => ?_)
    · refine hskip rfl rfl rfl (by decide) <| hskip rfl rfl rfl (by decide) <| hskip rfl rfl rfl (by decide) <| hy (fun _ => y_pickT rfl rfl) <| hend <| hsub (ρ' := [(32, _), (7, _), (6, _), (17, _), (5, _), (4, _), (3, _), (2, _), (0, _)]) ⟨rfl, rfl, rfl, rfl, rfl, rfl, rfl, rfl, rfl, trivial⟩ <| hthen <| ?_
      refine hift rfl (rfl) ?_
      refine hseq <| hreg <| hy (fun _ => y_build0 ti31 rfl (by kernel_rfl)) <| ?_
      refine hx0 (xh_stA 1 rfl rfl rfl sz31 (j_len z32) (j_one (s := .slice none 0 0) rfl) rfl ?_)
      refine hy (fun _ => y_assign rfl) <| hend <| hsub (ρ' := [(3, _), (32, _), (7, _), (6, _), (17, _), (5, _), (4, _), (2, _), (0, _)]) ⟨rfl, rfl, rfl, rfl, rfl, rfl, rfl, rfl, rfl, trivial⟩ <| hmemQ (X' := [_, _]) (S' := [_]) (fun _ m => m) <| hthen <| hret <| hthen_ret <| ?_
      refine hmemQ (fun w m => m.addX (r' := ROwn 23 32 (.slice none 0 0) 0 []) (.refl _ _) (Own.nil _ _ _ _) (fun k hk => hk.elim)) ?_
      exact hretN1 trivial rfl rfl rfl ag31 sz31 (j_len z32) (fun m => (m.blk 1 rfl).cells0) [0] rfl [] rfl ⟨_, _, [], _, rfl, rfl, rfl, ⟨z32, D32nil, hbad (fun hb => hp ((okJ_iff hb.len).1 hb).1)⟩⟩
    · have hp := Decidable.not_not.1 hp
      have hp' : B.take 4 = [76, 84, 74, 49] := hp
      rw [if_pos hp]
      show HL _ _ _ _ _ _ ((28, Value.bool false) :: _) _ _ _
      rw [show ([76, 84, 74, 49] : List UInt8).length = 4 from rfl]
      have hsz := strOf_size (B.drop 4)
      have hdl : (B.drop 4).length = n - 4 - 4 := by rw [List.length_drop, hbl, hl_r]
      refine hyg (o := _) rfl rfl rfl (fun _ => y_move rfl) <| hyg (o := _) rfl rfl rfl (fun _ => y_lenStr rfl Try.underlying9) <| hyg (o := _) rfl rfl rfl (fun _ => y_lss rfl rfl) <| hy (fun _ => y_pickF rfl rfl) <| hend <| hsub (ρ' := [(32, _), (7, _), (6, _), (17, _), (5, _), (4, _), (3, _), (2, _), (0, _)]) ⟨rfl, rfl, rfl, rfl, rfl, rfl, rfl, rfl, rfl, trivial⟩ <| hthen <| ?_
      refine hif rfl (fun h5 => ?_) (fun h5 => ?_)
      · refine hseq <| hreg <| hy (fun _ => y_build0 ti31 rfl (by kernel_rfl)) <| ?_
        refine hx0 (xh_stA 1 rfl rfl rfl sz31 (j_len z32) (j_one (s := .slice none 0 0) rfl) rfl ?_)
        refine hy (fun _ => y_assign rfl) <| hend <| hsub (ρ' := [(3, _), (32, _), (7, _), (6, _), (17, _), (5, _), (4, _), (2, _), (0, _)]) ⟨rfl, rfl, rfl, rfl, rfl, rfl, rfl, rfl, rfl, trivial⟩ <| hmemQ (X' := [_, _]) (S' := [_]) (fun _ m => m) <| hthen <| hret <| hthen_ret <| ?_
        refine hmemQ (fun w m => m.addX (r' := ROwn 23 32 (.slice none 0 0) 0 []) (.refl _ _) (Own.nil _ _ _ _) (fun k hk => hk.elim)) ?_
        exact hretN1 trivial rfl rfl rfl ag31 sz31 (j_len z32) (fun m => (m.blk 1 rfl).cells0) [0] rfl [] rfl ⟨_, _, [], _, rfl, rfl, rfl, ⟨z32, D32nil, hbad (fun hb => by have := hb.len; omega)⟩⟩
      · have h40 : 40 ≤ B.length := by omega
        have hiL := img_len h40
        have e36 : (bytesOf (strOf (imgOf B))) = imgOf B := rfl
        have l36 : (bytesOf (strOf (imgOf B))).length = 32 := hiL
        refine hcskip <| hthen <| hseq <| hreg <| hy (fun _ => y_move rfl) <| hy (fun _ => yV (y_strTo rfl rfl Try.underlying9 (show ((32 : Nat) : Int) = 32 from rfl) (by rw [bytesOf_strOf]; omega)) ((rfl : Value.string _ = .string (strOf (imgOf B))))) <| ?_
        refine hx (xh_s2b rfl Try.underlying9 Try.underlying47 Try.underlying5 (by rw [bytesOf_strOf, hiL]; decide) (fun v36 => ?_))
        refine hfactL (fun m => (m.own 0 rfl).slice) ?_
        rintro ⟨A_b36, c_b36, rfl, hc_b36⟩
        refine hfactL (fun m => (m.ord 0 rfl).2.1) fun hA_b36 => ?_
        refine hfactL (fun m => (m.ord 0 rfl).some (by rw [e36, hiL]; decide)) fun h_ => ?_
        obtain ⟨a36, rfl⟩ : ∃ a_, A_b36 = some a_ := ⟨_, h_⟩
        clear h_
        refine hy (fun _ => y_arrAt rfl Try.underlying23 (by omega)) <| hy (fun m => yV (y_ldN rfl ag23 sz23 (by rw [b8s_length]; exact hiL) ((m.ord 0 rfl).2.2)) ((rfl : Value.agg _ = .agg (b8s (imgOf B)).toArray))) <| hy (fun _ => y_build ti31 rfl rfl (by kernel_rfl) (bldJ0 pl31_0 (by simp) hiL)) <| ?_
        refine hx (xh_alloc ti31 (fun g8 => ?_))
        refine hx0 (xh_stA 0 rfl rfl rfl sz31 (j_len hiL) (j_one (s := .slice none 0 0) rfl) rfl ?_)
        refine hend <| hsub (ρ' := [(8, _), (32, _), (7, _), (6, _), (17, _), (5, _), (4, _), (3, _), (2, _), (0, _)]) ⟨rfl, rfl, rfl, rfl, rfl, rfl, rfl, rfl, rfl, rfl, trivial⟩ <| hmemQ (X' := [_, _, _, _]) (S' := [_]) (fun _ m => m) <| hthen <| hseq <| hreg <| hy (fun _ => y_assign rfl) <| hend <| hthen <| hseq <| hseq <| hreg <| hy (fun _ => y_assign rfl) <| hend <| hthen <| hblock <| ?_
        refine hloop1 (fun j => 4 - j) (fun j => [(9, .int .i64 (acc ((B.drop 36).take 4) j : Nat)), (10, .int .i64 (3 - (j : Int)))]) (fun j => []) (fun j => []) (fun j => j ≤ 4) 0 [(8, _), (32, _), (7, _), (6, _), (17, _), (5, _), (4, _), (3, _), (2, _), (0, _)] ⟨rfl, rfl, rfl, rfl, rfl, rfl, rfl, rfl, rfl, rfl, trivial⟩ [] rfl [] rfl (Nat.zero_le _) ⟨rfl, rfl, trivial⟩ (fun j hI => ?_)
        refine hseq <| hseq <| hreg <| hy (fun _ => y_move rfl) <| hy (fun _ => y_geq rfl rfl) <| hend <| hsub (ρ' := [(41, _), (9, _), (10, _), (8, _), (32, _), (7, _), (6, _), (17, _), (5, _), (4, _), (3, _), (2, _), (0, _)]) ⟨rfl, rfl, rfl, rfl, rfl, rfl, rfl, rfl, rfl, rfl, rfl, rfl, rfl, trivial⟩ <| hthen <| ?_
        refine hif rfl (fun hj => ?_) (fun hj => ?_)
        · have hl36 : ((B.drop 36).take 4).length = 4 := by rw [List.length_take, List.length_drop]; omega
          have hac := acc_le ((B.drop 36).take 4) (show j ≤ 4 by omega)
          have hby : (((B.drop 36).take 4).getD (3 - j) 0).toNat < 256 := UInt8.toNat_lt _
          have hget : (B.drop 4).getD (32 + (3 - j)) 0 = ((B.drop 36).take 4).getD (3 - j) 0 := by
            simp only [List.getD, List.getElem?_take, List.getElem?_drop]
            rw [if_pos (by omega), show 4 + (32 + (3 - j)) = 36 + (3 - j) by omega]
          have hlet : (strOf (B.drop 4)).data[32 + (3 - j)]? = some (((B.drop 36).take 4).getD (3 - j) 0) := by rw [strOf_at (by omega), hget]
          refine hcskip <| hthen <| hseq <| hblock <| hreg <| hy (fun _ => y_move rfl) <| hy (fun _ => y_shl (p := 256) rfl rfl (by decide) (by decide) (by decide) (w64 (by omega) (by omega))) <| hy (fun _ => y_move rfl) <| hy (fun _ => y_move rfl) <| hy (fun _ => y_add rfl rfl (w64 (by omega) (by omega))) <| hy (fun _ => y_idxStr rfl rfl Try.underlying9 (show ((32 + (3 - j) : Nat) : Int) = _ by omega) hlet) <| hy (fun _ => y_conv rfl Try.underlying5 Try.underlying3 (wb8 _)) <| hy (fun _ => y_bits (by simp) rfl rfl (or_byte _ _ hac hby)) <| hy (fun _ => y_assign rfl) <| hend <| hsub (ρ' := [(9, _), (41, _), (10, _), (8, _), (32, _), (7, _), (6, _), (17, _), (5, _), (4, _), (3, _), (2, _), (0, _)]) ⟨rfl, rfl, rfl, rfl, rfl, rfl, rfl, rfl, rfl, rfl, rfl, rfl, rfl, trivial⟩ <| hqblock <| hthen <| hreg <| hy (fun _ => y_move rfl) <| hy (fun _ => yV (y_sub rfl rfl (w64 (by omega) (by omega))) ((show Value.int .i64 ((3 - (j : Int)) - 1) = .int .i64 (3 - ((j + 1 : Nat) : Int)) by congr 1; omega))) <| hy (fun _ => y_assign rfl) <| hend <| hsub (ρ' := [(10, _), (9, _), (41, _), (8, _), (32, _), (7, _), (6, _), (17, _), (5, _), (4, _), (3, _), (2, _), (0, _)]) ⟨rfl, rfl, rfl, rfl, rfl, rfl, rfl, rfl, rfl, rfl, rfl, rfl, rfl, trivial⟩ <| ?_
          refine hnext1 (j + 1) ⟨rfl, rfl, rfl, rfl, rfl, rfl, rfl, rfl, rfl, rfl, rfl, rfl, trivial⟩ [0, 0, 0, 0] rfl [0] rfl (by omega) (by omega)
        · obtain rfl : j = 4 := by omega
          rw [acc4]
          have hnl := num4_lt ((B.drop 36).take 4)
          have hok1 := okJ_iff h40
          generalize num4 ((B.drop 36).take 4) = N at hnl hok1
          refine hexit <| hthen_exit <| hthen_exit <| hqblock_exit <| hthen <| hseq <| hreg <| hy (fun _ => y_move rfl) <| hy (fun _ => yV (y_strFrom rfl rfl Try.underlying9 (show ((36 : Nat) : Int) = 36 from rfl) (by rw [bytesOf_strOf]; omega)) ((show Value.string (strOf ((B.drop 4).drop 36)) = .string (strOf (B.drop 40)) by rw [List.drop_drop]))) <| hy (fun _ => y_assign rfl) <| hend <| hsub (ρ' := [(6, _), (41, _), (9, _), (10, _), (8, _), (32, _), (7, _), (17, _), (5, _), (4, _), (3, _), (2, _), (0, _)]) ⟨rfl, rfl, rfl, rfl, rfl, rfl, rfl, rfl, rfl, rfl, rfl, rfl, rfl, trivial⟩ <| hthen <| hseq <| hseq <| hreg <| hy (fun _ => y_move rfl) <| hy (fun _ => y_lenStr rfl Try.underlying9) <| hy (fun _ => y_move rfl) <| hy (fun _ => y_mul rfl rfl (w64 (by omega) (by omega))) <| hy (fun _ => y_neq rfl rfl) <| hend <| hsub (ρ' := [(58, _), (6, _), (41, _), (9, _), (10, _), (8, _), (32, _), (7, _), (17, _), (5, _), (4, _), (3, _), (2, _), (0, _)]) ⟨rfl, rfl, rfl, rfl, rfl, rfl, rfl, rfl, rfl, rfl, rfl, rfl, rfl, rfl, trivial⟩ <| hthen <| ?_
          have hd40 := strOf_size (B.drop 40)
          have hl40 : (B.drop 40).length = B.length - 40 := List.length_drop
          refine hif rfl (fun h58 => ?_) (fun h58 => ?_)
          · refine hseq <| hreg <| hy (fun _ => y_build0 ti31 rfl (by kernel_rfl)) <| ?_
            refine hx0 (xh_stA 3 rfl rfl rfl sz31 (j_len z32) (j_one (s := .slice none 0 0) rfl) rfl ?_)
            refine hy (fun _ => y_assign rfl) <| hend <| hsub (ρ' := [(3, _), (58, _), (6, _), (41, _), (9, _), (10, _), (8, _), (32, _), (7, _), (17, _), (5, _), (4, _), (2, _), (0, _)]) ⟨rfl, rfl, rfl, rfl, rfl, rfl, rfl, rfl, rfl, rfl, rfl, rfl, rfl, rfl, trivial⟩ <| hmemQ (X' := [_, _, _, _]) (S' := [_]) (fun _ m => m) <| hthen <| hret <| hthen_ret <| ?_
            refine hmemQ (fun w m => m.addX (r' := ROwn 23 32 (.slice none 0 0) 0 []) (.refl _ _) (Own.nil _ _ _ _) (fun k hk => hk.elim)) ?_
            exact hretN1 trivial rfl rfl rfl ag31 sz31 (j_len z32) (fun m => (m.blk 1 rfl).cells0) [0] rfl [] rfl ⟨_, _, [], _, rfl, rfl, rfl, ⟨z32, D32nil, hbad (fun hb => h58 (by have := (hok1.1 hb).2.1; omega))⟩⟩
          · refine hmemC (fun w m => m.addX (r' := ROwn 23 32 (.slice none 0 0) 0 []) (.refl _ _) (Own.nil _ _ _ _) (fun k hk => hk.elim)) ?_
            refine hcskip <| hthen <| hseq <| hseq <| hreg <| hy (fun _ => y_move rfl) <| hy (fun _ => y_move rfl) <| hend <| hthen <| hblock <| ?_
            refine hloop3 (fun k A c1 => N - k) (fun k A c1 => [(6, .string (strOf (B.drop (40 + 32 * k)))), (61, .int .i64 (k : Nat))]) (fun k A c1 => [RBlk g8 31 (b8s (imgOf B) ++ [Value.slice A k c1]), ROwn 23 32 (.slice A k c1) k (dc (chunks k (B.drop 40)))]) (fun k A c1 => []) (fun k A c1 => k ≤ N) 0 none 0 [(60, _), (58, _), (41, _), (9, _), (10, _), (8, _), (32, _), (7, _), (17, _), (5, _), (4, _), (3, _), (2, _), (0, _)] ⟨rfl, rfl, rfl, rfl, rfl, rfl, rfl, rfl, rfl, rfl, rfl, rfl, rfl, rfl, trivial⟩ [1, 0] rfl [] rfl (Nat.zero_le _) ⟨rfl, rfl, trivial⟩ (fun k A c1 hI => ?_)
            refine hseq <| hreg <| hy (fun _ => y_lss rfl rfl) <| hend <| hthen <| hseq <| ?_
            refine hif rfl (fun h62 => ?_) (fun h62 => ?_)
            · have hsz : (B.drop (40 + 32 * k)).length = B.length - (40 + 32 * k) := List.length_drop
              have hl32 : ((B.drop (40 + 32 * k)).take 32).length = 32 := by rw [List.length_take]; omega
              have l67 : (bytesOf (strOf ((B.drop (40 + 32 * k)).take 32))).length = 32 := hl32
              refine hcskip <| hthen <| hseq <| hblock <| hseq <| hdrw [4, 6, 7, 8, 10] [(0, some 3), (1, some 3), (2, some 4), (3, some 4), (4, none), (5, some 1), (6, none), (7, none), (8, none), (9, some 4), (10, none)] (by kernel_rfl) (by kernel_rfl) rfl 3 <| htyU (y_fld rfl fa31_1 (by decide)) <| hty (fun m => y_ld1 rfl ag24 (j_s (m.blk 0 rfl) hiL)) <| htyU (y_move rfl) <| htyU (yV (y_strTo rfl rfl Try.underlying9 (show ((32 : Nat) : Int) = 32 from rfl) (by rw [bytesOf_strOf]; omega)) ((rfl : Value.string _ = .string (strOf ((B.drop (40 + 32 * k)).take 32))))) <| ?_
              refine htx (xh_s2b rfl Try.underlying9 Try.underlying47 Try.underlying5 (by rw [l67]; decide) (fun v67 => ⟨(fun _ => wk [1, 1, 1, 1, 1] [0] rfl rfl), ?_⟩))
              refine htfact (fun m => (m.own 0 rfl).slice) ?_
              rintro ⟨A_b67, c_b67, rfl, hc_b67⟩
              refine htfact (fun m => (m.ord 0 rfl).2.1) fun hA_b67 => ?_
              refine htfact (fun m => (m.ord 0 rfl).some (by rw [l67]; decide)) fun h_ => ?_
              obtain ⟨a67, rfl⟩ : ∃ a_, A_b67 = some a_ := ⟨_, h_⟩
              clear h_
              have hcl : (b8s ((B.drop (40 + 32 * k)).take 32)).length = 32 := by rw [b8s_length]; exact hl32
              refine htyU (y_arrAt rfl Try.underlying23 (by omega)) <| hts (fun _ => wk [1, 1, 1, 1, 1] [0] rfl rfl) (fun m => yV (y_ldN rfl ag23 sz23 (by rw [b8s_length]; exact hl32) ((m.ord 0 rfl).2.2)) ((rfl : Value.agg _ = .agg (b8s ((B.drop (40 + 32 * k)).take 32)).toArray))) <| ?_
              refine htx (xh_bsl Try.underlying24 ti23 rfl rfl rfl (by simp only [List.mem_singleton, forall_eq]; exact hcl) (by decide) (by decide) (fun g70 => ⟨(fun _ => wk [2, 2, 2, 2, 2] [0] rfl rfl), ?_⟩))
              have hA_b70 : 0 < 1 → (some (⟨g70, 0, none⟩ : Addr)) ≠ none := fun _ h => by cases h
              refine htmem (fun w m => m.eqX 0 rfl (show _ = ROwn 23 32 (.slice (some ⟨g70, 0, none⟩) 1 1) 1 (dc [(B.drop (40 + 32 * k)).take 32]) from rfl)) ?_
              refine htx (xh_app 3 rfl rfl rfl Try.underlying24 Try.underlying24 (by exact .inl rfl) ti23 rfl (fun m => Src.of_rd (m.ord 0 rfl)) dc_oneCell (by unfold maxLen; omega) (by omega) (fun u => ⟨(fun h => absurd h (by decide)), ?_⟩))
              refine htfact (fun m => (m.own 0 rfl).slice) ?_
              rintro ⟨A_d, c_d, rfl, hc_d⟩
              refine htfact (fun m => (m.ord 0 rfl).2.1) fun hA_d => ?_
              have hch : dc (chunks k (B.drop 40)) ++ dc [(B.drop (40 + 32 * k)).take 32] = dc (chunks (k + 1) (B.drop 40)) := by rw [← dc_append, chunks_succ, List.drop_drop]
              refine htmem (fun w m => m.eqX 0 rfl (show _ = ROwn 23 32 (.slice A_d (k + 1) c_d) (k + 1) (dc (chunks (k + 1) (B.drop 40))) from congrArg (ROwn _ _ _ _) hch)) ?_
              refine htyU (y_fld rfl fa31_1 (by decide)) <| ?_
              refine htx0 (xh_st1a 3 rfl rfl rfl sz24 rfl (by rw [j_len hiL]; decide) ⟨(fun h => absurd h (by decide)), ?_⟩)
              refine htend <| hsub (ρ' := [(62, _), (6, _), (61, _), (60, _), (58, _), (41, _), (9, _), (10, _), (8, _), (32, _), (7, _), (17, _), (5, _), (4, _), (3, _), (2, _), (0, _)]) ⟨rfl, rfl, rfl, rfl, rfl, rfl, rfl, rfl, rfl, rfl, rfl, rfl, rfl, rfl, rfl, rfl, rfl, trivial⟩ <| hmemQ (X' := [_, _, _, _, _, _, _]) (S' := [_]) (fun _ m => m) <| hthen <| hreg <| hy (fun _ => y_move rfl) <| hy (fun _ => yV (y_strFrom rfl rfl Try.underlying9 (show ((32 : Nat) : Int) = 32 from rfl) (by rw [bytesOf_strOf]; omega)) ((show Value.string (strOf ((B.drop (40 + 32 * k)).drop 32)) = .string (strOf (B.drop (40 + 32 * (k + 1)))) by rw [List.drop_drop, show 40 + 32 * k + 32 = 40 + 32 * (k + 1) by omega]))) <| hy (fun _ => y_assign rfl) <| hend <| hsub (ρ' := [(6, _), (62, _), (61, _), (60, _), (58, _), (41, _), (9, _), (10, _), (8, _), (32, _), (7, _), (17, _), (5, _), (4, _), (3, _), (2, _), (0, _)]) ⟨rfl, rfl, rfl, rfl, rfl, rfl, rfl, rfl, rfl, rfl, rfl, rfl, rfl, rfl, rfl, rfl, rfl, trivial⟩ <| hqblock <| hthen <| hreg <| hy (fun _ => y_add rfl rfl (w64 (by omega) (by omega))) <| hy (fun _ => y_move rfl) <| hend <| hsub (ρ' := [(61, _), (6, _), (62, _), (60, _), (58, _), (41, _), (9, _), (10, _), (8, _), (32, _), (7, _), (17, _), (5, _), (4, _), (3, _), (2, _), (0, _)]) ⟨rfl, rfl, rfl, rfl, rfl, rfl, rfl, rfl, rfl, rfl, rfl, rfl, rfl, rfl, rfl, rfl, rfl, trivial⟩ <| ?_
              refine hmemQ (fun w m => m.eqX 0 rfl (show _ = RBlk g8 31 (b8s (imgOf B) ++ [Value.slice A_d (k + 1) c_d]) from congrArg (RBlk _ _) (j_set hiL))) ?_
              refine hnext3 (k + 1) A_d c_d ⟨rfl, rfl, rfl, rfl, rfl, rfl, rfl, rfl, rfl, rfl, rfl, rfl, rfl, rfl, rfl, rfl, trivial⟩ [0, 0, 2, 2, 2] rfl [0] rfl (by omega) (by omega)
            · obtain rfl : k = N := by omega
              have hcn : cntOf B = k := by rw [cntOf]; omega
              have hds : chunks k (B.drop 40) = dsOf B := by rw [dsOf, hcn]
              rw [hds]
              have hDD := ds_D32 h40
              have hDl := ds_length B
              refine hexit <| hthen_exit <| hthen_exit <| hqblock_exit <| hthen <| hseq <| hseq <| hreg <| hy (fun m => y_ldN rfl ag31 sz31 (j_len hiL) ((m.blk 0 rfl).cells0)) <| ?_
              refine hx (xh_calll rfl Try.call39 (jmayC (by omega) (by assumption) (by omega)) [] rfl (.x 1 rfl .own .nil) ?_)
              rintro _ _ _ ⟨rfl, rfl, rfl⟩
              refine ⟨rfl, ?_⟩
              refine hy (fun _ => y_notp rfl) <| hend <| hsub (ρ' := [(78, _), (62, _), (6, _), (61, _), (60, _), (58, _), (41, _), (9, _), (10, _), (8, _), (32, _), (7, _), (17, _), (5, _), (4, _), (3, _), (2, _), (0, _)]) ⟨rfl, rfl, rfl, rfl, rfl, rfl, rfl, rfl, rfl, rfl, rfl, rfl, rfl, rfl, rfl, rfl, rfl, rfl, trivial⟩ <| hmemQ (X' := [_, _, _, _, _]) (S' := [_]) (fun _ m => m) <| hthen <| ?_
              refine hif rfl (fun h78 => ?_) (fun h78 => ?_)
              · refine hseq <| hreg <| hy (fun _ => y_build0 ti31 rfl (by kernel_rfl)) <| ?_
                refine hx0 (xh_stA 4 rfl rfl rfl sz31 (j_len z32) (j_one (s := .slice none 0 0) rfl) rfl ?_)
                refine hy (fun _ => y_assign rfl) <| hend <| hsub (ρ' := [(3, _), (78, _), (62, _), (6, _), (61, _), (60, _), (58, _), (41, _), (9, _), (10, _), (8, _), (32, _), (7, _), (17, _), (5, _), (4, _), (2, _), (0, _)]) ⟨rfl, rfl, rfl, rfl, rfl, rfl, rfl, rfl, rfl, rfl, rfl, rfl, rfl, rfl, rfl, rfl, rfl, rfl, trivial⟩ <| hmemQ (X' := [_, _, _, _, _]) (S' := [_]) (fun _ m => m) <| hthen <| hret <| hthen_ret <| ?_
                refine hmemQ (fun w m => m.addX (r' := ROwn 23 32 (.slice none 0 0) 0 []) (.refl _ _) (Own.nil _ _ _ _) (fun k hk => hk.elim)) ?_
                exact hretN1 trivial rfl rfl rfl ag31 sz31 (j_len z32) (fun m => (m.blk 1 rfl).cells0) [0] rfl [] rfl ⟨_, _, [], _, rfl, rfl, rfl, ⟨z32, D32nil, hbad (fun hb => h78 (hok1.1 hb).2.2)⟩⟩
              · have hM := Decidable.not_not.1 h78
                have hOk : OkJ B := hok1.2 ⟨hp', by omega, hM⟩
                refine hcskip <| hthen <| hseq <| hreg <| hy (fun m => y_ldN rfl ag31 sz31 (j_len hiL) ((m.blk 0 rfl).cells0)) <| ?_
                refine hx0 (xh_stA 4 rfl rfl rfl sz31 (j_len hiL) (j_one rfl) rfl ?_)
                refine hy (fun _ => y_assign rfl) <| hend <| hsub (ρ' := [(3, _), (78, _), (62, _), (6, _), (61, _), (60, _), (58, _), (41, _), (9, _), (10, _), (8, _), (32, _), (7, _), (17, _), (5, _), (4, _), (2, _), (0, _)]) ⟨rfl, rfl, rfl, rfl, rfl, rfl, rfl, rfl, rfl, rfl, rfl, rfl, rfl, rfl, rfl, rfl, rfl, rfl, trivial⟩ <| hmemQ (X' := [_, _, _, _, _]) (S' := [_]) (fun _ m => m) <| hthen <| hret <| ?_
                rw [← hcn, ← hDl]
                exact hretN1 trivial rfl rfl rfl ag31 sz31 (j_len hiL) (fun m => (m.blk 0 rfl).cells0) [2] rfl [] rfl ⟨_, _, _, _, rfl, rfl, rfl, ⟨hiL, hDD, hok hOk⟩⟩
end Go.Proofs.Ytlbecpekemlllaa
end
section
/- Contracts over things in memory, from contracts over worlds: journals. -/
set_option linter.unusedVariables false
set_option linter.unusedSimpArgs false
set_option maxRecDepth 20000
namespace Go.Proofs.Ytlbecpekemlllaa
open Go.Eng Go.Hx
theorem rgoodC {img : List UInt8} {A : Option Addr} {n c : Nat} {ds : List (List UInt8)} (hi : img.length = 32) (hD : D32 ds) (hn : n ≤ 140737488351232) : Con Try.prog 5 [.agg (b8s img ++ [Value.slice A n c]).toArray] [] [RRd 32 A n (dc ds)] (fun v_ X_ S_ => ∃ v, v_ = (.agg (b8s img ++ [v]).toArray) ∧ X_ = [ROwn 23 32 v (goodL ds).length (dc (goodL ds))] ∧ S_ = []) := by
  exact con_own1 fun m => Calls.mono (rgood img A n c ds _ hi (m.rd 0 rfl) hD hn) (fun e w' ⟨v, h, ho, hf⟩ => ⟨_, v, _, _, _, _, h, ⟨v, rfl, rfl, rfl⟩, ho, hf⟩)
theorem rsameC {img img1 : List UInt8} {A A1 : Option Addr} {n c n1 c1 : Nat} {ds ds1 : List (List UInt8)} (hi : img.length = 32) (hi1 : img1.length = 32) (hD : D32 ds) (hD1 : D32 ds1) (hn : n ≤ 140737488351232) : Con Try.prog 11 [.agg (b8s img ++ [Value.slice A n c]).toArray, .agg (b8s img1 ++ [Value.slice A1 n1 c1]).toArray] [] [RRd 32 A n (dc ds), RRd 32 A1 n1 (dc ds1)] (fun v_ X_ S_ => v_ = (.bool (decide (ds = ds1 ∧ img = img1))) ∧ X_ = [] ∧ S_ = []) := by
  exact con_pure fun m => Calls.mono (rsame img A n c ds img1 A1 n1 c1 ds1 _ hi hi1 (m.rd 0 rfl) hD (m.rd 1 rfl) hD1 hn) (fun e w' ⟨h, hf⟩ => ⟨_, h, ⟨rfl, rfl, rfl⟩, hf⟩)
theorem asJC {img : List UInt8} {A : Option Addr} {n c : Nat} (hi : img.length = 32) : Con Try.prog 12 [.agg (b8s img ++ [Value.slice A n c]).toArray] [] [] (fun v_ X_ S_ => v_ = (.agg (b8s img ++ [Value.slice A n c]).toArray) ∧ X_ = [] ∧ S_ = []) := by
  exact con_pure fun m => Calls.mono (as_j img (.slice A n c) _ hi rfl rfl) (fun e w' ⟨h, hf⟩ => ⟨_, h, ⟨rfl, rfl, rfl⟩, hf⟩)
theorem ofJC {img : List UInt8} {A : Option Addr} {n c : Nat} (hi : img.length = 32) : Con Try.prog 8 [.agg (b8s img ++ [Value.slice A n c]).toArray] [] [] (fun v_ X_ S_ => v_ = (.agg (b8s img ++ [Value.slice A n c]).toArray) ∧ X_ = [] ∧ S_ = []) := by
  exact con_pure fun m => Calls.mono (of_j img (.slice A n c) _ hi rfl rfl) (fun e w' ⟨h, hf⟩ => ⟨_, h, ⟨rfl, rfl, rfl⟩, hf⟩)
theorem lives17C  : Con Try.prog 14 [] [] [] (fun v_ X_ S_ => v_ = (.bool true) ∧ X_ = [] ∧ S_ = []) := by
  exact con_pure fun m => Calls.mono (lives17 _) (fun e w' ⟨h, hf⟩ => ⟨_, h, ⟨rfl, rfl, rfl⟩, hf⟩)
end Go.Proofs.Ytlbecpekemlllaa
end
section
/- Contracts: journal.must, done, Save (layer 17). -/
set_option linter.unusedVariables false
set_option linter.unusedSimpArgs false
set_option maxRecDepth 20000
set_option maxHeartbeats 2000000
namespace Go.Proofs.Ytlbecpekemlllaa
open Go.Eng Go.Hx
theorem one1 {v : Value} (h : v.oneCell' = true := by rfl) : ∀ u ∈ [v], u.oneCell' = true := fun u hu => by rw [List.mem_singleton.1 hu]; exact h
/-- a file is written ahead, and takes its place -/
def RD.saveJ (d : RD) (a c bb : List UInt8) : RD × Int :=
  if d.writeE a bb ≠ 0 then (d, d.writeE a bb) else
  if (d.write a bb).syncE ≠ 0 then (d.write a bb, (d.write a bb).syncE) else
  if (d.write a bb).sync.renameE a c ≠ 0 then ((d.write a bb).sync, (d.write a bb).sync.renameE a c) else
  (((d.write a bb).sync.rename a c).sync, ((d.write a bb).sync.rename a c).syncE)
def jNow : List UInt8 := [106, 47, 110, 111, 119]
def jNew : List UInt8 := [106, 47, 110, 101, 119]
/-- the value of a failure -/
abbrev failV (e : Int) : Value := .iface 82 (.agg #[.iface 32 (.int .i64 e)])
theorem jmustE {e : Int} : ConE Try.prog 22 [.int .i64 e] [] [] (fun v_ X_ S_ => v_ = (.tuple #[]) ∧ X_ = [] ∧ S_ = [] ∧ (e = 0)) (fun v_ X_ S_ => v_ = (failV e) ∧ X_ = [] ∧ S_ = [] ∧ (e ≠ 0)) := by
  refine henterE (N := 8) Try.func22 rfl rfl (by simp) fun b => ?_
  refine hseq <| hreg <| hy (fun _ => y_move rfl) <| hy (fun _ => y_neq rfl rfl) <| hend <| hsub (ρ' := [(3, _), (0, _)]) ⟨rfl, rfl, trivial⟩ <| hthen <| ?_
  refine hif rfl (fun hq => ?_) (fun hq => ?_)
  · refine hreg <| hy (fun _ => y_move rfl) <| hy (fun _ => y_mki rfl Try.underlying32 (fun _ h => by cases h)) <| hy (fun _ => y_build ti82 rfl rfl (by kernel_rfl) (.cons (o := 0) (sz := 1) (by kernel_rfl) rfl rfl (Nat.le_of_ble_eq_true rfl) .nil)) <| hy (fun _ => y_mki rfl Try.underlying82 (fun _ h => by cases h)) <| ?_
    refine hx0 (xh_panic rfl ?_)
    exact hpanE [] rfl [] rfl ⟨rfl, rfl, rfl, hq⟩
  · refine hcskip <| ?_
    refine hretE ?_
    exact hret0 trivial rfl [] rfl [] rfl ⟨rfl, rfl, rfl, (Decidable.not_not.1 hq)⟩
theorem doneCatch {g2 : Nat} {e0 e : Int} : ConD Try.prog 41 [.pointer (some ⟨g2, 0, none⟩)] (.panicking (pan (failV e))) [RBlk g2 32 [.int .i64 e0]] [] (fun u_ X_ S_ => u_ = .returning ∧ X_ = [RBlk g2 32 [.int .i64 e]] ∧ S_ = []) := by
  refine henterS (N := 15) Try.func41 rfl rfl (by simp) fun b c_0 cs_ hu_ => ?_
  show HSL _ _ _ _ _ [0, 1, 2, 3, 4, 5, 6, 7] _ _ _ _ _
  refine hsl_rec rfl hu_ ?_
  refine hsl_y rfl (fun _ => y_tas rfl (run_tasS Try.underlying82)) <| hsl_y rfl (fun _ => y_move rfl) <| hsl_y rfl (fun _ => y_extract rfl rfl) <| hsl_y rfl (fun _ => y_extract rfl rfl) <| ?_
  refine hsl_x rfl (xh_alloc ti82 (fun g1 => ?_))
  refine hsl_x0 rfl (xh_stA 0 rfl rfl rfl sz82 rfl one1 rfl ?_)
  refine hslmem (fun w m => m.eqX 0 rfl (show _ = RBlk g1 82 [.iface 32 (.int .i64 e)] from rfl)) ?_
  refine hsl_y rfl (fun _ => y_assign rfl) <| hsl_done <| hmemC (X' := [_, _]) (S' := []) (fun _ m => m) <| hseq <| hreg <| hy (fun _ => y_move rfl) <| hend <| hsub (ρ' := [(8, _), (2, _), (1, _), (0, _)]) ⟨rfl, rfl, rfl, rfl, trivial⟩ <| hthen <| ?_
  refine hift rfl (rfl) ?_
  refine hreg <| hy (fun _ => y_fld rfl fa82_0 (by decide)) <| hy (fun m => y_ld1 rfl ag80 (ld_blk (m.blk 0 rfl) (i := 0) rfl)) <| hy (fun _ => y_tas rfl (run_tasI Try.underlying32)) <| hy (fun _ => y_move rfl) <| hy (fun _ => y_extract rfl rfl) <| hy (fun _ => y_extract rfl rfl) <| ?_
  refine hx0 (xh_st1 1 rfl rfl rfl sz32 rfl (by first | exact Nat.le_of_ble_eq_true rfl | simp) ?_)
  refine hend <| hsub (ρ' := [(8, _), (2, _), (1, _), (0, _)]) ⟨rfl, rfl, rfl, rfl, trivial⟩ <| hmemQ (X' := [_, _]) (S' := []) (fun _ m => m) <| ?_
  exact hret0 trivial rfl [0] rfl [] rfl ⟨rfl, rfl, rfl, rfl⟩
theorem doneIdle {g2 : Nat} {e : Int} : ConD Try.prog 41 [.pointer (some ⟨g2, 0, none⟩)] .returning [RBlk g2 32 [.int .i64 e]] [] (fun u_ X_ S_ => u_ = .returning ∧ X_ = [RBlk g2 32 [.int .i64 e]] ∧ S_ = []) := by
  refine henterS (N := 15) Try.func41 rfl rfl (by simp) fun b c_0 cs_ hu_ => ?_
  show HSL _ _ _ _ _ [0, 1, 2, 3, 4, 5, 6, 7] _ _ _ _ _
  refine hsl_rec0 rfl hu_ ?_
  refine hsl_y rfl (fun _ => y_tas rfl (run_tas0 Try.underlying82 ti82)) <| hsl_y rfl (fun _ => y_move rfl) <| hsl_y rfl (fun _ => y_extract rfl rfl) <| hsl_y rfl (fun _ => y_extract rfl rfl) <| ?_
  refine hsl_x rfl (xh_alloc ti82 (fun g1 => ?_))
  refine hsl_x0 rfl (xh_stA 0 rfl rfl rfl sz82 rfl one1 rfl ?_)
  refine hsl_y rfl (fun _ => y_assign rfl) <| hsl_done <| hmemC (X' := [_, _]) (S' := []) (fun _ m => m) <| hseq <| hreg <| hy (fun _ => y_move rfl) <| hend <| hsub (ρ' := [(8, _), (2, _), (1, _), (0, _)]) ⟨rfl, rfl, rfl, rfl, trivial⟩ <| hthen <| ?_
  refine hiff rfl (rfl) ?_
  refine hcskip <| ?_
  exact hret0 trivial rfl [1] rfl [] rfl ⟨rfl, rfl, rfl, rfl⟩
end Go.Proofs.Ytlbecpekemlllaa
end
section
/- Contracts: journal.Save (layer 17). -/
set_option linter.unusedVariables false
set_option linter.unusedSimpArgs false
set_option maxRecDepth 20000
set_option maxHeartbeats 2000000
namespace Go.Proofs.Ytlbecpekemlllaa
open Go.Eng Go.Hx
theorem nosync {d : RD} (he : d.syncE ≠ 0) : d.sync = d := by
  have h10 : d.pw = 0 := by
    unfold RD.syncE at he
    split at he
    · assumption
    · exact absurd rfl he
  rw [RD.sync, if_pos h10]
theorem nowrite {d : RD} {p l : List UInt8} (he : d.writeE p l ≠ 0) : d.write p l = d := by rw [RD.write, if_neg he]
theorem norename {d : RD} {p l : List UInt8} (he : d.renameE p l ≠ 0) : d.rename p l = d := by rw [RD.rename, if_neg he]
theorem saveStepsE {g2 g5 g : Nat} {st : DSt} {d : RD} {kk : Nat} {A : Option Addr} {n c : Nat} {bb : List UInt8} (hD : DS st d kk) (hkk : kk ≤ 90000) (hl : bb.length = n) (hn : n ≤ 1048576) : ConE Try.prog 21 [.pointer (some ⟨g2, 0, none⟩), .pointer (some ⟨g5, 0, none⟩)] [RDisk g st] [RBlk g2 28 [.pointer (some ⟨g, 0, none⟩)], RBlk g5 47 [.slice A n c], RRd 1 A n (b8s bb)] (fun v_ X_ S_ => ∃ st1, v_ = (.tuple #[]) ∧ X_ = [RDisk g st1] ∧ S_ = [] ∧ ((d.saveJ jNew jNow bb).2 = 0 ∧ DS st1 (d.saveJ jNew jNow bb).1 (kk + 2))) (fun v_ X_ S_ => ∃ st1, v_ = (failV (d.saveJ jNew jNow bb).2) ∧ X_ = [RDisk g st1] ∧ S_ = [] ∧ ((d.saveJ jNew jNow bb).2 ≠ 0 ∧ DS st1 (d.saveJ jNew jNow bb).1 (kk + 2))) := by
  refine henterE (N := 15) Try.func21 rfl rfl (by simp) fun b => ?_
  refine hfactC (fun m => rdB (m.rd 2 rfl)) ?_
  rintro ⟨hl_r, hA_r⟩
  refine hseq <| hreg <| hy (fun m => y_ld1 rfl ag28 (ld_blk (m.blkS 0 rfl) (i := 0) rfl)) <| hy (fun m => y_ld1 rfl ag47 (ld_blk (m.blkS 1 rfl) (i := 0) rfl)) <| ?_
  refine hx (xh_call rfl Try.call23 (dwriteC hD (by omega) hl hn (l := bb) (p := jNew)) [0] rfl [2] rfl ?_)
  rintro _ _ _ ⟨st1, rfl, rfl, rfl, hE1⟩
  refine hx (xh_callE rfl Try.call22 (jmustE) [] rfl [] rfl ?_ ?_)
  · rintro _ _ _ ⟨rfl, rfl, rfl, q1⟩
    refine hthen_panic <| ?_
    have hs : d.saveJ jNew jNow bb = (d, d.writeE jNew bb) := by rw [RD.saveJ, if_pos q1]
    rw [hs]
    have hE : DS st1 d (kk + 2) := by
      rw [nowrite q1] at hE1
      exact hE1.le (by omega)
    exact hpanE [0] rfl [] rfl ⟨st1, rfl, rfl, rfl, ⟨q1, hE⟩⟩
  · rintro _ _ _ ⟨rfl, rfl, rfl, q1⟩
    have n1 : ¬ d.writeE jNew bb ≠ 0 := fun h => h q1
    refine hend <| hsub (ρ' := [(0, _), (1, _)]) ⟨rfl, rfl, trivial⟩ <| hmemQ (X' := [_]) (S' := [_, _, _]) (fun _ m => m) <| hthen <| hseq <| hreg <| hy (fun m => y_ld1 rfl ag28 (ld_blk (m.blkS 0 rfl) (i := 0) rfl)) <| ?_
    refine hx (xh_call rfl Try.call24 (dsyncC hE1) [0] rfl [] rfl ?_)
    rintro _ _ _ ⟨st12, rfl, rfl, rfl, hE2⟩
    refine hx (xh_callE rfl Try.call22 (jmustE) [] rfl [] rfl ?_ ?_)
    · rintro _ _ _ ⟨rfl, rfl, rfl, q2⟩
      refine hthen_panic <| ?_
      have hs : d.saveJ jNew jNow bb = (d.write jNew bb, (d.write jNew bb).syncE) := by rw [RD.saveJ, if_neg n1, if_pos q2]
      rw [hs]
      have hE : DS st12 (d.write jNew bb) (kk + 2) := by
        rw [nosync q2] at hE2
        exact hE2.le (by omega)
      exact hpanE [0] rfl [] rfl ⟨st12, rfl, rfl, rfl, ⟨q2, hE⟩⟩
    · rintro _ _ _ ⟨rfl, rfl, rfl, q2⟩
      have n2 : ¬ (d.write jNew bb).syncE ≠ 0 := fun h => h q2
      refine hend <| hsub (ρ' := [(0, _), (1, _)]) ⟨rfl, rfl, trivial⟩ <| hmemQ (X' := [_]) (S' := [_, _, _]) (fun _ m => m) <| hthen <| hseq <| hreg <| hy (fun m => y_ld1 rfl ag28 (ld_blk (m.blkS 0 rfl) (i := 0) rfl)) <| ?_
      refine hx (xh_call rfl Try.call25 (drenameC hE2 (by omega) (a := jNew) (c := jNow)) [0] rfl [] rfl ?_)
      rintro _ _ _ ⟨st13, rfl, rfl, rfl, hE3⟩
      refine hx (xh_callE rfl Try.call22 (jmustE) [] rfl [] rfl ?_ ?_)
      · rintro _ _ _ ⟨rfl, rfl, rfl, q3⟩
        refine hthen_panic <| ?_
        have hs : d.saveJ jNew jNow bb = ((d.write jNew bb).sync, (d.write jNew bb).sync.renameE jNew jNow) := by rw [RD.saveJ, if_neg n1, if_neg n2, if_pos q3]
        rw [hs]
        have hE : DS st13 (d.write jNew bb).sync (kk + 2) := by
          rw [norename q3] at hE3
          exact hE3
        exact hpanE [0] rfl [] rfl ⟨st13, rfl, rfl, rfl, ⟨q3, hE⟩⟩
      · rintro _ _ _ ⟨rfl, rfl, rfl, q3⟩
        have n3 : ¬ (d.write jNew bb).sync.renameE jNew jNow ≠ 0 := fun h => h q3
        have hs : d.saveJ jNew jNow bb = (((d.write jNew bb).sync.rename jNew jNow).sync, ((d.write jNew bb).sync.rename jNew jNow).syncE) := by rw [RD.saveJ, if_neg n1, if_neg n2, if_neg n3]
        rw [hs]
        refine hend <| hsub (ρ' := [(0, _), (1, _)]) ⟨rfl, rfl, trivial⟩ <| hmemQ (X' := [_]) (S' := [_, _, _]) (fun _ m => m) <| hthen <| hreg <| hy (fun m => y_ld1 rfl ag28 (ld_blk (m.blkS 0 rfl) (i := 0) rfl)) <| ?_
        refine hx (xh_call rfl Try.call24 (dsyncC hE3) [0] rfl [] rfl ?_)
        rintro _ _ _ ⟨st14, rfl, rfl, rfl, hE4⟩
        refine hx (xh_callE rfl Try.call22 (jmustE) [] rfl [] rfl ?_ ?_)
        · rintro _ _ _ ⟨rfl, rfl, rfl, q4⟩
          exact hpanE [0] rfl [] rfl ⟨st14, rfl, rfl, rfl, ⟨q4, hE4⟩⟩
        · rintro _ _ _ ⟨rfl, rfl, rfl, q4⟩
          refine hend <| hsub (ρ' := [(0, _), (1, _)]) ⟨rfl, rfl, trivial⟩ <| hmemQ (X' := [_]) (S' := [_, _, _]) (fun _ m => m) <| ?_
          refine hretE ?_
          exact hret0 trivial rfl [0] rfl [] rfl ⟨st14, rfl, rfl, rfl, ⟨q4, hE4⟩⟩
theorem doneSaveC {g2 g5 g : Nat} {st : DSt} {d : RD} {kk : Nat} {A : Option Addr} {n c : Nat} {bb : List UInt8} (hD : DS st d kk) (hkk : kk ≤ 90000) (hl : bb.length = n) (hn : n ≤ 1048576) : Con Try.prog 20 [.func (.func 21) #[] #[.pointer (some ⟨g2, 0, none⟩), .pointer (some ⟨g5, 0, none⟩)]] [RDisk g st] [RBlk g2 28 [.pointer (some ⟨g, 0, none⟩)], RBlk g5 47 [.slice A n c], RRd 1 A n (b8s bb)] (fun v_ X_ S_ => ∃ st1, v_ = (.int .i64 (d.saveJ jNew jNow bb).2) ∧ X_ = [RDisk g st1] ∧ S_ = [] ∧ (DS st1 (d.saveJ jNew jNow bb).1 (kk + 2))) := by
  refine henterD (N := 6) Try.func20 rfl rfl (by simp) fun b => ?_
  refine hfactC (fun m => rdB (m.rd 2 rfl)) ?_
  rintro ⟨hl_r, hA_r⟩
  refine hseq <| hreg <| ?_
  refine hx (xh_alloc ti32 (fun g22 => ?_))
  refine hend <| hmemQ (X' := [_, _]) (S' := [_, _, _]) (fun _ m => m) <| hthen <| hseq <| hreg <| hy (fun _ => y_mkf rfl rfl) <| hdeferv rfl rfl <| hend <| hsub (ρ' := [(2, _), (0, _)]) ⟨rfl, rfl, trivial⟩ <| hthen <| hseq <| hreg <| hy (fun _ => y_move rfl) <| ?_
  refine hx (xh_callvE rfl rfl Try.call21 (saveStepsE hD hkk hl hn) [1] rfl [0, 1, 2] rfl ?_ ?_)
  · rintro _ _ _ ⟨st12, rfl, rfl, rfl, q1⟩
    refine hthen_panic <| hleaveP <| ?_
    refine hdone (by simp) Try.call41 (doneCatch) [1] rfl [] rfl ?_
    rintro _ _ _ ⟨rfl, rfl, rfl⟩
    exact hlastC rfl rfl ag32 (fun m => ld_blk (m.blk 0 rfl) (i := 0) rfl) [1] rfl [] rfl ⟨st12, rfl, rfl, rfl, q1.2⟩
  · rintro _ _ _ ⟨st12, rfl, rfl, rfl, q1⟩
    rw [q1.1]
    refine hend <| hsub (ρ' := [(2, _), (0, _)]) ⟨rfl, rfl, trivial⟩ <| hmemQ (X' := [_, _]) (S' := [_, _, _]) (fun _ m => m) <| hthen <| hseq <| hreg <| ?_
    refine hx0 (xh_st1 1 rfl rfl rfl sz32 rfl (by first | exact Nat.le_of_ble_eq_true rfl | simp) ?_)
    refine hend <| hmemQ (X' := [_, _]) (S' := [_, _, _]) (fun _ m => m) <| hthen <| hret <| ?_
    refine hleaveN trivial ?_
    refine hdone (by simp) Try.call41 (doneIdle) [0] rfl [] rfl ?_
    rintro _ _ _ ⟨rfl, rfl, rfl⟩
    exact hlastC rfl rfl ag32 (fun m => ld_blk (m.blk 0 rfl) (i := 0) rfl) [1] rfl [] rfl ⟨st12, rfl, rfl, rfl, q1.2⟩
theorem jwriteC {img : List UInt8} {A : Option Addr} {n c : Nat} {ds : List (List UInt8)} (hi : img.length = 32) (hD : D32 ds) (hn : n ≤ 140737488351232) (hJ : JMay ds) : Con Try.prog 19 [.agg (b8s img ++ [Value.slice A n c]).toArray] [] [RRd 32 A n (dc ds)] (fun v_ X_ S_ => ∃ v, v_ = (.tuple #[v, .int .i64 0]) ∧ X_ = [ROwn 5 1 v ((jbody img ds).length + 4) (b8s (putL (jbody img ds)))] ∧ S_ = []) := by
  exact con_own1 fun m => Calls.mono (write img A n c ds _ hi (m.rd 0 rfl) hD hn) (fun e w' ⟨⟨v, h, ho, _⟩, hf⟩ => ⟨_, v, _, _, _, _, (by rw [if_pos hJ] at h; exact h), ⟨v, rfl, rfl, rfl⟩, ho hJ, hf⟩)
theorem jlen {img : List UInt8} {v : Value} (hi : img.length = 32) : (b8s img ++ [v]).length = 33 := by simp [b8s_length, hi]
theorem jone {img : List UInt8} {v : Value} (hv : v.oneCell' = true := by rfl) : ∀ u ∈ b8s img ++ [v], u.oneCell' = true := fun u hu => by
  rcases List.mem_append.1 hu with h | h
  · exact b8s_oneCell u h
  · rw [List.mem_singleton.1 h]; exact hv
theorem jsaveC {g : Nat} {st : DSt} {d : RD} {kk : Nat} {img : List UInt8} {A : Option Addr} {n c : Nat} {ds : List (List UInt8)} (hD : DS st d kk) (hkk : kk ≤ 90000) (hi : img.length = 32) (hds : D32 ds) (hn : n ≤ 4096) (hJ : JMay ds) : Con Try.prog 7 [.pointer (some ⟨g, 0, none⟩), .agg (b8s img ++ [Value.slice A n c]).toArray] [RDisk g st] [RRd 32 A n (dc ds)] (fun v_ X_ S_ => ∃ st1, v_ = (.int .i64 (d.saveJ jNew jNow (putL (jbody img ds))).2) ∧ X_ = [RDisk g st1] ∧ S_ = [] ∧ (DS st1 (d.saveJ jNew jNow (putL (jbody img ds))).1 (kk + 2))) := by
  have hjl := jbody_length hi hds
  have hj2 := hJ.2
  have hpl : (putL (jbody img ds)).length = (jbody img ds).length + 4 := putL_length _
  refine henter (N := 17) Try.func7 rfl rfl (by simp) fun b => ?_
  refine hfactC (fun m => rdX (m.rd 0 rfl)) ?_
  rintro ⟨hl_r, hA_r⟩
  refine hseq <| hreg <| ?_
  refine hx (xh_box rfl (fun g2 => ?_))
  refine hmemL (fun w m => m.eqX 0 rfl (show _ = RBlk g2 28 [.pointer (some ⟨g, 0, none⟩)] from rfl)) ?_
  refine hx (xh_box rfl (fun g3 => ?_))
  refine hmemL (fun w m => m.eqX 0 rfl (show _ = RBlk g3 31 (b8s img ++ [Value.slice A n c]) from congrArg (RBlk _ _) (cells_agg _))) ?_
  refine hy (fun _ => y_assign rfl) <| hend <| hmemQ (X' := [_, _, _]) (S' := [_]) (fun _ m => m) <| hthen <| hseq <| hreg <| hy (fun m => yV (y_ldN rfl ag31 sz31 (jlen hi) ((m.blk 0 rfl).cells0)) ((rfl : _ = Value.agg (b8s img ++ [Value.slice A n c]).toArray))) <| ?_
  refine hx (xh_call rfl Try.call19 (jwriteC hi hds (by omega) hJ) [] rfl [0] rfl ?_)
  rintro _ _ _ ⟨v, rfl, rfl, rfl⟩
  refine hfactL (fun m => (m.own 0 rfl).slice) ?_
  rintro ⟨A_x, c_x, rfl, hc_x⟩
  refine hfactL (fun m => (m.ord 0 rfl).2.1) fun hA_x => ?_
  refine hy (fun _ => y_move rfl) <| hy (fun _ => y_extract rfl rfl) <| hy (fun _ => y_extract rfl rfl) <| ?_
  refine hx (xh_alloc ti47 (fun g5 => ?_))
  refine hx0 (xh_st1 0 rfl rfl rfl sz47 rfl (by first | exact Nat.le_of_ble_eq_true rfl | simp) ?_)
  refine hy (fun _ => y_assign rfl) <| hend <| hsub (ρ' := [(6, _), (5, _), (4, _), (3, _), (2, _), (0, _), (1, _)]) ⟨rfl, rfl, rfl, rfl, rfl, rfl, rfl, trivial⟩ <| hmemQ (X' := [_, _, _, _, _]) (S' := [_]) (fun _ m => m) <| hthen <| hseq <| hseq <| hreg <| hy (fun _ => y_move rfl) <| hy (fun _ => y_neq rfl rfl) <| hend <| hsub (ρ' := [(13, _), (6, _), (5, _), (4, _), (3, _), (2, _), (0, _), (1, _)]) ⟨rfl, rfl, rfl, rfl, rfl, rfl, rfl, rfl, trivial⟩ <| hthen <| ?_
  refine hiff rfl (rfl) ?_
  refine hmemC (fun w m => m.eqX 0 rfl (show _ = RBlk g5 47 [.slice A_x ((jbody img ds).length + 4) c_x] from rfl)) ?_
  refine hcskip <| hthen <| hseq <| hreg <| hy (fun _ => y_mkf rfl rfl) <| ?_
  refine hx (xh_calll rfl Try.call20 (doneSaveC hD hkk hpl (by omega)) [4] rfl (.x 3 rfl .same (.x 0 rfl .same (.x 1 rfl .own .nil))) ?_)
  rintro _ _ _ ⟨st1, rfl, rfl, rfl, hE⟩
  refine ⟨rfl, ?_⟩
  refine hy (fun _ => y_assign rfl) <| hend <| hsub (ρ' := [(4, _), (13, _), (6, _), (5, _), (3, _), (2, _), (0, _), (1, _)]) ⟨rfl, rfl, rfl, rfl, rfl, rfl, rfl, rfl, trivial⟩ <| hmemQ (X' := [_, _, _, _, _]) (S' := [_]) (fun _ m => m) <| hthen <| hret <| ?_
  exact hret1 trivial rfl rfl [0] rfl [] rfl ⟨st1, rfl, rfl, rfl, hE⟩
end Go.Proofs.Ytlbecpekemlllaa
end
section
/- Superblocks, over plain lists. No program. -/
set_option linter.unusedVariables false
set_option linter.unusedSimpArgs false
namespace Go.Hx
open Go.Eng
/-- a slot -/
structure Sl where
  full : Bool
  image : List UInt8
  size : Int
deriving DecidableEq
def Sl.zero : Sl := ⟨false, List.replicate 32 0, 0⟩
def Sl.cs (x : Sl) : List Value := Value.bool x.full :: (b8s x.image ++ [.int .i64 x.size])
structure Sl.wf (x : Sl) : Prop where
  len : x.image.length = 32
  lo : -9223372036854775808 ≤ x.size
  hi : x.size ≤ 9223372036854775807
/-- may a slot be? -/
def Sl.may (x : Sl) : Prop := 0 ≤ x.size ∧ x.size ≤ 65536 ∧ (x.full = false → x = Sl.zero)
instance (x : Sl) : Decidable x.may := by unfold Sl.may; infer_instance
/-- a superblock -/
structure Sup where
  active : Int
  gen : Int
  s0 : Sl
  s1 : Sl
deriving DecidableEq
def Sup.zero : Sup := ⟨0, 0, Sl.zero, Sl.zero⟩
def Sup.cs (s : Sup) : List Value := .int .i64 s.active :: .int .i64 s.gen :: (s.s0.cs ++ s.s1.cs)
structure Sup.wf (s : Sup) : Prop where
  a0 : -9223372036854775808 ≤ s.active
  a1 : s.active ≤ 9223372036854775807
  g0 : -9223372036854775808 ≤ s.gen
  g1 : s.gen ≤ 9223372036854775807
  w0 : s.s0.wf
  w1 : s.s1.wf
def Sup.may (s : Sup) : Prop := (s.active = 0 ∨ s.active = 1) ∧ 0 ≤ s.gen ∧ s.gen ≤ 2147483647 ∧ s.s0.may ∧ s.s1.may
instance (s : Sup) : Decidable s.may := by unfold Sup.may; infer_instance
def Sl.by_ (x : Sl) : List UInt8 := (if x.full then 1 else 0) :: (x.image ++ le4 x.size.toNat)
def Sup.body (s : Sup) : List UInt8 := [76, 84, 83, 49] ++ [UInt8.ofNat s.active.toNat] ++ le4 s.gen.toNat ++ s.s0.by_ ++ s.s1.by_
def Sup.bytes (s : Sup) : List UInt8 := putL s.body
/-- the slot that is number i -/
def Sup.at (s : Sup) (i : Nat) : Sl := if i = 0 then s.s0 else s.s1
def Sup.put (s : Sup) (i : Nat) (x : Sl) : Sup := if i = 0 then { s with s0 := x } else { s with s1 := x }
end Go.Hx
end
section
/- The engine: words of 32 bits as values; slices of one's own cut at the front. No statement is proved here. -/
set_option linter.unusedVariables false
set_option linter.unusedSimpArgs false
set_option linter.unusedSectionVars false
namespace Go.Eng
open Go.RowKit
section
variable {P : Program} {N : Nat} {D : List Deferred} {ρ : Env} {w : World} {x y : Operand} {ty t t' e : TypeId} {a b : UInt32}
end
theorem Own.drop {w : World} {b : Nat} {e : TypeId} {sz n c k : Nat} {A : Option Addr} {xs : List Value} (h : Own w b e sz (.slice A n c) n xs) (hk : k ≤ n) (hz : k ≤ c) : Own w b e sz (.slice (if c = k then A else A.map (·.add (k * sz))) (n - k) (c - k)) (n - k) (xs.drop (k * sz)) := by
  obtain ⟨hl, hx⟩ := h
  refine ⟨by rw [List.length_drop, hl, Nat.sub_mul], ?_⟩
  rcases hx with ⟨hv, hn⟩ | ⟨g, o, cap, cur, hv, hb, hB, hnc, hcm, hfit, hcs⟩
  · cases hv
    obtain rfl : k = 0 := by omega
    exact .inl ⟨rfl, rfl⟩
  · cases hv
    by_cases hck : c = k
    · subst hck
      obtain rfl : n = c := by omega
      rw [if_pos rfl]
      refine .inr ⟨g, o, n - n, cur, rfl, hb, hB, by omega, by omega, by rw [Nat.sub_self, Nat.zero_mul]; omega, ?_⟩
      rw [Nat.sub_self, Nat.zero_mul, List.take_zero, List.drop_of_length_le (by omega)]
    · rw [if_neg hck]
      refine .inr ⟨g, o + k * sz, c - k, cur, ?_, hb, hB, by omega, by omega, ?_, ?_⟩
      · simp [Addr.add]
      · have : (c - k) * sz + k * sz = c * sz := by rw [← Nat.add_mul]; congr 1; omega
        omega
      · rw [← hcs, List.drop_take, List.drop_drop, Nat.sub_mul]
end Go.Eng
end
section
/- The digest of bytes, over plain lists. No program. -/
set_option linter.unusedVariables false
set_option linter.unusedSimpArgs false
namespace Go.Hx
open Go.Eng
def rotr (n : Nat) (x : UInt32) : UInt32 := .ofNat (x.toNat / 2 ^ n + x.toNat % 2 ^ n * 2 ^ (32 - n))
def at8 (b : List UInt8) (i : Nat) : Nat := (b.getD i 0).toNat
def word4 (b : List UInt8) (i : Nat) : UInt32 := .ofNat (at8 b i * 16777216 + at8 b (i + 1) * 65536 + at8 b (i + 2) * 256 + at8 b (i + 3))
/-- so many bytes as a number -/
def wp (b : List UInt8) (i : Nat) : Nat → Nat
  | 0 => 0
  | j + 1 => wp b i j * 256 + at8 b (i + j)
def wmix (x : UInt32) : UInt32 := rotr 7 x ^^^ rotr 18 x ^^^ (x / 8)
def wmix2 (x : UInt32) : UInt32 := rotr 17 x ^^^ rotr 19 x ^^^ (x / 1024)
def wnext (w : List UInt32) (i : Nat) : UInt32 := w.getD (i - 16) 0 + wmix (w.getD (i - 15) 0) + w.getD (i - 7) 0 + wmix2 (w.getD (i - 2) 0)
/-- the first words -/
def wl (b : List UInt8) : Nat → List UInt32
  | 0 => []
  | i + 1 => wl b i ++ [if i < 16 then word4 b (4 * i) else wnext (wl b i) i]
def v_ (v : List UInt32) (i : Nat) : UInt32 := v.getD i 0
end Go.Hx
end
section
/- What is done with superblocks, over plain disks. No program walked. -/
set_option linter.unusedVariables false
set_option linter.unusedSimpArgs false
namespace Go.Proofs.Ytlbecpekemlllaa
open Go.Eng Go.Hx
/-- a slot of bytes -/
def rdSl (l : List UInt8) : Sl := ⟨decide (l.getD 0 0 = 1), (l.drop 1).take 32, (num4 (l.drop 33) : Nat)⟩
def rdBody (l : List UInt8) : Sup := ⟨(l.getD 4 0).toNat, (num4 (l.drop 5) : Nat), rdSl (l.drop 9), rdSl (l.drop 46)⟩
/-- the superblock of bytes, or why there is none -/
def rdOk (l : List UInt8) : Prop := l.length = 83 ∧ l.take 4 = [76, 84, 83, 49] ∧ (l.getD 9 0).toNat ≤ 1 ∧ (l.getD 46 0).toNat ≤ 1 ∧ (rdBody l).may
instance (l : List UInt8) : Decidable (rdOk l) := by unfold rdOk; infer_instance
/-- the other slot -/
def _root_.Go.Hx.Sup.other (s : Sup) : Nat := (1 - s.active).toNat
end Go.Proofs.Ytlbecpekemlllaa
end
section
/- Plain disks that hold superblocks and their images: what each function of layer 22 leaves. No program. -/
set_option linter.unusedVariables false
set_option linter.unusedSimpArgs false
namespace Go.Proofs.Ytlbecpekemlllaa
open Go.Eng Go.Hx
theorem totF_filter (q : FP → Bool) (l : List FP) : totF (l.filter q) ≤ totF l := by
  induction l with
  | nil => exact Nat.le_refl _
  | cons x r ih =>
    rw [List.filter_cons]
    have e : totF (x :: r) = x.2.length + totF r := by simp [totF]
    split
    · have e2 : totF (x :: r.filter q) = x.2.length + totF (r.filter q) := by simp [totF]
      omega
    · omega
theorem totF_filter_mem {q : FP → Bool} {l : List FP} {x : FP} (hx : x ∈ l) (hq : q x = false) : totF (l.filter q) + x.2.length ≤ totF l := by
  induction l with
  | nil => cases hx
  | cons y r ih =>
    rw [List.filter_cons]
    have e : totF (y :: r) = y.2.length + totF r := by simp [totF]
    rcases List.mem_cons.1 hx with rfl | hm
    · rw [hq]
      have := totF_filter q r
      simp only [Bool.false_eq_true, if_false]
      omega
    · have h1 := ih hm
      split
      · have e2 : totF (y :: r.filter q) = y.2.length + totF (r.filter q) := by simp [totF]
        omega
      · omega
theorem totF_ins (l : List FP) (f : FP) : totF (insF l f) ≤ totF l + f.2.length := by
  induction l with
  | nil => simp [insF, totF]
  | cons x r ih =>
    have e : totF (x :: r) = x.2.length + totF r := by simp [totF]
    rw [insF]
    split
    · have e2 : totF (x :: insF r f) = x.2.length + totF (insF r f) := by simp [totF]
      omega
    · have e2 : totF (f :: (x :: r).filter fun y => decide (y.1 ≠ f.1)) = f.2.length + totF ((x :: r).filter fun y => decide (y.1 ≠ f.1)) := by simp [totF]
      have := totF_filter (fun y => decide (y.1 ≠ f.1)) (x :: r)
      omega
/-- a disk that is up for good: what lies on it, how much, and its room -/
structure At (d : RD) (F : List UInt8 → Option (List UInt8)) (T : Nat) (room : Int) : Prop where
  pw : d.pw = -1
  room : d.room = room
  look : ∀ p, lk d.seen p = F p
  tot : totF d.seen ≤ T
def fup (F : List UInt8 → Option (List UInt8)) (p : List UInt8) (v : Option (List UInt8)) : List UInt8 → Option (List UInt8) := fun q => if q = p then v else F q
theorem At.readE {d : RD} {F : List UInt8 → Option (List UInt8)} {T : Nat} {room : Int} (h : At d F T room) (p : List UInt8) : d.readE p = if F p = none then 4 else 0 := by
  have h1 := h.look p
  rw [← lk_find] at h1
  rw [RD.readE, if_neg (by rw [h.pw]; decide)]
  cases hq : d.seen[findN d.seen p]? with
  | none => rw [hq] at h1; rw [if_pos rfl, if_pos (by rw [← h1]; rfl)]
  | some x => rw [hq] at h1; rw [if_neg (by simp), if_neg (by rw [← h1]; simp)]
theorem At.readB {d : RD} {F : List UInt8 → Option (List UInt8)} {T : Nat} {room : Int} (h : At d F T room) (p : List UInt8) : d.readB p = (F p).getD [] := by
  have h1 := h.look p
  rw [← lk_find] at h1
  rw [RD.readB, if_neg (by rw [h.pw]; decide), h1]
theorem At.writeE {d : RD} {F : List UInt8 → Option (List UInt8)} {T : Nat} {room : Int} (h : At d F T room) {p l : List UInt8} (hp : Named p) (hr : (T : Int) + (l.length : Nat) ≤ room) : d.writeE p l = 0 := by
  have h1 := h.tot
  have h2 := h.room
  rw [RD.writeE, if_neg (fun h => h hp), if_neg (by rw [h.pw]; decide), if_neg (by omega)]
theorem At.write {d : RD} {F : List UInt8 → Option (List UInt8)} {T : Nat} {room : Int} (h : At d F T room) {p l : List UInt8} (hp : Named p) (hr : (T : Int) + (l.length : Nat) ≤ room) : At (d.write p l) (fup F p (some l)) (T + l.length) room := by
  have hs : (d.write p l).seen = insF d.seen (p, l) := by
    rw [RD.write, if_pos (h.writeE hp hr)]
    show makeF d.seen 0 p [] l = _
    rw [makeF, if_pos rfl, withF_ins]
  refine ⟨?_, ?_, fun q => ?_, ?_⟩
  · rw [RD.write, if_pos (h.writeE hp hr)]
    show lessP d.pw = -1
    rw [h.pw]; rfl
  · rw [RD.write, if_pos (h.writeE hp hr)]; exact h.room
  · rw [hs, lk_ins]
    unfold fup
    split
    · rfl
    · exact h.look q
  · rw [hs]
    have := totF_ins d.seen (p, l)
    have := h.tot
    have e : (p, l).2.length = l.length := rfl
    omega
theorem At.syncE {d : RD} {F : List UInt8 → Option (List UInt8)} {T : Nat} {room : Int} (h : At d F T room) : d.syncE = 0 := by rw [RD.syncE, if_neg (by rw [h.pw]; decide)]
theorem At.sync {d : RD} {F : List UInt8 → Option (List UInt8)} {T : Nat} {room : Int} (h : At d F T room) : At d.sync F T room := by
  have e : d.sync = { d with lasts := d.seen, waits := [], pw := lessP d.pw } := by rw [RD.sync, if_neg (by rw [h.pw]; decide)]
  rw [e]
  exact ⟨by show lessP d.pw = -1; rw [h.pw]; rfl, h.room, h.look, h.tot⟩
theorem At.renameE {d : RD} {F : List UInt8 → Option (List UInt8)} {T : Nat} {room : Int} (h : At d F T room) {a c x : List UInt8} (hc : Named c) (hx : F a = some x) : d.renameE a c = 0 := by
  rw [RD.renameE, if_neg (fun h => h hc), h.readE, if_neg (by rw [hx]; simp)]
theorem At.rename {d : RD} {F : List UInt8 → Option (List UInt8)} {T : Nat} {room : Int} (h : At d F T room) {a c x : List UInt8} (hc : Named c) (hx : F a = some x) : At (d.rename a c) (fup (fup F a none) c (some x)) T room := by
  have h1 := h.look a
  rw [← lk_find, hx] at h1
  obtain ⟨y, hy, hyx⟩ : ∃ y, d.seen[findN d.seen a]? = some y ∧ y.2 = x := by
    cases hq : d.seen[findN d.seen a]? with
    | none => rw [hq] at h1; cases h1
    | some y => rw [hq] at h1; exact ⟨y, rfl, by simpa using h1⟩
  have hya : y.1 = a := by
    obtain ⟨hi, he⟩ := List.getElem?_eq_some_iff.1 hy
    have := List.findIdx_getElem (p := fun x : FP => decide (x.1 = a)) (xs := d.seen) (w := hi)
    rw [← he]
    exact of_decide_eq_true this
  have hs : (d.rename a c).seen = insF (withoutF d.seen a) (c, x) := by
    rw [RD.rename, if_pos (h.renameE hc hx)]
    show makeF d.seen 1 a c [] = _
    rw [makeF, if_neg (by decide), hy]
    show (if (1 : Int) = 2 then _ else _) = _
    rw [if_neg (by decide), withF_ins, hyx]
  refine ⟨?_, ?_, fun q => ?_, ?_⟩
  · rw [RD.rename, if_pos (h.renameE hc hx)]
    show lessP d.pw = -1
    rw [h.pw]; rfl
  · rw [RD.rename, if_pos (h.renameE hc hx)]; exact h.room
  · rw [hs, lk_ins]
    unfold fup withoutF
    split
    · rfl
    · rw [lk_filter]
      split
      · rfl
      · exact h.look q
  · rw [hs]
    have h2 := totF_ins (withoutF d.seen a) (c, x)
    have h3 : totF (withoutF d.seen a) + y.2.length ≤ totF d.seen := totF_filter_mem (List.mem_of_getElem? hy) (by simp [hya])
    have := h.tot
    have e : (c, x).2.length = x.length := rfl
    rw [hyx] at h3
    omega
theorem takeE_put (l : List UInt8) : takeE (putL l) = 0 := by
  have hl := putL_length l
  have e : (putL l).take ((putL l).length - 4) = l := by rw [hl, Nat.add_sub_cancel, putL, List.take_left]
  rw [takeE, if_neg (by omega), e, if_pos rfl]
end Go.Proofs.Ytlbecpekemlllaa
end
section
/- Journals saved and loaded, over plain disks. No program walked. -/
set_option linter.unusedVariables false
set_option linter.unusedSimpArgs false
namespace Go.Proofs.Ytlbecpekemlllaa
open Go.Eng Go.Hx
theorem chunks_flat : ∀ ds : List (List UInt8), D32 ds → chunks ds.length ds.flatten = ds
  | [], _ => rfl
  | d :: r, h => by
    have hd : d.length = 32 := h d (List.mem_cons_self ..)
    have ih := chunks_flat r (fun x hx => h x (List.mem_cons_of_mem _ hx))
    have e : chunks (r.length + 1) (d ++ r.flatten) = d :: chunks r.length r.flatten := by
      unfold chunks
      rw [List.range_succ_eq_map, List.map_cons, List.map_map]
      congr 1
      · rw [Nat.mul_zero, List.drop_zero, List.take_append_of_le_length (by omega), List.take_of_length_le (by omega)]
      · apply List.map_congr_left
        intro i _
        show ((d ++ r.flatten).drop (32 * (i + 1))).take 32 = _
        rw [show 32 * (i + 1) = d.length + 32 * i by omega, ← List.drop_drop, List.drop_left]
    rw [List.length_cons, List.flatten_cons, e, ih]
theorem jbody_parts {img : List UInt8} {ds : List (List UInt8)} (hi : img.length = 32) (hD : D32 ds) : imgOf (jbody img ds) = img ∧ dsOf (jbody img ds) = ds ∧ (jbody img ds).length = 40 + 32 * ds.length := by
  have hl := jbody_length hi hD
  have e4 : (jbody img ds).drop 4 = img ++ (le4 ds.length ++ ds.flatten) := by
    rw [jbody, List.append_assoc, List.append_assoc]
    rfl
  have e40 : (jbody img ds).drop 40 = ds.flatten := by
    rw [jbody, show (40 : Nat) = ([76, 84, 74, 49] ++ img ++ le4 ds.length).length by simp [hi, le4_length], List.drop_left]
  refine ⟨?_, ?_, hl⟩
  · rw [imgOf, e4, List.take_append_of_le_length (by omega), List.take_of_length_le (by omega)]
  · rw [dsOf, cntOf, hl, e40, show (40 + 32 * ds.length - 40) / 32 = ds.length by omega]
    exact chunks_flat ds hD
theorem okJ_body {img : List UInt8} {ds : List (List UInt8)} (hi : img.length = 32) (hD : D32 ds) (hJ : JMay ds) : OkJ (jbody img ds) := by
  obtain ⟨h1, h2, h3⟩ := jbody_parts hi hD
  exact ⟨by omega, by omega, by rw [h2]; exact hJ, by rw [h1, h2]⟩
/-- what was saved is read -/
theorem readJ_put {img : List UInt8} {ds : List (List UInt8)} (hi : img.length = 32) (hD : D32 ds) (hJ : JMay ds) {i2 : List UInt8} {d2 : List (List UInt8)} {e : Int} (h : ReadJ (putL (jbody img ds)) i2 d2 e) : i2 = img ∧ d2 = ds ∧ e = 0 := by
  obtain ⟨h1, h2, h3⟩ := jbody_parts hi hD
  have ht := takeE_put (jbody img ds)
  have hb : (putL (jbody img ds)).take ((putL (jbody img ds)).length - 4) = jbody img ds := by
    rw [putL_length, Nat.add_sub_cancel, putL, List.take_left]
  unfold ReadJ at h
  rw [hb] at h
  rcases h with ⟨a, _⟩ | ⟨_, _, rfl, rfl, rfl⟩ | ⟨_, a, _⟩
  · exact absurd ht a
  · exact ⟨h1, h2, rfl⟩
  · exact absurd (okJ_body hi hD hJ) a
theorem nm_jnow : Named jNow := by decide
theorem nm_jnew : Named jNew := by decide
/-- a disk that has this journal, and waits for nothing -/
structure JD (d : RD) (b : Option (List UInt8)) (T : Nat) : Prop where
  at_ : ∃ F, At d F T 2000 ∧ F jNow = b
  same : d.lasts = d.seen
  waits : d.waits = []
theorem JD.new : JD (RD.new 2000) none 0 := ⟨⟨fun _ => none, ⟨rfl, rfl, fun p => rfl, Nat.le_refl _⟩, rfl⟩, rfl, rfl⟩
theorem sync_clean {d : RD} (h : d.pw = -1) : d.sync.lasts = d.sync.seen ∧ d.sync.waits = [] := by
  have e : d.sync = { d with lasts := d.seen, waits := [], pw := lessP d.pw } := by rw [RD.sync, if_neg (by rw [h]; decide)]
  rw [e]
  exact ⟨rfl, rfl⟩
theorem JD.save {d : RD} {b : Option (List UInt8)} {T : Nat} (h : JD d b T) {l : List UInt8} (hr : T + l.length ≤ 2000) : ∃ d', d.saveJ jNew jNow l = (d', 0) ∧ JD d' (some l) (T + l.length) := by
  obtain ⟨F, ha, hF⟩ := h.at_
  have h1 := ha.write (p := jNew) (l := l) nm_jnew (by omega)
  have h2 := h1.sync
  have hx : fup F jNew (some l) jNew = some l := if_pos rfl
  have h3 := h2.rename nm_jnow hx
  obtain ⟨c1, c2⟩ := sync_clean h3.pw
  refine ⟨_, ?_, ⟨⟨_, h3.sync, if_pos rfl⟩, c1, c2⟩⟩
  rw [RD.saveJ, if_neg (by rw [ha.writeE nm_jnew (by omega)]; decide), if_neg (by rw [h1.syncE]; decide), if_neg (by rw [h2.renameE nm_jnow hx]; decide), h3.syncE]
theorem JD.restart {d : RD} {b : Option (List UInt8)} {T : Nat} (h : JD d b T) (keep : List Bool) : JD (d.restart keep) b T := by
  obtain ⟨F, ha, hF⟩ := h.at_
  have e : (d.restart keep).seen = d.seen := by
    show (dfold keep d d.waits.length).2 = _
    rw [h.waits, ← h.same]; simp [dfold]
  exact ⟨⟨F, ⟨rfl, ha.room, fun p => by rw [e]; exact ha.look p, by rw [e]; exact ha.tot⟩, hF⟩, rfl, rfl⟩
theorem JD.gone {d : RD} {T : Nat} (h : JD d none T) : d.readE jNow = 4 := by
  obtain ⟨F, ha, hF⟩ := h.at_
  rw [ha.readE, if_pos hF]
theorem JD.has {d : RD} {l : List UInt8} {T : Nat} (h : JD d (some l) T) : d.readE jNow = 0 ∧ d.readB jNow = l := by
  obtain ⟨F, ha, hF⟩ := h.at_
  exact ⟨by rw [ha.readE, if_neg (by rw [hF]; simp)], by rw [ha.readB, hF]; rfl⟩
theorem JD.clear {d : RD} {l : List UInt8} {T : Nat} (h : JD d (some l) T) : (d.remove jNow).syncE = 0 ∧ JD (d.remove jNow).sync none T := by
  obtain ⟨F, ha, hF⟩ := h.at_
  have hE := h.has.1
  have hs : (d.remove jNow).seen = withoutF d.seen jNow := by
    rw [RD.remove, if_pos hE]
    show makeF d.seen 2 jNow [] [] = _
    have h1 := ha.look jNow
    rw [← lk_find, hF] at h1
    rw [makeF, if_neg (by decide)]
    cases hq : d.seen[findN d.seen jNow]? with
    | none => rw [hq] at h1; cases h1
    | some y => exact if_pos rfl
  have hp : (d.remove jNow).pw = -1 := by
    rw [RD.remove, if_pos hE]
    show lessP d.pw = -1
    rw [ha.pw]; rfl
  have h1 : At (d.remove jNow) (fup F jNow none) T 2000 := by
    refine ⟨hp, by rw [RD.remove, if_pos hE]; exact ha.room, fun q => ?_, ?_⟩
    · rw [hs]
      unfold fup withoutF
      rw [lk_filter]
      split
      · rfl
      · exact ha.look q
    · rw [hs]
      exact Nat.le_trans (totF_filter _ _) ha.tot
  obtain ⟨c1, c2⟩ := sync_clean hp
  exact ⟨h1.syncE, ⟨⟨_, h1.sync, if_pos rfl⟩, c1, c2⟩⟩
end Go.Proofs.Ytlbecpekemlllaa
end
section
/- Contracts: journal.Load, Resume, Clear (layer 17). -/
set_option linter.unusedVariables false
set_option linter.unusedSimpArgs false
set_option maxRecDepth 20000
set_option maxHeartbeats 2000000
namespace Go.Proofs.Ytlbecpekemlllaa
open Go.Eng Go.Hx
/-- what Load tells -/
def LoadJ (d : RD) (img : List UInt8) (ds : List (List UInt8)) (e : Int) : Prop := (d.readE jNow ≠ 0 ∧ img = List.replicate 32 0 ∧ ds = [] ∧ e = d.readE jNow) ∨ (d.readE jNow = 0 ∧ ReadJ (d.readB jNow) img ds e)
theorem jloadC {g : Nat} {st : DSt} {d : RD} {kk : Nat} (hD : DS st d kk) (hs : (d.readB jNow).length ≤ 1000000) : Con Try.prog 6 [.pointer (some ⟨g, 0, none⟩)] [RDisk g st] [] (fun v_ X_ S_ => ∃ img v ds err, v_ = (.tuple #[.agg (b8s img ++ [v]).toArray, .int .i64 err]) ∧ X_ = [RDisk g st, ROwn 23 32 v ds.length (dc ds)] ∧ S_ = [] ∧ (img.length = 32 ∧ D32 ds ∧ LoadJ d img ds err)) := by
  refine henter (N := 19) Try.func6 rfl rfl (by simp) fun b => ?_
  refine hseq <| hreg <| ?_
  refine hx (xh_alloc ti31 (fun g2 => ?_))
  refine hy (fun _ => y_assign rfl) <| hend <| hmemQ (X' := [_, _]) (S' := []) (fun _ m => m) <| hthen <| hseq <| hreg <| hy (fun _ => y_move rfl) <| ?_
  refine hx (xh_call rfl Try.call17 (dreadC hD (p := jNow)) [1] rfl [] rfl ?_)
  rintro _ _ _ ⟨v, rfl, rfl, rfl⟩
  refine hfactL (fun m => (m.own 1 rfl).slice) ?_
  rintro ⟨A_x, c_x, rfl, hc_x⟩
  refine hfactL (fun m => (m.ord 1 rfl).2.1) fun hA_x => ?_
  refine hy (fun _ => y_move rfl) <| hy (fun _ => y_extract rfl rfl) <| hy (fun _ => y_extract rfl rfl) <| hy (fun _ => y_assign rfl) <| hy (fun _ => y_assign rfl) <| hend <| hsub (ρ' := [(5, _), (4, _), (3, _), (2, _), (0, _)]) ⟨rfl, rfl, rfl, rfl, rfl, trivial⟩ <| hmemQ (X' := [_, _, _]) (S' := []) (fun _ m => m) <| hthen <| hseq <| hseq <| hreg <| hy (fun _ => y_move rfl) <| hy (fun _ => y_neq rfl rfl) <| hend <| hsub (ρ' := [(12, _), (5, _), (4, _), (3, _), (2, _), (0, _)]) ⟨rfl, rfl, rfl, rfl, rfl, rfl, trivial⟩ <| hthen <| ?_
  refine hif rfl (fun h1 => ?_) (fun h1 => ?_)
  · refine hseq <| hreg <| hy (fun _ => yV (y_build0 ti31 rfl (by kernel_rfl)) ((rfl : _ = Value.agg (b8s (List.replicate 32 0) ++ [Value.slice none 0 0]).toArray))) <| hy (fun _ => y_move rfl) <| ?_
    refine hx0 (xh_stA 2 rfl rfl rfl sz31 (jlen rfl) jone rfl ?_)
    refine hy (fun _ => y_assign rfl) <| hend <| hsub (ρ' := [(3, _), (12, _), (5, _), (4, _), (2, _), (0, _)]) ⟨rfl, rfl, rfl, rfl, rfl, rfl, trivial⟩ <| hmemQ (X' := [_, _, _]) (S' := []) (fun _ m => m) <| hthen <| hret <| hthen_ret <| ?_
    refine hmemQ (fun w m => m.addX (r' := ROwn 23 32 (.slice none 0 0) 0 []) (.refl _ _) (Own.nil _ _ _ _) (fun k hk => hk.elim)) ?_
    exact hretN1 trivial rfl rfl rfl ag31 sz31 (jlen rfl) (fun m => (m.blk 1 rfl).cells0) [2, 0] rfl [] rfl ⟨(List.replicate 32 0), (.slice none 0 0), [], _, rfl, rfl, rfl, ⟨rfl, (fun x hx => by cases hx), .inl ⟨h1, rfl, rfl, rfl⟩⟩⟩
  · refine hcskip <| hthen <| hseq <| hreg <| hy (fun _ => y_move rfl) <| ?_
    refine hx (xh_calll rfl Try.call18 (jreadC hc_x hs) [] rfl (.x 1 rfl .own .nil) ?_)
    rintro _ _ _ ⟨img, v2, ds, err, rfl, rfl, rfl, hr⟩
    refine ⟨rfl, ?_⟩
    refine hfactL (fun m => (m.own 0 rfl).slice) ?_
    rintro ⟨A_x2, c_x2, rfl, hc_x2⟩
    refine hfactL (fun m => (m.ord 0 rfl).2.1) fun hA_x2 => ?_
    refine hy (fun _ => y_extract rfl rfl) <| hy (fun _ => y_extract rfl rfl) <| ?_
    refine hx0 (xh_stA 3 rfl rfl rfl sz31 (jlen hr.1) jone rfl ?_)
    refine hy (fun _ => y_assign rfl) <| hend <| hsub (ρ' := [(3, _), (12, _), (5, _), (4, _), (2, _), (0, _)]) ⟨rfl, rfl, rfl, rfl, rfl, rfl, trivial⟩ <| hmemQ (X' := [_, _, _, _]) (S' := []) (fun _ m => m) <| hthen <| hret <| ?_
    exact hretN1 trivial rfl rfl rfl ag31 sz31 (jlen hr.1) (fun m => (m.blk 0 rfl).cells0) [2, 1] rfl [] rfl ⟨img, _, ds, err, rfl, rfl, rfl, ⟨hr.1, hr.2.1, .inr ⟨Decidable.not_not.1 h1, hr.2.2⟩⟩⟩
theorem bld_jour {P : Program} {pl : Nat → Option (Nat × Nat)} {im : List UInt8} (hi : im.length = 32) {zs : List Value} (hz : zs.length = 33) (hd : zs.drop 32 = [Value.slice none 0 0]) (p0 : pl 0 = some (0, 32)) : Bld P pl zs [(0, .agg (b8s im).toArray)] (b8s im ++ [Value.slice none 0 0]) := by
  have h1 : (b8s im).length = 32 := by rw [b8s_length, hi]
  refine .cons (vs := b8s im) p0 rfl h1 (by omega) ?_
  have e : splice zs 0 (b8s im) = b8s im ++ [Value.slice none 0 0] := by rw [splice, List.take_zero, List.nil_append, Nat.zero_add, h1, hd]
  rw [e]
  exact .nil
theorem jresumeC {g : Nat} {st : DSt} {d : RD} {kk : Nat} {im : List UInt8} (hD : DS st d kk) (hs : (d.readB jNow).length ≤ 1000000) (hi : im.length = 32) : Con Try.prog 10 [.pointer (some ⟨g, 0, none⟩), .agg (b8s im).toArray] [RDisk g st] [] (fun v_ X_ S_ => ∃ img v ds, v_ = (.agg (b8s img ++ [v]).toArray) ∧ X_ = [RDisk g st, ROwn 23 32 v ds.length (dc ds)] ∧ S_ = [] ∧ (img.length = 32 ∧ D32 ds ∧ ∃ i2 d2 e2, LoadJ d i2 d2 e2 ∧ ((e2 = 0 ∧ i2 = im ∧ img = i2 ∧ ds = d2) ∨ (¬ (e2 = 0 ∧ i2 = im) ∧ img = im ∧ ds = [])))) := by
  refine henter (N := 23) Try.func10 rfl rfl (by simp) fun b => ?_
  refine hseq <| hreg <| ?_
  refine hx (xh_box rfl (fun g3 => ?_))
  refine hmemL (fun w m => m.eqX 0 rfl (show _ = RBlk g3 23 (b8s im) from congrArg (RBlk _ _) (cells_agg _))) ?_
  refine hx (xh_alloc ti31 (fun g4 => ?_))
  refine hend <| hmemQ (X' := [_, _, _]) (S' := []) (fun _ m => m) <| hthen <| hseq <| hreg <| hy (fun _ => y_move rfl) <| ?_
  refine hx (xh_call rfl Try.call6 (jloadC hD hs) [2] rfl [] rfl ?_)
  rintro _ _ _ ⟨img, v, ds, err, rfl, rfl, rfl, hr⟩
  refine hfactL (fun m => (m.own 1 rfl).slice) ?_
  rintro ⟨A_x, c_x, rfl, hc_x⟩
  refine hfactL (fun m => (m.ord 1 rfl).2.1) fun hA_x => ?_
  refine hy (fun _ => y_move rfl) <| hy (fun _ => y_extract rfl rfl) <| hy (fun _ => y_extract rfl rfl) <| ?_
  refine hx (xh_alloc ti31 (fun g5 => ?_))
  refine hx0 (xh_stA 0 rfl rfl rfl sz31 (jlen hr.1) jone rfl ?_)
  refine hy (fun _ => y_assign rfl) <| hend <| hsub (ρ' := [(6, _), (5, _), (4, _), (3, _), (0, _), (1, _)]) ⟨rfl, rfl, rfl, rfl, rfl, rfl, trivial⟩ <| hmemQ (X' := [_, _, _, _, _]) (S' := []) (fun _ m => m) <| hthen <| hseq <| hseq <| hreg <| hy (fun _ => y_move rfl) <| hy (fun _ => y_neq rfl rfl) <| hy (fun _ => y_move rfl) <| ?_
  refine hsplit 14 rfl (fun he => ?_) (fun he => ?_)
  · refine hskip rfl rfl rfl (by decide) <| hskip rfl rfl rfl (by decide) <| hskip rfl rfl rfl (by decide) <| hskip rfl rfl rfl (by decide) <| hy (fun _ => y_pickT rfl rfl) <| hend <| hsub (ρ' := [(19, _), (6, _), (5, _), (4, _), (3, _), (0, _), (1, _)]) ⟨rfl, rfl, rfl, rfl, rfl, rfl, rfl, trivial⟩ <| hthen <| ?_
    refine hift rfl (rfl) ?_
    refine hseq <| hreg <| hy (fun m => yV (y_ldN rfl ag23 sz23 (by rw [b8s_length]; exact hi) ((m.blk 4 rfl).cells0)) ((rfl : _ = Value.agg (b8s im).toArray))) <| hy (fun _ => y_build ti31 rfl rfl (by kernel_rfl) (bld_jour hi rfl rfl pl31_0)) <| ?_
    refine hx0 (xh_stA 3 rfl rfl rfl sz31 (jlen hi) jone rfl ?_)
    refine hend <| hsub (ρ' := [(19, _), (6, _), (5, _), (4, _), (3, _), (0, _), (1, _)]) ⟨rfl, rfl, rfl, rfl, rfl, rfl, rfl, trivial⟩ <| hmemQ (X' := [_, _, _, _, _]) (S' := []) (fun _ m => m) <| hthen <| hret <| hthen_ret <| ?_
    refine hmemQ (fun w m => m.addX (r' := ROwn 23 32 (.slice none 0 0) 0 []) (.refl _ _) (Own.nil _ _ _ _) (fun k hk => hk.elim)) ?_
    exact hretN trivial rfl rfl ag31 sz31 (jlen hi) (fun m => (m.blk 1 rfl).cells0) [3, 0] rfl [] rfl ⟨im, (.slice none 0 0), [], rfl, rfl, rfl, ⟨hi, (fun x hx => by cases hx), img, ds, err, hr.2.2, .inr ⟨(fun h => he h.1), rfl, rfl⟩⟩⟩
  · have he0 := Decidable.not_not.1 he
    refine hyg (o := _) rfl rfl rfl (fun _ => y_fld rfl fa31_0 (by decide)) <| hyg (o := _) rfl rfl rfl (fun m => yV (y_ldN rfl ag23 sz23 (by rw [b8s_length]; exact hr.1) (fun j u hu => by rw [add_add]; exact (m.blk 0 rfl).cells0 (0 + j) u (by rw [Nat.zero_add]; exact (List.getElem?_append_left (List.getElem?_eq_some_iff.1 hu).1).trans hu))) ((rfl : _ = Value.agg (b8s img).toArray))) <| hyg (o := _) rfl rfl rfl (fun m => yV (y_ldN rfl ag23 sz23 (by rw [b8s_length]; exact hi) ((m.blk 4 rfl).cells0)) ((rfl : _ = Value.agg (b8s im).toArray))) <| hyg (o := _) rfl rfl rfl (fun _ => y_neD23 rfl rfl hr.1 hi) <| hy (fun _ => y_pickF rfl rfl) <| hend <| hsub (ρ' := [(19, _), (6, _), (5, _), (4, _), (3, _), (0, _), (1, _)]) ⟨rfl, rfl, rfl, rfl, rfl, rfl, rfl, trivial⟩ <| hthen <| ?_
    refine hif rfl (fun hne => ?_) (fun hne => ?_)
    · refine hseq <| hreg <| hy (fun m => yV (y_ldN rfl ag23 sz23 (by rw [b8s_length]; exact hi) ((m.blk 4 rfl).cells0)) ((rfl : _ = Value.agg (b8s im).toArray))) <| hy (fun _ => y_build ti31 rfl rfl (by kernel_rfl) (bld_jour hi rfl rfl pl31_0)) <| ?_
      refine hx0 (xh_stA 3 rfl rfl rfl sz31 (jlen hi) jone rfl ?_)
      refine hend <| hsub (ρ' := [(19, _), (6, _), (5, _), (4, _), (3, _), (0, _), (1, _)]) ⟨rfl, rfl, rfl, rfl, rfl, rfl, rfl, trivial⟩ <| hmemQ (X' := [_, _, _, _, _]) (S' := []) (fun _ m => m) <| hthen <| hret <| hthen_ret <| ?_
      refine hmemQ (fun w m => m.addX (r' := ROwn 23 32 (.slice none 0 0) 0 []) (.refl _ _) (Own.nil _ _ _ _) (fun k hk => hk.elim)) ?_
      exact hretN trivial rfl rfl ag31 sz31 (jlen hi) (fun m => (m.blk 1 rfl).cells0) [3, 0] rfl [] rfl ⟨im, (.slice none 0 0), [], rfl, rfl, rfl, ⟨hi, (fun x hx => by cases hx), img, ds, err, hr.2.2, .inr ⟨(fun h => hne h.2), rfl, rfl⟩⟩⟩
    · refine hcskip <| hthen <| hseq <| hreg <| hy (fun m => yV (y_ldN rfl ag31 sz31 (jlen hr.1) ((m.blk 0 rfl).cells0)) ((rfl : _ = Value.agg (b8s img ++ [Value.slice A_x ds.length c_x]).toArray))) <| ?_
      refine hx0 (xh_stA 3 rfl rfl rfl sz31 (jlen hr.1) jone rfl ?_)
      refine hend <| hsub (ρ' := [(19, _), (6, _), (5, _), (4, _), (3, _), (0, _), (1, _)]) ⟨rfl, rfl, rfl, rfl, rfl, rfl, rfl, trivial⟩ <| hmemQ (X' := [_, _, _, _, _]) (S' := []) (fun _ m => m) <| hthen <| hret <| ?_
      exact hretN trivial rfl rfl ag31 sz31 (jlen hr.1) (fun m => (m.blk 0 rfl).cells0) [2, 2] rfl [] rfl ⟨img, _, ds, rfl, rfl, rfl, ⟨hr.1, hr.2.1, img, ds, err, hr.2.2, .inl ⟨he0, Decidable.not_not.1 hne, rfl, rfl⟩⟩⟩
theorem dremoveC {g : Nat} {st : DSt} {d : RD} {kk : Nat} {p : List UInt8} (hD : DS st d kk) (hkk : kk ≤ 99000) : Con Try.prog 31 [.pointer (some ⟨g, 0, none⟩), .string (strOf p)] [RDisk g st] [] (fun v_ X_ S_ => ∃ st1, v_ = (.int .i64 (d.readE p)) ∧ X_ = [RDisk g st1] ∧ S_ = [] ∧ (DS st1 (d.remove p) (kk + 1))) := by
  exact Con.mono (removeC hD.ok (by omega)) (fun v X S h => by
    obtain ⟨st1, A, j, h1, h2, h3, hw⟩ := h
    exact ⟨st1, by rw [hD.readE]; exact h1, h2, h3, hD.remove hw⟩)
/-- what Clear leaves -/
def RD.clearJ (d : RD) : RD × Int := if d.readE jNow = 4 then (d, 0) else if d.readE jNow ≠ 0 then (d, d.readE jNow) else ((d.remove jNow).sync, (d.remove jNow).syncE)
theorem clearStepsE {g1 g : Nat} {st : DSt} {d : RD} {kk : Nat} (hD : DS st d kk) (hkk : kk ≤ 90000) (h0 : d.readE jNow ≠ 4) : ConE Try.prog 30 [.pointer (some ⟨g1, 0, none⟩)] [RDisk g st] [RBlk g1 28 [.pointer (some ⟨g, 0, none⟩)]] (fun v_ X_ S_ => ∃ st1, v_ = (.tuple #[]) ∧ X_ = [RDisk g st1] ∧ S_ = [] ∧ (d.clearJ.2 = 0 ∧ DS st1 d.clearJ.1 (kk + 2))) (fun v_ X_ S_ => ∃ st1, v_ = (failV d.clearJ.2) ∧ X_ = [RDisk g st1] ∧ S_ = [] ∧ (d.clearJ.2 ≠ 0 ∧ DS st1 d.clearJ.1 (kk + 2))) := by
  refine henterE (N := 7) Try.func30 rfl rfl (by simp) fun b => ?_
  refine hseq <| hreg <| hy (fun m => y_ld1 rfl ag28 (ld_blk (m.blkS 0 rfl) (i := 0) rfl)) <| ?_
  refine hx (xh_call rfl Try.call31 (dremoveC hD (by omega) (p := jNow)) [0] rfl [] rfl ?_)
  rintro _ _ _ ⟨st1, rfl, rfl, rfl, hE1⟩
  refine hx (xh_callE rfl Try.call22 (jmustE) [] rfl [] rfl ?_ ?_)
  · rintro _ _ _ ⟨rfl, rfl, rfl, q1⟩
    refine hthen_panic <| ?_
    rw [show d.clearJ = (d, d.readE jNow) by rw [RD.clearJ, if_neg h0, if_pos q1]]
    have hE : DS st1 d (kk + 2) := by
      rw [RD.remove, if_neg q1] at hE1
      exact hE1.le (by omega)
    exact hpanE [0] rfl [] rfl ⟨st1, rfl, rfl, rfl, ⟨q1, hE⟩⟩
  · rintro _ _ _ ⟨rfl, rfl, rfl, q1⟩
    rw [show d.clearJ = ((d.remove jNow).sync, (d.remove jNow).syncE) by rw [RD.clearJ, if_neg h0, if_neg (fun h => h q1)]]
    refine hend <| hsub (ρ' := [(0, _)]) ⟨rfl, trivial⟩ <| hmemQ (X' := [_]) (S' := [_]) (fun _ m => m) <| hthen <| hreg <| hy (fun m => y_ld1 rfl ag28 (ld_blk (m.blkS 0 rfl) (i := 0) rfl)) <| ?_
    refine hx (xh_call rfl Try.call24 (dsyncC hE1) [0] rfl [] rfl ?_)
    rintro _ _ _ ⟨st12, rfl, rfl, rfl, hE2⟩
    refine hx (xh_callE rfl Try.call22 (jmustE) [] rfl [] rfl ?_ ?_)
    · rintro _ _ _ ⟨rfl, rfl, rfl, q2⟩
      exact hpanE [0] rfl [] rfl ⟨st12, rfl, rfl, rfl, ⟨q2, hE2.le (by omega)⟩⟩
    · rintro _ _ _ ⟨rfl, rfl, rfl, q2⟩
      refine hend <| hsub (ρ' := [(0, _)]) ⟨rfl, trivial⟩ <| hmemQ (X' := [_]) (S' := [_]) (fun _ m => m) <| ?_
      refine hretE ?_
      exact hret0 trivial rfl [0] rfl [] rfl ⟨st12, rfl, rfl, rfl, ⟨q2, hE2.le (by omega)⟩⟩
theorem doneClearC {g1 g : Nat} {st : DSt} {d : RD} {kk : Nat} (hD : DS st d kk) (hkk : kk ≤ 90000) (h0 : d.readE jNow ≠ 4) : Con Try.prog 20 [.func (.func 30) #[] #[.pointer (some ⟨g1, 0, none⟩)]] [RDisk g st] [RBlk g1 28 [.pointer (some ⟨g, 0, none⟩)]] (fun v_ X_ S_ => ∃ st1, v_ = (.int .i64 d.clearJ.2) ∧ X_ = [RDisk g st1] ∧ S_ = [] ∧ (DS st1 d.clearJ.1 (kk + 2))) := by
  refine henterD (N := 6) Try.func20 rfl rfl (by simp) fun b => ?_
  refine hseq <| hreg <| ?_
  refine hx (xh_alloc ti32 (fun g2 => ?_))
  refine hend <| hmemQ (X' := [_, _]) (S' := [_]) (fun _ m => m) <| hthen <| hseq <| hreg <| hy (fun _ => y_mkf rfl rfl) <| hdeferv rfl rfl <| hend <| hsub (ρ' := [(2, _), (0, _)]) ⟨rfl, rfl, trivial⟩ <| hthen <| hseq <| hreg <| hy (fun _ => y_move rfl) <| ?_
  refine hx (xh_callvE rfl rfl Try.call30 (clearStepsE hD hkk h0) [1] rfl [0] rfl ?_ ?_)
  · rintro _ _ _ ⟨st12, rfl, rfl, rfl, q1⟩
    refine hthen_panic <| hleaveP <| ?_
    refine hdone (by simp) Try.call41 (doneCatch) [1] rfl [] rfl ?_
    rintro _ _ _ ⟨rfl, rfl, rfl⟩
    exact hlastC rfl rfl ag32 (fun m => ld_blk (m.blk 0 rfl) (i := 0) rfl) [1] rfl [] rfl ⟨st12, rfl, rfl, rfl, q1.2⟩
  · rintro _ _ _ ⟨st12, rfl, rfl, rfl, q1⟩
    rw [q1.1]
    refine hend <| hsub (ρ' := [(2, _), (0, _)]) ⟨rfl, rfl, trivial⟩ <| hmemQ (X' := [_, _]) (S' := [_]) (fun _ m => m) <| hthen <| hseq <| hreg <| ?_
    refine hx0 (xh_st1 1 rfl rfl rfl sz32 rfl (by first | exact Nat.le_of_ble_eq_true rfl | simp) ?_)
    refine hend <| hmemQ (X' := [_, _]) (S' := [_]) (fun _ m => m) <| hthen <| hret <| ?_
    refine hleaveN trivial ?_
    refine hdone (by simp) Try.call41 (doneIdle) [0] rfl [] rfl ?_
    rintro _ _ _ ⟨rfl, rfl, rfl⟩
    exact hlastC rfl rfl ag32 (fun m => ld_blk (m.blk 0 rfl) (i := 0) rfl) [1] rfl [] rfl ⟨st12, rfl, rfl, rfl, q1.2⟩
theorem jclearC {g : Nat} {st : DSt} {d : RD} {kk : Nat} (hD : DS st d kk) (hkk : kk ≤ 90000) : Con Try.prog 13 [.pointer (some ⟨g, 0, none⟩)] [RDisk g st] [] (fun v_ X_ S_ => ∃ st1, v_ = (.int .i64 d.clearJ.2) ∧ X_ = [RDisk g st1] ∧ S_ = [] ∧ (DS st1 d.clearJ.1 (kk + 2))) := by
  refine henter (N := 14) Try.func13 rfl rfl (by simp) fun b => ?_
  refine hseq <| hreg <| ?_
  refine hx (xh_box rfl (fun g1 => ?_))
  refine hmemL (fun w m => m.eqX 0 rfl (show _ = RBlk g1 28 [.pointer (some ⟨g, 0, none⟩)] from rfl)) ?_
  refine hy (fun _ => y_assign rfl) <| hend <| hmemQ (X' := [_, _]) (S' := []) (fun _ m => m) <| hthen <| hseq <| hseq <| hreg <| hy (fun m => y_ld1 rfl ag28 (ld_blk (m.blk 0 rfl) rfl)) <| ?_
  refine hx (xh_call rfl Try.call17 (dreadC hD (p := jNow)) [1] rfl [] rfl ?_)
  rintro _ _ _ ⟨v, rfl, rfl, rfl⟩
  refine hfactL (fun m => (m.own 1 rfl).slice) ?_
  rintro ⟨A_x, c_x, rfl, hc_x⟩
  refine hfactL (fun m => (m.ord 1 rfl).2.1) fun hA_x => ?_
  refine hy (fun _ => y_move rfl) <| hy (fun _ => y_extract rfl rfl) <| hy (fun _ => y_extract rfl rfl) <| hy (fun _ => y_assign rfl) <| hy (fun _ => y_assign rfl) <| hend <| hsub (ρ' := [(4, _), (2, _), (1, _), (0, _)]) ⟨rfl, rfl, rfl, rfl, trivial⟩ <| hmemQ (X' := [_, _, _]) (S' := []) (fun _ m => m) <| hthen <| hseq <| hreg <| hy (fun _ => y_move rfl) <| hy (fun _ => y_eql rfl rfl) <| hend <| hsub (ρ' := [(11, _), (4, _), (2, _), (1, _), (0, _)]) ⟨rfl, rfl, rfl, rfl, rfl, trivial⟩ <| hthen <| ?_
  refine hif rfl (fun h0 => ?_) (fun h0 => ?_)
  · rw [show d.clearJ = (d, 0) by rw [RD.clearJ, if_pos h0]]
    refine hseq <| hreg <| hy (fun _ => y_assign rfl) <| hend <| hthen <| hret <| hthen_ret <| ?_
    exact hret1 trivial rfl rfl [0] rfl [] rfl ⟨st, rfl, rfl, rfl, hD.le (by omega)⟩
  · refine hcskip <| hthen <| hseq <| hreg <| hy (fun _ => y_mkf rfl rfl) <| ?_
    refine hx (xh_calll rfl Try.call20 (doneClearC hD hkk h0) [0] rfl (.x 1 rfl .same .nil) ?_)
    rintro _ _ _ ⟨st1, rfl, rfl, rfl, hE⟩
    refine ⟨rfl, ?_⟩
    refine hy (fun _ => y_assign rfl) <| hend <| hsub (ρ' := [(2, _), (11, _), (4, _), (1, _), (0, _)]) ⟨rfl, rfl, rfl, rfl, rfl, trivial⟩ <| hmemQ (X' := [_, _, _]) (S' := []) (fun _ m => m) <| hthen <| hret <| ?_
    exact hret1 trivial rfl rfl [0] rfl [] rfl ⟨st1, rfl, rfl, rfl, hE⟩
end Go.Proofs.Ytlbecpekemlllaa
end
section
/- Slices of booleans that came in, as lists. -/
set_option linter.unusedVariables false
set_option linter.unusedSimpArgs false
set_option maxRecDepth 20000
namespace Go.Proofs.Ytlbecpekemlllaa
open Go.Eng Go.Hx
theorem bool_cells {P : Program} {e : TypeId} (he : P.underlying e = some .bool) : ∀ {n : Nat} {ys : List Cell}, ys.length = n → (∀ i, i < n → Ty P e ((ys.drop i).take 1)) → ∃ l : List Bool, ys.map Cell.val = bools l ∧ l.length = n := by
  intro n ys hl h
  refine ⟨ys.map fun y => match y.val with | .bool z => z | _ => false, ?_, by simpa using hl⟩
  apply List.ext_getElem?
  intro i
  simp only [bools, List.map_map, List.getElem?_map]
  by_cases hi : i < n
  · obtain ⟨c, hc⟩ := ty_bool he (h i hi)
    have h2 : ((ys.drop i).take 1)[0]? = some (.v (.bool c)) := by rw [hc]; rfl
    rw [List.getElem?_take, if_pos (by omega), List.getElem?_drop, Nat.add_zero] at h2
    rw [h2]
    simp [Cell.val]
  · rw [List.getElem?_eq_none (by omega)]
    rfl
theorem ty_bools {xs : List Cell} (h : Ty Try.prog 27 xs) : ∃ A n c ys l, xs = [.s 1 A n c ys] ∧ n ≤ c ∧ n ≤ 140737488351232 ∧ ys.map Cell.val = bools l ∧ l.length = n := by
  obtain ⟨A, n, c, ys, rfl, h1, h2, h3, h4⟩ := ty_slice Try.underlying27 h
  have c1 : Try.prog.cellsOf 4 = 1 := by kernel_rfl
  have b1 : Try.prog.bytesOf 4 = 1 := by kernel_rfl
  rw [c1] at h3 h4 ⊢
  rw [b1] at h2
  obtain ⟨l, h5, h6⟩ := bool_cells Try.underlying4 (by omega : ys.length = n) (fun i hi => by have := h4 i hi; rwa [Nat.mul_one] at this)
  exact ⟨A, n, c, ys, l, rfl, h1, by omega, h5, h6⟩
end Go.Proofs.Ytlbecpekemlllaa
end
section
/- The law JournalSaves. -/
set_option linter.unusedVariables false
set_option linter.unusedSimpArgs false
set_option maxRecDepth 20000
set_option maxHeartbeats 4000000
namespace Go.Proofs.Ytlbecpekemlllaa
open Go.Eng Go.Hx
theorem jbeginC  : Con Try.prog 4 [] [] [] (fun v_ X_ S_ => ∃ g st, v_ = (.pointer (some ⟨g, 0, none⟩)) ∧ X_ = [RDisk g st] ∧ S_ = [] ∧ (DS st (RD.new 2000) 0)) := by
  refine henter (N := 10) Try.func4 rfl rfl (by simp) fun b => ?_
  refine hseq <| hreg <| hy (fun _ => y_assign rfl) <| hend <| hthen <| hseq <| hreg <| ?_
  refine hx (xh_call rfl Try.call15 (newC (by decide) (by decide)) [] rfl [] rfl ?_)
  rintro _ _ _ ⟨g, gs, gl, rfl, rfl, rfl⟩
  refine hy (fun _ => y_move rfl) <| hy (fun _ => y_extract rfl rfl) <| hy (fun _ => y_extract rfl rfl) <| hy (fun _ => y_assign rfl) <| hy (fun _ => y_assign rfl) <| hend <| hsub (ρ' := [(2, _), (1, _), (0, _)]) ⟨rfl, rfl, rfl, trivial⟩ <| hmemQ (X' := [_]) (S' := []) (fun _ m => m) <| hthen <| hseq <| hseq <| hreg <| hy (fun _ => y_move rfl) <| hy (fun _ => y_neq rfl rfl) <| hend <| hsub (ρ' := [(8, _), (2, _), (1, _), (0, _)]) ⟨rfl, rfl, rfl, rfl, trivial⟩ <| hthen <| ?_
  refine hiff rfl (rfl) ?_
  have hD0 : DS (dinit 2000 gs gl) (RD.new 2000) 0 := DS.init (by decide)
  refine hcskip <| hthen <| hseq <| hreg <| hy (fun _ => y_move rfl) <| hy (fun _ => y_assign rfl) <| hend <| hsub (ρ' := [(0, _), (8, _), (2, _), (1, _)]) ⟨rfl, rfl, rfl, rfl, trivial⟩ <| hthen <| hret <| ?_
  exact hret1 trivial rfl rfl [0] rfl [] rfl ⟨g, (dinit 2000 gs gl), rfl, rfl, rfl, hD0⟩
/-- what Load tells where this journal is there -/
theorem LoadJ.has {d : RD} {img : List UInt8} {ds : List (List UInt8)} {T : Nat} (hi : img.length = 32) (hD : D32 ds) (hJ : JMay ds) (h : JD d (some (putL (jbody img ds))) T) {i2 : List UInt8} {d2 : List (List UInt8)} {e : Int} (hl : LoadJ d i2 d2 e) : i2 = img ∧ d2 = ds ∧ e = 0 := by
  obtain ⟨a, b⟩ := h.has
  rcases hl with ⟨c, _⟩ | ⟨_, c⟩
  · exact absurd a c
  · rw [b] at c
    exact readJ_put hi hD hJ c
theorem LoadJ.none {d : RD} {T : Nat} (h : JD d none T) {i2 : List UInt8} {d2 : List (List UInt8)} {e : Int} (hl : LoadJ d i2 d2 e) : i2 = List.replicate 32 0 ∧ d2 = [] ∧ e = 4 := by
  have a := h.gone
  rcases hl with ⟨_, c1, c2, c3⟩ | ⟨c, _⟩
  · exact ⟨c1, c2, by rw [c3, a]⟩
  · rw [a] at c; exact absurd c (by decide)
theorem ResJ {d : RD} {img : List UInt8} {ds : List (List UInt8)} {T : Nat} (hi : img.length = 32) (hD : D32 ds) (hJ : JMay ds) (h : JD d (some (putL (jbody img ds))) T) {im i2 : List UInt8} {d2 : List (List UInt8)} (hl : ∃ i3 d3 e3, LoadJ d i3 d3 e3 ∧ ((e3 = 0 ∧ i3 = im ∧ i2 = i3 ∧ d2 = d3) ∨ (¬ (e3 = 0 ∧ i3 = im) ∧ i2 = im ∧ d2 = []))) : i2 = im ∧ d2 = if im = img then ds else [] := by
  obtain ⟨i3, d3, e3, h1, h2⟩ := hl
  obtain ⟨rfl, rfl, rfl⟩ := LoadJ.has hi hD hJ h h1
  rcases h2 with ⟨_, rfl, rfl, rfl⟩ | ⟨a, rfl, rfl⟩
  · exact ⟨rfl, (if_pos rfl).symm⟩
  · exact ⟨rfl, (if_neg (fun q => a ⟨rfl, q.symm⟩)).symm⟩
theorem JD.small {d : RD} {b : Option (List UInt8)} {T : Nat} (h : JD d b T) (hb : (b.getD []).length ≤ 1000000) : (d.readB jNow).length ≤ 1000000 := by
  obtain ⟨F, ha, hF⟩ := h.at_
  rw [ha.readB, hF]
  exact hb
theorem JD.nr {d : RD} {b : Option (List UInt8)} {T : Nat} (h : JD d b T) : ∀ c ∈ d.waits, c.1 ≠ 2 := by
  rw [h.waits]
  intro c hc
  cases hc
theorem JD.clearJ1 {d : RD} {l : List UInt8} {T : Nat} (h : JD d (some l) T) : ∃ d', d.clearJ = (d', 0) ∧ JD d' none T := by
  obtain ⟨a, b⟩ := h.clear
  exact ⟨_, by rw [RD.clearJ, if_neg (by rw [h.has.1]; decide), if_neg (by rw [h.has.1]; decide), a], b⟩
theorem JD.clearJ2 {d : RD} {T : Nat} (h : JD d none T) : d.clearJ = (d, 0) := by rw [RD.clearJ, if_pos h.gone]
theorem journalSavesC {img other : List UInt8} {A : Option Addr} {n c : Nat} {ds : List (List UInt8)} {K : Option Addr} {mk ck : Nat} {bs : List Bool} (hi : img.length = 32) (hds : D32 ds) (hn : n ≤ 140737488351232) (hck : mk ≤ ck) (hmk : mk ≤ 140737488351232) (ho : other.length = 32) : Con Try.prog 3 [.agg (b8s img ++ [Value.slice A n c]).toArray, .slice K mk ck, .agg (b8s other).toArray] [] [RRd 32 A n (dc ds), RRd 1 K mk (bools bs)] (fun v_ X_ S_ => v_ = (.bool true) ∧ X_ = [] ∧ S_ = []) := by
  have hgD := goodL_D32 hds
  have hgl := goodL_length hds
  have hgJ : JMay (goodL ds) := ⟨goodL_rise ds, by omega⟩
  have hjl := jbody_length hi hgD
  have hpl : (putL (jbody img (goodL ds))).length = (jbody img (goodL ds)).length + 4 := putL_length _
  have j0 : JD (RD.new 2000) none 0 := JD.new
  obtain ⟨d1, q1, j1⟩ := j0.save (l := putL (jbody img (goodL ds))) (by omega)
  refine henter (N := 112) Try.func3 rfl rfl (by simp) fun b => ?_
  refine hfactC (fun m => rdX (m.rd 0 rfl)) ?_
  rintro ⟨hl_r, hA_r⟩
  refine hfactC (fun m => rdX (m.rd 1 rfl)) ?_
  rintro ⟨hl_rk, hA_rk⟩
  refine hseq <| hreg <| ?_
  refine hx (xh_box rfl (fun g3 => ?_))
  refine hx (xh_box rfl (fun g5 => ?_))
  refine hy (fun _ => y_assign rfl) <| hend <| hmemQ (X' := [_, _]) (S' := [_, _]) (fun _ m => m) <| hthen <| hseq <| hreg <| ?_
  refine hx (xh_call rfl Try.call4 (jbeginC) [] rfl [] rfl ?_)
  rintro _ _ _ ⟨g, st, rfl, rfl, rfl, hD0⟩
  refine hy (fun _ => y_assign rfl) <| hend <| hsub (ρ' := [(7, _), (6, _), (5, _), (3, _), (0, _), (1, _), (2, _)]) ⟨rfl, rfl, rfl, rfl, rfl, rfl, rfl, trivial⟩ <| hmemQ (X' := [_, _, _]) (S' := [_, _]) (fun _ m => m) <| hthen <| hseq <| hseq <| hreg <| hy (fun _ => y_move rfl) <| hy (fun _ => y_eqPn rfl rfl (by kernel_rfl)) <| hend <| hsub (ρ' := [(22, _), (7, _), (6, _), (5, _), (3, _), (0, _), (1, _), (2, _)]) ⟨rfl, rfl, rfl, rfl, rfl, rfl, rfl, rfl, trivial⟩ <| hthen <| ?_
  refine hiff rfl (rfl) ?_
  refine hmemC (fun w m => m.eqX 1 rfl (show _ = RBlk g5 23 (b8s other) from congrArg (RBlk _ _) (cells_agg _))) ?_
  refine hcskip <| hthen <| hseq <| hreg <| hy (fun m => yV (y_ldN rfl ag26 sz26 (jlen hi) ((m.blk 2 rfl).cells0)) ((rfl : _ = Value.agg (b8s img ++ [Value.slice A n c]).toArray))) <| ?_
  refine hx (xh_call rfl Try.call5 (rgoodC hi hds hn) [] rfl [0] rfl ?_)
  rintro _ _ _ ⟨v, rfl, rfl, rfl⟩
  refine hfactL (fun m => (m.own 0 rfl).slice) ?_
  rintro ⟨A_x, c_x, rfl, hc_x⟩
  refine hfactL (fun m => (m.ord 0 rfl).2.1) fun hA_x => ?_
  refine hx (xh_alloc ti26 (fun g8 => ?_))
  refine hx0 (xh_stA 0 rfl rfl rfl sz26 (jlen hi) jone rfl ?_)
  refine hend <| hsub (ρ' := [(8, _), (22, _), (7, _), (6, _), (5, _), (3, _), (0, _), (1, _), (2, _)]) ⟨rfl, rfl, rfl, rfl, rfl, rfl, rfl, rfl, rfl, trivial⟩ <| hmemQ (X' := [_, _, _, _, _]) (S' := [_, _]) (fun _ m => m) <| hthen <| hseq <| hreg <| hy (fun _ => y_move rfl) <| ?_
  refine hx (xh_call rfl Try.call6 (jloadC hD0 (j0.small (Nat.zero_le _))) [3] rfl [] rfl ?_)
  rintro _ _ _ ⟨img2, v2, ds2, err, rfl, rfl, rfl, hL0⟩
  refine hfactL (fun m => (m.own 1 rfl).slice) ?_
  rintro ⟨A_x2, c_x2, rfl, hc_x2⟩
  refine hfactL (fun m => (m.ord 1 rfl).2.1) fun hA_x2 => ?_
  refine hy (fun _ => y_move rfl) <| hy (fun _ => y_extract rfl rfl) <| hy (fun _ => y_extract rfl rfl) <| ?_
  refine hx (xh_alloc ti31 (fun g9 => ?_))
  obtain ⟨hLi, hLD, hL0⟩ := hL0
  obtain ⟨_, _, rfl⟩ := LoadJ.none j0 hL0
  refine hx0 (xh_stA 0 rfl rfl rfl sz31 (jlen hLi) jone rfl ?_)
  refine hy (fun _ => y_assign rfl) <| hend <| hsub (ρ' := [(10, _), (8, _), (22, _), (7, _), (6, _), (5, _), (3, _), (0, _), (1, _), (2, _)]) ⟨rfl, rfl, rfl, rfl, rfl, rfl, rfl, rfl, rfl, rfl, trivial⟩ <| hmemQ (X' := [_, _, _, _, _, _, _]) (S' := [_, _]) (fun _ m => m) <| hthen <| hseq <| hseq <| hreg <| hy (fun _ => y_move rfl) <| hy (fun _ => yF (y_neq rfl rfl) (rfl)) <| hy (fun _ => y_move rfl) <| hyg (o := _) rfl rfl rfl (fun _ => y_move rfl) <| hyg (o := _) rfl rfl rfl (fun m => yV (y_ldN rfl ag26 sz26 (jlen hi) ((m.blk 3 rfl).cells0)) ((rfl : _ = Value.agg (b8s img ++ [Value.slice A_x (goodL ds).length c_x]).toArray))) <| ?_
  refine hxg (o := _) rfl rfl rfl (xh_call rfl Try.call8 (ofJC hi) [] rfl [] rfl ?_)
  rintro _ _ _ ⟨rfl, rfl, rfl⟩
  refine hxg (o := _) rfl rfl rfl (xh_calll rfl Try.call7 (jsaveC hD0 (by decide) hi hgD (by omega) hgJ) [1] rfl (.x 3 rfl .own .nil) ?_)
  rintro _ _ _ ⟨st1, rfl, rfl, rfl, hD1⟩
  refine ⟨rfl, ?_⟩
  rw [q1] at hD1 ⊢
  refine hyg (o := _) rfl rfl rfl (fun _ => y_neq rfl rfl) <| hy (fun _ => y_pickF rfl rfl) <| hend <| hsub (ρ' := [(38, _), (10, _), (8, _), (22, _), (7, _), (6, _), (5, _), (3, _), (0, _), (1, _), (2, _)]) ⟨rfl, rfl, rfl, rfl, rfl, rfl, rfl, rfl, rfl, rfl, rfl, trivial⟩ <| hmemQ (X' := [_, _, _, _, _, _, _]) (S' := [_, _]) (fun _ m => m) <| hthen <| ?_
  refine hiff rfl (rfl) ?_
  refine hmemC (fun w m => m.asV 1 rfl (View.takeV (k := min mk 9) (Nat.min_le_left _ _))) ?_
  refine hfactC (fun m => rdX (m.rd 0 rfl)) ?_
  rintro ⟨hl_rf, hA_rf⟩
  have hbt : (bools bs).take (min mk 9 * 1) = bools (bs.take (min mk 9)) := by rw [Nat.mul_one]; simp [bools, List.map_take]
  rw [hbt]
  have j2 := j1.restart (bs.take (min mk 9))
  have hsm : ((some (putL (jbody img (goodL ds)))).getD []).length ≤ 1000000 := by show (putL (jbody img (goodL ds))).length ≤ _; omega
  refine hcskip <| hthen <| hseq <| hreg <| hy (fun _ => y_move rfl) <| hy (fun _ => y_move rfl) <| hy (fun _ => y_move rfl) <| hy (fun _ => y_lenS rfl Try.underlying27) <| hy (fun _ => y_min rfl rfl) <| hy (fun _ => y_slTo rfl rfl Try.underlying27 sz4 (show ((min mk 9 : Nat) : Int) = _ by omega) (by omega)) <| ?_
  refine hx (xh_call rfl Try.call9 (drestartC hD1 (by decide) j1.nr (by omega)) [0] rfl [0] rfl ?_)
  rintro _ _ _ ⟨st12, rfl, rfl, rfl, hD2⟩
  refine hend <| hsub (ρ' := [(38, _), (10, _), (8, _), (22, _), (7, _), (6, _), (5, _), (3, _), (0, _), (1, _), (2, _)]) ⟨rfl, rfl, rfl, rfl, rfl, rfl, rfl, rfl, rfl, rfl, rfl, trivial⟩ <| hmemQ (X' := [_, _, _, _, _, _, _]) (S' := [_, _, _]) (fun _ m => m) <| hthen <| hseq <| hreg <| hy (fun _ => y_move rfl) <| ?_
  refine hx (xh_call rfl Try.call6 (jloadC hD2 (j2.small hsm)) [0] rfl [] rfl ?_)
  rintro _ _ _ ⟨img3, v3, ds3, err2, rfl, rfl, rfl, hL1⟩
  refine hfactL (fun m => (m.own 1 rfl).slice) ?_
  rintro ⟨A_x3, c_x3, rfl, hc_x3⟩
  refine hfactL (fun m => (m.ord 1 rfl).2.1) fun hA_x3 => ?_
  refine hy (fun _ => y_move rfl) <| hy (fun _ => y_extract rfl rfl) <| hy (fun _ => y_extract rfl rfl) <| ?_
  refine hx (xh_alloc ti31 (fun g11 => ?_))
  obtain ⟨hLi1, hLD1, hL1⟩ := hL1
  obtain ⟨hx1, hx2, rfl⟩ := LoadJ.has hi hgD hgJ j2 hL1
  refine hx0 (xh_stA 0 rfl rfl rfl sz31 (jlen hLi1) jone rfl ?_)
  refine hy (fun _ => y_assign rfl) <| hend <| hsub (ρ' := [(12, _), (11, _), (38, _), (10, _), (8, _), (22, _), (7, _), (6, _), (5, _), (3, _), (0, _), (1, _), (2, _)]) ⟨rfl, rfl, rfl, rfl, rfl, rfl, rfl, rfl, rfl, rfl, rfl, rfl, rfl, trivial⟩ <| hmemQ (X' := [_, _, _, _, _, _, _, _, _]) (S' := [_, _, _]) (fun _ m => m) <| hthen <| hseq <| hreg <| hy (fun _ => y_move rfl) <| hy (fun _ => y_fld rfl fa26_0 (by decide)) <| hy (fun m => yV (y_ldN rfl ag23 sz23 (by rw [b8s_length]; exact hi) (fun j u hu => by rw [add_add]; exact (m.blk 5 rfl).cells0 (0 + j) u (by rw [Nat.zero_add]; exact (List.getElem?_append_left (List.getElem?_eq_some_iff.1 hu).1).trans hu))) ((rfl : _ = Value.agg (b8s img).toArray))) <| ?_
  refine hx (xh_call rfl Try.call10 (jresumeC hD2 (j2.small hsm) hi) [1] rfl [] rfl ?_)
  rintro _ _ _ ⟨img4, v4, ds4, rfl, rfl, rfl, hR1⟩
  refine hfactL (fun m => (m.own 1 rfl).slice) ?_
  rintro ⟨A_x4, c_x4, rfl, hc_x4⟩
  refine hfactL (fun m => (m.ord 1 rfl).2.1) fun hA_x4 => ?_
  refine hx (xh_alloc ti31 (fun g13 => ?_))
  obtain ⟨hRi1, hRD1, hR1⟩ := hR1
  obtain ⟨hy1, hy2⟩ := ResJ hi hgD hgJ j2 hR1
  rw [if_pos rfl] at hy2
  refine hx0 (xh_stA 0 rfl rfl rfl sz31 (jlen hRi1) jone rfl ?_)
  refine hend <| hsub (ρ' := [(13, _), (12, _), (11, _), (38, _), (10, _), (8, _), (22, _), (7, _), (6, _), (5, _), (3, _), (0, _), (1, _), (2, _)]) ⟨rfl, rfl, rfl, rfl, rfl, rfl, rfl, rfl, rfl, rfl, rfl, rfl, rfl, rfl, trivial⟩ <| hmemQ (X' := [_, _, _, _, _, _, _, _, _, _, _]) (S' := [_, _, _]) (fun _ m => m) <| hthen <| hseq <| hreg <| hy (fun _ => y_move rfl) <| hy (fun m => yV (y_ldN rfl ag23 sz23 (by rw [b8s_length]; exact ho) ((m.blk 9 rfl).cells0)) ((rfl : _ = Value.agg (b8s other).toArray))) <| ?_
  refine hx (xh_call rfl Try.call10 (jresumeC hD2 (j2.small hsm) ho) [1] rfl [] rfl ?_)
  rintro _ _ _ ⟨img5, v5, ds5, rfl, rfl, rfl, hR2⟩
  refine hfactL (fun m => (m.own 1 rfl).slice) ?_
  rintro ⟨A_x5, c_x5, rfl, hc_x5⟩
  refine hfactL (fun m => (m.ord 1 rfl).2.1) fun hA_x5 => ?_
  refine hx (xh_alloc ti31 (fun g14 => ?_))
  obtain ⟨hRi2, hRD2, hR2⟩ := hR2
  obtain ⟨hz1, hz2⟩ := ResJ hi hgD hgJ j2 hR2
  refine hx0 (xh_stA 0 rfl rfl rfl sz31 (jlen hRi2) jone rfl ?_)
  refine hend <| hsub (ρ' := [(14, _), (13, _), (12, _), (11, _), (38, _), (10, _), (8, _), (22, _), (7, _), (6, _), (5, _), (3, _), (0, _), (1, _), (2, _)]) ⟨rfl, rfl, rfl, rfl, rfl, rfl, rfl, rfl, rfl, rfl, rfl, rfl, rfl, rfl, rfl, trivial⟩ <| hmemQ (X' := [_, _, _, _, _, _, _, _, _, _, _, _, _]) (S' := [_, _, _]) (fun _ m => m) <| hthen <| hseq <| hreg <| hy (fun m => yV (y_ldN rfl ag23 sz23 (by rw [b8s_length]; exact ho) ((m.blk 11 rfl).cells0)) ((rfl : _ = Value.agg (b8s other).toArray))) <| hy (fun _ => y_build ti26 rfl rfl (by kernel_rfl) (bld_jour ho rfl rfl pl26_0)) <| ?_
  refine hx (xh_alloc ti26 (fun g15 => ?_))
  refine hx0 (xh_stA 0 rfl rfl rfl sz26 (jlen ho) jone rfl ?_)
  refine hend <| hsub (ρ' := [(15, _), (14, _), (13, _), (12, _), (11, _), (38, _), (10, _), (8, _), (22, _), (7, _), (6, _), (5, _), (3, _), (0, _), (1, _), (2, _)]) ⟨rfl, rfl, rfl, rfl, rfl, rfl, rfl, rfl, rfl, rfl, rfl, rfl, rfl, rfl, rfl, rfl, trivial⟩ <| hmemQ (X' := [_, _, _, _, _, _, _, _, _, _, _, _, _, _]) (S' := [_, _, _]) (fun _ m => m) <| hthen <| hseq <| hseq <| hreg <| hy (fun m => yV (y_ldN rfl ag23 sz23 (by rw [b8s_length]; exact ho) ((m.blk 12 rfl).cells0)) ((rfl : _ = Value.agg (b8s other).toArray))) <| hy (fun _ => y_fld rfl fa26_0 (by decide)) <| hy (fun m => yV (y_ldN rfl ag23 sz23 (by rw [b8s_length]; exact hi) (fun j u hu => by rw [add_add]; exact (m.blk 10 rfl).cells0 (0 + j) u (by rw [Nat.zero_add]; exact (List.getElem?_append_left (List.getElem?_eq_some_iff.1 hu).1).trans hu))) ((rfl : _ = Value.agg (b8s img).toArray))) <| hy (fun _ => y_eqD23 rfl rfl ho hi) <| hend <| hsub (ρ' := [(63, _), (15, _), (14, _), (13, _), (12, _), (11, _), (38, _), (10, _), (8, _), (22, _), (7, _), (6, _), (5, _), (3, _), (0, _), (1, _), (2, _)]) ⟨rfl, rfl, rfl, rfl, rfl, rfl, rfl, rfl, rfl, rfl, rfl, rfl, rfl, rfl, rfl, rfl, rfl, trivial⟩ <| hthen <| ?_
  have hn3 : ds3.length ≤ 140737488351232 := by rw [hx2]; omega
  have hn4 : ds4.length ≤ 140737488351232 := by rw [hy2]; omega
  have hn5 : ds5.length ≤ 140737488351232 := by rw [hz2]; split <;> first | omega | exact Nat.zero_le _
  refine hif rfl (fun hq => ?_) (fun hq => ?_)
  · refine hreg <| hy (fun m => yV (y_ldN rfl ag26 sz26 (jlen hi) ((m.blk 10 rfl).cells0)) ((rfl : _ = Value.agg (b8s img ++ [Value.slice A_x (goodL ds).length c_x]).toArray))) <| ?_
    have hqo : other = img := hq
    refine hx0 (xh_stA 0 rfl rfl rfl sz26 (jlen hi) jone (jlen ho) ?_)
    refine hmemL (fun w m => m.eqX 0 rfl (show _ = RBlk g15 26 (b8s other ++ [Value.slice A_x (goodL ds).length c_x]) from by rw [hqo])) ?_
    refine hend <| hsub (ρ' := [(63, _), (15, _), (14, _), (13, _), (12, _), (11, _), (38, _), (10, _), (8, _), (22, _), (7, _), (6, _), (5, _), (3, _), (0, _), (1, _), (2, _)]) ⟨rfl, rfl, rfl, rfl, rfl, rfl, rfl, rfl, rfl, rfl, rfl, rfl, rfl, rfl, rfl, rfl, rfl, trivial⟩ <| hmemQ (X' := [_, _, _, _, _, _, _, _, _, _, _, _, _, _]) (S' := [_, _, _]) (fun _ m => m) <| hthen <| hseq <| hseq <| hdrw [4, 6, 11, 13, 18, 20] [(0, some 6), (1, some 6), (2, some 6), (3, some 6), (5, some 6), (4, none), (6, none), (7, some 6), (8, some 2), (9, some 2), (10, some 2), (12, some 3), (11, none), (13, none), (14, some 4), (15, some 4), (16, some 4), (17, some 4), (19, some 5), (18, none), (20, none), (21, some 6), (22, some 6)] (by kernel_rfl) (by kernel_rfl) rfl 99 <| htyU (y_move rfl) <| htyU (yF (y_neq rfl rfl) (rfl)) <| htyU (y_move rfl) <| htyg (o := _) rfl rfl rfl (fun m => yV (y_ldN rfl ag31 sz31 (jlen hLi1) ((m.blk 6 rfl).cells0)) ((rfl : _ = Value.agg (b8s img3 ++ [Value.slice A_x3 ds3.length c_x3]).toArray))) <| htyg (o := _) rfl rfl rfl (fun m => yV (y_ldN rfl ag26 sz26 (jlen hi) ((m.blk 10 rfl).cells0)) ((rfl : _ = Value.agg (b8s img ++ [Value.slice A_x (goodL ds).length c_x]).toArray))) <| ?_
    refine htxg (o := _) rfl rfl rfl (xh_call rfl Try.call12 (asJC hLi1) [] rfl [] rfl ?_)
    rintro _ _ _ ⟨rfl, rfl, rfl⟩
    refine ⟨(fun _ => wk [0, 0, 0, 0, 0, 0, 0, 0, 0, 0, 0, 0, 0, 0] [0, 1, 2] rfl rfl), ?_⟩
    refine htxg (o := _) rfl rfl rfl (xh_calll rfl Try.call11 (rsameC hLi1 hi hLD1 hgD hn3) [] rfl (.x 7 rfl .own (.x 11 rfl .own .nil)) ?_)
    rintro _ _ _ ⟨rfl, rfl, rfl⟩
    refine ⟨rfl, ?_⟩
    refine ⟨(fun _ => wk [0, 0, 0, 0, 0, 0, 0, 0, 0, 0, 0, 0, 0, 0] [0, 1, 2] rfl rfl), ?_⟩
    refine htyUg (o := _) rfl rfl rfl (yF (y_notp rfl) ((decide_eq_false (fun h => h ⟨hx2, hx1⟩)))) <| htyU (y_pickF rfl rfl) <| htyU (y_move rfl) <| htyg (o := _) rfl rfl rfl (fun m => yV (y_ldN rfl ag31 sz31 (jlen hRi1) ((m.blk 4 rfl).cells0)) ((rfl : _ = Value.agg (b8s img4 ++ [Value.slice A_x4 ds4.length c_x4]).toArray))) <| htyg (o := _) rfl rfl rfl (fun m => yV (y_ldN rfl ag26 sz26 (jlen hi) ((m.blk 10 rfl).cells0)) ((rfl : _ = Value.agg (b8s img ++ [Value.slice A_x (goodL ds).length c_x]).toArray))) <| ?_
    refine htxg (o := _) rfl rfl rfl (xh_call rfl Try.call12 (asJC hRi1) [] rfl [] rfl ?_)
    rintro _ _ _ ⟨rfl, rfl, rfl⟩
    refine ⟨(fun _ => wk [0, 0, 0, 0, 0, 0, 0, 0, 0, 0, 0, 0, 0, 0] [0, 1, 2] rfl rfl), ?_⟩
    refine htxg (o := _) rfl rfl rfl (xh_calll rfl Try.call11 (rsameC hRi1 hi hRD1 hgD hn4) [] rfl (.x 5 rfl .own (.x 11 rfl .own .nil)) ?_)
    rintro _ _ _ ⟨rfl, rfl, rfl⟩
    refine ⟨rfl, ?_⟩
    refine ⟨(fun _ => wk [0, 0, 0, 0, 0, 0, 0, 0, 0, 0, 0, 0, 0, 0] [0, 1, 2] rfl rfl), ?_⟩
    refine htyUg (o := _) rfl rfl rfl (yF (y_notp rfl) ((decide_eq_false (fun h => h ⟨hy2, hy1⟩)))) <| htyU (y_pickF rfl rfl) <| htyU (y_move rfl) <| htyg (o := _) rfl rfl rfl (fun m => yV (y_ldN rfl ag31 sz31 (jlen hRi2) ((m.blk 1 rfl).cells0)) ((rfl : _ = Value.agg (b8s img5 ++ [Value.slice A_x5 ds5.length c_x5]).toArray))) <| htyg (o := _) rfl rfl rfl (fun m => yV (y_ldN rfl ag26 sz26 (jlen ho) ((m.blk 0 rfl).cells0)) ((rfl : _ = Value.agg (b8s other ++ [Value.slice A_x (goodL ds).length c_x]).toArray))) <| ?_
    refine htxg (o := _) rfl rfl rfl (xh_call rfl Try.call12 (asJC hRi2) [] rfl [] rfl ?_)
    rintro _ _ _ ⟨rfl, rfl, rfl⟩
    refine ⟨(fun _ => wk [0, 0, 0, 0, 0, 0, 0, 0, 0, 0, 0, 0, 0, 0] [0, 1, 2] rfl rfl), ?_⟩
    refine htxg (o := _) rfl rfl rfl (xh_calll rfl Try.call11 (rsameC hRi2 ho hRD2 hgD hn5) [] rfl (.x 3 rfl .own (.x 11 rfl .own .nil)) ?_)
    rintro _ _ _ ⟨rfl, rfl, rfl⟩
    refine ⟨rfl, ?_⟩
    refine ⟨(fun _ => wk [0, 0, 0, 0, 0, 0, 0, 0, 0, 0, 0, 0, 0, 0] [0, 1, 2] rfl rfl), ?_⟩
    refine htyUg (o := _) rfl rfl rfl (yF (y_notp rfl) ((decide_eq_false (fun h => h ⟨(by rw [hz2, if_pos hqo]), hz1⟩)))) <| htyU (y_pickF rfl rfl) <| htend <| hsub (ρ' := [(87, _), (63, _), (15, _), (14, _), (13, _), (12, _), (11, _), (38, _), (10, _), (8, _), (22, _), (7, _), (6, _), (5, _), (3, _), (0, _), (1, _), (2, _)]) ⟨rfl, rfl, rfl, rfl, rfl, rfl, rfl, rfl, rfl, rfl, rfl, rfl, rfl, rfl, rfl, rfl, rfl, rfl, trivial⟩ <| hmemQ (X' := [_, _, _, _, _, _, _, _, _, _, _, _, _, _]) (S' := [_, _, _]) (fun _ m => m) <| hthen <| ?_
    refine hiff rfl (rfl) ?_
    obtain ⟨d3, q3, j3⟩ := j2.clearJ1
    refine hcskip <| hthen <| hseq <| hreg <| hy (fun _ => y_move rfl) <| ?_
    refine hx (xh_call rfl Try.call13 (jclearC hD2 (by decide)) [2] rfl [] rfl ?_)
    rintro _ _ _ ⟨st13, rfl, rfl, rfl, hD3⟩
    rw [show ((d1, (0 : Int)).fst.restart (List.take (min mk 9) bs)).clearJ = (d3, 0) from q3] at hD3 ⊢
    have q4 : (d3, (0 : Int)).fst.clearJ = (d3, 0) := j3.clearJ2
    refine hy (fun _ => y_assign rfl) <| hend <| hsub (ρ' := [(16, _), (87, _), (63, _), (15, _), (14, _), (13, _), (12, _), (11, _), (38, _), (10, _), (8, _), (22, _), (7, _), (6, _), (5, _), (3, _), (0, _), (1, _), (2, _)]) ⟨rfl, rfl, rfl, rfl, rfl, rfl, rfl, rfl, rfl, rfl, rfl, rfl, rfl, rfl, rfl, rfl, rfl, rfl, rfl, trivial⟩ <| hmemQ (X' := [_, _, _, _, _, _, _, _, _, _, _, _, _, _]) (S' := [_, _, _]) (fun _ m => m) <| hthen <| hseq <| hreg <| hy (fun _ => y_move rfl) <| ?_
    refine hx (xh_call rfl Try.call13 (jclearC hD3 (by decide)) [0] rfl [] rfl ?_)
    rintro _ _ _ ⟨st14, rfl, rfl, rfl, hD4⟩
    rw [q4] at hD4 ⊢
    refine hmemL (fun w m => m.addS (r' := RRd 1 none 0 []) (.refl _ _) (Rd.nil _ _ _) (fun k hk => absurd rfl hk.1)) ?_
    have hA_zz : 0 < 0 → (none : Option Addr) ≠ none := fun h => absurd h (by decide)
    refine hy (fun _ => y_assign rfl) <| hend <| hsub (ρ' := [(17, _), (16, _), (87, _), (63, _), (15, _), (14, _), (13, _), (12, _), (11, _), (38, _), (10, _), (8, _), (22, _), (7, _), (6, _), (5, _), (3, _), (0, _), (1, _), (2, _)]) ⟨rfl, rfl, rfl, rfl, rfl, rfl, rfl, rfl, rfl, rfl, rfl, rfl, rfl, rfl, rfl, rfl, rfl, rfl, rfl, rfl, trivial⟩ <| hmemQ (X' := [_, _, _, _, _, _, _, _, _, _, _, _, _, _]) (S' := [_, _, _, _]) (fun _ m => m) <| hthen <| hseq <| hreg <| hy (fun _ => y_move rfl) <| ?_
    refine hx (xh_call rfl Try.call9 (drestartC hD4 (by decide) j3.nr (Nat.le_refl _) (bs := [])) [0] rfl [0] rfl ?_)
    rintro _ _ _ ⟨st15, rfl, rfl, rfl, hD5⟩
    refine hend <| hsub (ρ' := [(17, _), (16, _), (87, _), (63, _), (15, _), (14, _), (13, _), (12, _), (11, _), (38, _), (10, _), (8, _), (22, _), (7, _), (6, _), (5, _), (3, _), (0, _), (1, _), (2, _)]) ⟨rfl, rfl, rfl, rfl, rfl, rfl, rfl, rfl, rfl, rfl, rfl, rfl, rfl, rfl, rfl, rfl, rfl, rfl, rfl, rfl, trivial⟩ <| hmemQ (X' := [_, _, _, _, _, _, _, _, _, _, _, _, _, _]) (S' := [_, _, _, _]) (fun _ m => m) <| hthen <| hseq <| hreg <| ?_
    have j4 := j3.restart []
    refine hy (fun _ => y_move rfl) <| ?_
    refine hx (xh_call rfl Try.call6 (jloadC hD5 (j4.small (Nat.zero_le _))) [0] rfl [] rfl ?_)
    rintro _ _ _ ⟨img6, v6, ds6, err3, rfl, rfl, rfl, hL6⟩
    refine hfactL (fun m => (m.own 1 rfl).slice) ?_
    rintro ⟨A_x6, c_x6, rfl, hc_x6⟩
    refine hfactL (fun m => (m.ord 1 rfl).2.1) fun hA_x6 => ?_
    refine hy (fun _ => y_move rfl) <| hy (fun _ => y_extract rfl rfl) <| hy (fun _ => y_extract rfl rfl) <| ?_
    refine hx (xh_alloc ti31 (fun g18 => ?_))
    obtain ⟨hLi6, hLD6, hL6⟩ := hL6
    obtain ⟨_, _, rfl⟩ := LoadJ.none j4 hL6
    refine hx0 (xh_stA 0 rfl rfl rfl sz31 (jlen hLi6) jone rfl ?_)
    refine hy (fun _ => y_assign rfl) <| hend <| hsub (ρ' := [(19, _), (17, _), (16, _), (87, _), (63, _), (15, _), (14, _), (13, _), (12, _), (11, _), (38, _), (10, _), (8, _), (22, _), (7, _), (6, _), (5, _), (3, _), (0, _), (1, _), (2, _)]) ⟨rfl, rfl, rfl, rfl, rfl, rfl, rfl, rfl, rfl, rfl, rfl, rfl, rfl, rfl, rfl, rfl, rfl, rfl, rfl, rfl, rfl, trivial⟩ <| hmemQ (X' := [_, _, _, _, _, _, _, _, _, _, _, _, _, _, _, _]) (S' := [_, _, _, _]) (fun _ m => m) <| hthen <| hseq <| hreg <| hy (fun _ => y_move rfl) <| hy (fun _ => yT (y_eql rfl rfl) (rfl)) <| hy (fun _ => y_move rfl) <| hyg (o := _) rfl rfl rfl (fun _ => y_move rfl) <| hyg (o := _) rfl rfl rfl (fun _ => yT (y_eql rfl rfl) (rfl)) <| hy (fun _ => y_pickT rfl rfl) <| hy (fun _ => y_move rfl) <| hyg (o := _) rfl rfl rfl (fun _ => y_move rfl) <| hyg (o := _) rfl rfl rfl (fun _ => yT (y_eql rfl rfl) (rfl)) <| hy (fun _ => y_pickT rfl rfl) <| hy (fun _ => y_move rfl) <| ?_
    refine hxg (o := _) rfl rfl rfl (xh_call rfl Try.call14 (lives17C) [] rfl [] rfl ?_)
    rintro _ _ _ ⟨rfl, rfl, rfl⟩
    refine hy (fun _ => y_pickT rfl rfl) <| hy (fun _ => y_assign rfl) <| hend <| hsub (ρ' := [(6, _), (19, _), (17, _), (16, _), (87, _), (63, _), (15, _), (14, _), (13, _), (12, _), (11, _), (38, _), (10, _), (8, _), (22, _), (7, _), (5, _), (3, _), (0, _), (1, _), (2, _)]) ⟨rfl, rfl, rfl, rfl, rfl, rfl, rfl, rfl, rfl, rfl, rfl, rfl, rfl, rfl, rfl, rfl, rfl, rfl, rfl, rfl, rfl, trivial⟩ <| hmemQ (X' := [_, _, _, _, _, _, _, _, _, _, _, _, _, _, _, _]) (S' := [_, _, _, _]) (fun _ m => m) <| hthen <| hret <| ?_
    exact hret1 trivial rfl rfl [] rfl [] rfl ⟨rfl, rfl, rfl⟩
  · refine hmemC (fun w m => m.addX (r' := ROwn 23 32 (.slice none 0 0) 0 []) (.refl _ _) (Own.nil _ _ _ _) (fun k hk => hk.elim)) ?_
    refine hcskip <| hthen <| hseq <| hseq <| hdrw [4, 6, 11, 13, 18, 20] [(0, some 6), (1, some 6), (2, some 6), (3, some 6), (5, some 6), (4, none), (6, none), (7, some 6), (8, some 2), (9, some 2), (10, some 2), (12, some 3), (11, none), (13, none), (14, some 4), (15, some 4), (16, some 4), (17, some 4), (19, some 5), (18, none), (20, none), (21, some 6), (22, some 6)] (by kernel_rfl) (by kernel_rfl) rfl 99 <| htyU (y_move rfl) <| htyU (yF (y_neq rfl rfl) (rfl)) <| htyU (y_move rfl) <| htyg (o := _) rfl rfl rfl (fun m => yV (y_ldN rfl ag31 sz31 (jlen hLi1) ((m.blk 7 rfl).cells0)) ((rfl : _ = Value.agg (b8s img3 ++ [Value.slice A_x3 ds3.length c_x3]).toArray))) <| htyg (o := _) rfl rfl rfl (fun m => yV (y_ldN rfl ag26 sz26 (jlen hi) ((m.blk 11 rfl).cells0)) ((rfl : _ = Value.agg (b8s img ++ [Value.slice A_x (goodL ds).length c_x]).toArray))) <| ?_
    refine htxg (o := _) rfl rfl rfl (xh_call rfl Try.call12 (asJC hLi1) [] rfl [] rfl ?_)
    rintro _ _ _ ⟨rfl, rfl, rfl⟩
    refine ⟨(fun _ => wk [0, 0, 0, 0, 0, 0, 0, 0, 0, 0, 0, 0, 0, 0, 0] [0, 1, 2] rfl rfl), ?_⟩
    refine htxg (o := _) rfl rfl rfl (xh_calll rfl Try.call11 (rsameC hLi1 hi hLD1 hgD hn3) [] rfl (.x 8 rfl .own (.x 12 rfl .own .nil)) ?_)
    rintro _ _ _ ⟨rfl, rfl, rfl⟩
    refine ⟨rfl, ?_⟩
    refine ⟨(fun _ => wk [0, 0, 0, 0, 0, 0, 0, 0, 0, 0, 0, 0, 0, 0, 0] [0, 1, 2] rfl rfl), ?_⟩
    refine htyUg (o := _) rfl rfl rfl (yF (y_notp rfl) ((decide_eq_false (fun h => h ⟨hx2, hx1⟩)))) <| htyU (y_pickF rfl rfl) <| htyU (y_move rfl) <| htyg (o := _) rfl rfl rfl (fun m => yV (y_ldN rfl ag31 sz31 (jlen hRi1) ((m.blk 5 rfl).cells0)) ((rfl : _ = Value.agg (b8s img4 ++ [Value.slice A_x4 ds4.length c_x4]).toArray))) <| htyg (o := _) rfl rfl rfl (fun m => yV (y_ldN rfl ag26 sz26 (jlen hi) ((m.blk 11 rfl).cells0)) ((rfl : _ = Value.agg (b8s img ++ [Value.slice A_x (goodL ds).length c_x]).toArray))) <| ?_
    refine htxg (o := _) rfl rfl rfl (xh_call rfl Try.call12 (asJC hRi1) [] rfl [] rfl ?_)
    rintro _ _ _ ⟨rfl, rfl, rfl⟩
    refine ⟨(fun _ => wk [0, 0, 0, 0, 0, 0, 0, 0, 0, 0, 0, 0, 0, 0, 0] [0, 1, 2] rfl rfl), ?_⟩
    refine htxg (o := _) rfl rfl rfl (xh_calll rfl Try.call11 (rsameC hRi1 hi hRD1 hgD hn4) [] rfl (.x 6 rfl .own (.x 12 rfl .own .nil)) ?_)
    rintro _ _ _ ⟨rfl, rfl, rfl⟩
    refine ⟨rfl, ?_⟩
    refine ⟨(fun _ => wk [0, 0, 0, 0, 0, 0, 0, 0, 0, 0, 0, 0, 0, 0, 0] [0, 1, 2] rfl rfl), ?_⟩
    refine htyUg (o := _) rfl rfl rfl (yF (y_notp rfl) ((decide_eq_false (fun h => h ⟨hy2, hy1⟩)))) <| htyU (y_pickF rfl rfl) <| htyU (y_move rfl) <| htyg (o := _) rfl rfl rfl (fun m => yV (y_ldN rfl ag31 sz31 (jlen hRi2) ((m.blk 2 rfl).cells0)) ((rfl : _ = Value.agg (b8s img5 ++ [Value.slice A_x5 ds5.length c_x5]).toArray))) <| htyg (o := _) rfl rfl rfl (fun m => yV (y_ldN rfl ag26 sz26 (jlen ho) ((m.blk 1 rfl).cells0)) ((rfl : _ = Value.agg (b8s other ++ [Value.slice none 0 0]).toArray))) <| ?_
    refine htxg (o := _) rfl rfl rfl (xh_call rfl Try.call12 (asJC hRi2) [] rfl [] rfl ?_)
    rintro _ _ _ ⟨rfl, rfl, rfl⟩
    refine ⟨(fun _ => wk [0, 0, 0, 0, 0, 0, 0, 0, 0, 0, 0, 0, 0, 0, 0] [0, 1, 2] rfl rfl), ?_⟩
    refine htxg (o := _) rfl rfl rfl (xh_calll rfl Try.call11 (rsameC hRi2 ho hRD2 (show D32 [] from fun x hx => by cases hx) hn5) [] rfl (.x 4 rfl .own (.x 0 rfl .own .nil)) ?_)
    rintro _ _ _ ⟨rfl, rfl, rfl⟩
    refine ⟨rfl, ?_⟩
    refine ⟨(fun _ => wk [0, 0, 0, 0, 0, 0, 0, 0, 0, 0, 0, 0, 0, 0, 0] [0, 1, 2] rfl rfl), ?_⟩
    refine htyUg (o := _) rfl rfl rfl (yF (y_notp rfl) ((decide_eq_false (fun h => h ⟨(by rw [hz2, if_neg hq]), hz1⟩)))) <| htyU (y_pickF rfl rfl) <| htend <| hsub (ρ' := [(87, _), (63, _), (15, _), (14, _), (13, _), (12, _), (11, _), (38, _), (10, _), (8, _), (22, _), (7, _), (6, _), (5, _), (3, _), (0, _), (1, _), (2, _)]) ⟨rfl, rfl, rfl, rfl, rfl, rfl, rfl, rfl, rfl, rfl, rfl, rfl, rfl, rfl, rfl, rfl, rfl, rfl, trivial⟩ <| hmemQ (X' := [_, _, _, _, _, _, _, _, _, _, _, _, _, _, _]) (S' := [_, _, _]) (fun _ m => m) <| hthen <| ?_
    refine hiff rfl (rfl) ?_
    obtain ⟨d3, q3, j3⟩ := j2.clearJ1
    refine hcskip <| hthen <| hseq <| hreg <| hy (fun _ => y_move rfl) <| ?_
    refine hx (xh_call rfl Try.call13 (jclearC hD2 (by decide)) [3] rfl [] rfl ?_)
    rintro _ _ _ ⟨st13, rfl, rfl, rfl, hD3⟩
    rw [show ((d1, (0 : Int)).fst.restart (List.take (min mk 9) bs)).clearJ = (d3, 0) from q3] at hD3 ⊢
    have q4 : (d3, (0 : Int)).fst.clearJ = (d3, 0) := j3.clearJ2
    refine hy (fun _ => y_assign rfl) <| hend <| hsub (ρ' := [(16, _), (87, _), (63, _), (15, _), (14, _), (13, _), (12, _), (11, _), (38, _), (10, _), (8, _), (22, _), (7, _), (6, _), (5, _), (3, _), (0, _), (1, _), (2, _)]) ⟨rfl, rfl, rfl, rfl, rfl, rfl, rfl, rfl, rfl, rfl, rfl, rfl, rfl, rfl, rfl, rfl, rfl, rfl, rfl, trivial⟩ <| hmemQ (X' := [_, _, _, _, _, _, _, _, _, _, _, _, _, _, _]) (S' := [_, _, _]) (fun _ m => m) <| hthen <| hseq <| hreg <| hy (fun _ => y_move rfl) <| ?_
    refine hx (xh_call rfl Try.call13 (jclearC hD3 (by decide)) [0] rfl [] rfl ?_)
    rintro _ _ _ ⟨st14, rfl, rfl, rfl, hD4⟩
    rw [q4] at hD4 ⊢
    refine hmemL (fun w m => m.addS (r' := RRd 1 none 0 []) (.refl _ _) (Rd.nil _ _ _) (fun k hk => absurd rfl hk.1)) ?_
    have hA_zz : 0 < 0 → (none : Option Addr) ≠ none := fun h => absurd h (by decide)
    refine hy (fun _ => y_assign rfl) <| hend <| hsub (ρ' := [(17, _), (16, _), (87, _), (63, _), (15, _), (14, _), (13, _), (12, _), (11, _), (38, _), (10, _), (8, _), (22, _), (7, _), (6, _), (5, _), (3, _), (0, _), (1, _), (2, _)]) ⟨rfl, rfl, rfl, rfl, rfl, rfl, rfl, rfl, rfl, rfl, rfl, rfl, rfl, rfl, rfl, rfl, rfl, rfl, rfl, rfl, trivial⟩ <| hmemQ (X' := [_, _, _, _, _, _, _, _, _, _, _, _, _, _, _]) (S' := [_, _, _, _]) (fun _ m => m) <| hthen <| hseq <| hreg <| hy (fun _ => y_move rfl) <| ?_
    refine hx (xh_call rfl Try.call9 (drestartC hD4 (by decide) j3.nr (Nat.le_refl _) (bs := [])) [0] rfl [0] rfl ?_)
    rintro _ _ _ ⟨st15, rfl, rfl, rfl, hD5⟩
    refine hend <| hsub (ρ' := [(17, _), (16, _), (87, _), (63, _), (15, _), (14, _), (13, _), (12, _), (11, _), (38, _), (10, _), (8, _), (22, _), (7, _), (6, _), (5, _), (3, _), (0, _), (1, _), (2, _)]) ⟨rfl, rfl, rfl, rfl, rfl, rfl, rfl, rfl, rfl, rfl, rfl, rfl, rfl, rfl, rfl, rfl, rfl, rfl, rfl, rfl, trivial⟩ <| hmemQ (X' := [_, _, _, _, _, _, _, _, _, _, _, _, _, _, _]) (S' := [_, _, _, _]) (fun _ m => m) <| hthen <| hseq <| hreg <| ?_
    have j4 := j3.restart []
    refine hy (fun _ => y_move rfl) <| ?_
    refine hx (xh_call rfl Try.call6 (jloadC hD5 (j4.small (Nat.zero_le _))) [0] rfl [] rfl ?_)
    rintro _ _ _ ⟨img6, v6, ds6, err3, rfl, rfl, rfl, hL6⟩
    refine hfactL (fun m => (m.own 1 rfl).slice) ?_
    rintro ⟨A_x6, c_x6, rfl, hc_x6⟩
    refine hfactL (fun m => (m.ord 1 rfl).2.1) fun hA_x6 => ?_
    refine hy (fun _ => y_move rfl) <| hy (fun _ => y_extract rfl rfl) <| hy (fun _ => y_extract rfl rfl) <| ?_
    refine hx (xh_alloc ti31 (fun g18 => ?_))
    obtain ⟨hLi6, hLD6, hL6⟩ := hL6
    obtain ⟨_, _, rfl⟩ := LoadJ.none j4 hL6
    refine hx0 (xh_stA 0 rfl rfl rfl sz31 (jlen hLi6) jone rfl ?_)
    refine hy (fun _ => y_assign rfl) <| hend <| hsub (ρ' := [(19, _), (17, _), (16, _), (87, _), (63, _), (15, _), (14, _), (13, _), (12, _), (11, _), (38, _), (10, _), (8, _), (22, _), (7, _), (6, _), (5, _), (3, _), (0, _), (1, _), (2, _)]) ⟨rfl, rfl, rfl, rfl, rfl, rfl, rfl, rfl, rfl, rfl, rfl, rfl, rfl, rfl, rfl, rfl, rfl, rfl, rfl, rfl, rfl, trivial⟩ <| hmemQ (X' := [_, _, _, _, _, _, _, _, _, _, _, _, _, _, _, _, _]) (S' := [_, _, _, _]) (fun _ m => m) <| hthen <| hseq <| hreg <| hy (fun _ => y_move rfl) <| hy (fun _ => yT (y_eql rfl rfl) (rfl)) <| hy (fun _ => y_move rfl) <| hyg (o := _) rfl rfl rfl (fun _ => y_move rfl) <| hyg (o := _) rfl rfl rfl (fun _ => yT (y_eql rfl rfl) (rfl)) <| hy (fun _ => y_pickT rfl rfl) <| hy (fun _ => y_move rfl) <| hyg (o := _) rfl rfl rfl (fun _ => y_move rfl) <| hyg (o := _) rfl rfl rfl (fun _ => yT (y_eql rfl rfl) (rfl)) <| hy (fun _ => y_pickT rfl rfl) <| hy (fun _ => y_move rfl) <| ?_
    refine hxg (o := _) rfl rfl rfl (xh_call rfl Try.call14 (lives17C) [] rfl [] rfl ?_)
    rintro _ _ _ ⟨rfl, rfl, rfl⟩
    refine hy (fun _ => y_pickT rfl rfl) <| hy (fun _ => y_assign rfl) <| hend <| hsub (ρ' := [(6, _), (19, _), (17, _), (16, _), (87, _), (63, _), (15, _), (14, _), (13, _), (12, _), (11, _), (38, _), (10, _), (8, _), (22, _), (7, _), (5, _), (3, _), (0, _), (1, _), (2, _)]) ⟨rfl, rfl, rfl, rfl, rfl, rfl, rfl, rfl, rfl, rfl, rfl, rfl, rfl, rfl, rfl, rfl, rfl, rfl, rfl, rfl, rfl, trivial⟩ <| hmemQ (X' := [_, _, _, _, _, _, _, _, _, _, _, _, _, _, _, _, _]) (S' := [_, _, _, _]) (fun _ m => m) <| hthen <| hret <| ?_
    exact hret1 trivial rfl rfl [] rfl [] rfl ⟨rfl, rfl, rfl⟩
theorem journalSaves (img : List UInt8) (A : Option Addr) (n c : Nat) (ds : List (List UInt8)) (K : Option Addr) (mk ck : Nat) (zs : List Cell) (other : List UInt8) (W : World) (hi : img.length = 32) (hr : Rd W 32 A n (dc ds)) (hc : n ≤ c) (hD : D32 ds) (hn : n ≤ 140737488351232) (hk : (RCell (.s 1 K mk ck zs)).holds W) (hK : Ty Try.prog 27 [.s 1 K mk ck zs]) (ho : other.length = 32) :
    Calls Try.prog 3 #[.agg (b8s img ++ [Value.slice A n c]).toArray, .slice K mk ck, .agg (b8s other).toArray] W fun e w' => e = .returned (.bool true) ∧ Fr No W w' := by
  obtain ⟨_, _, _, _, ks, e8, hkc, hk2, hks, hkl⟩ := ty_bools hK
  cases e8
  have h3 := (View.rowOf (n := mk) (c := ck) (A := K) hks).ok.1 W hk
  exact con_calls (journalSavesC hi hD hn hkc hk2 ho) (by
    intro s hs
    simp only [List.mem_cons, List.not_mem_nil, or_false] at hs
    rcases hs with rfl | rfl
    · exact hr
    · exact h3)
end Go.Proofs.Ytlbecpekemlllaa
end
section
/- From a row's readings: structs with a row of digests. No statement is proved here. -/
set_option linter.unusedVariables false
set_option linter.unusedSimpArgs false
namespace Go.Eng
open Go.RowKit Go.ChangeShapes Go.WideShapes
variable {H : Type} {enc : TypeId × Value → H} {P : Program} {w : World} {base : Nat} {spare : Nat → Bool} {held : Bool}
theorem trod_digest {t e : TypeId} {n fuel : Nat} {cs : List Value} {x : DataW H × List MemPlace} (ht : P.underlying t = some (.array n e)) (he : P.underlying e = some (.int .u8)) (hc : P.cellsOf e = 1) (hct : P.cellsOf t = n) (hf : DataW.trod enc P w base spare held fuel t cs = some x) :
    ∃ l : List UInt8, cs = b8s l ∧ l.length = n := by
  obtain ⟨xs, m, _, _, hlen, hxl, hel⟩ := DataW.trod_array ht hf
  rw [hct] at hlen
  have hcell : ∀ i, i < n → ∃ c : UInt8, cs[i]? = some (B8 c) := by
    intro i hi
    have h1 := hel i hi
    rw [List.getElem?_eq_getElem (by omega), hc, Nat.mul_one] at h1
    obtain ⟨z, hz, _, hw⟩ := DataW.trod_int he h1
    have hb := bounds_u8 hw
    refine ⟨UInt8.ofNat z.toNat, ?_⟩
    have h2 : ((cs.drop i).take 1)[0]? = some (.int .u8 z) := by rw [hz]; rfl
    rw [List.getElem?_take, if_pos (by omega), List.getElem?_drop, Nat.add_zero] at h2
    rw [h2, B8, UInt8.toNat_ofNat', Nat.mod_eq_of_lt (by omega)]
    congr 2
    omega
  refine ⟨cs.map fun v => match v with | .int _ z => UInt8.ofNat z.toNat | _ => 0, ?_, by simpa using hlen⟩
  apply List.ext_getElem?
  intro i
  simp only [b8s, List.map_map, List.getElem?_map]
  by_cases hi : i < n
  · obtain ⟨c, hc⟩ := hcell i hi
    rw [hc]
    simp [B8]
  · rw [List.getElem?_eq_none (by omega)]
    rfl
theorem cells_at {b : Nat} {a : Addr} {n : Nat} {cs : List Value} (h : w.cells? b a n = some cs) : ∀ j u, cs[j]? = some u → w.cell? (a.add j) = some u := by
  intro j u hu
  obtain ⟨hb, hl, hcell⟩ := World.cells?_some h
  have hj : j < n := by rw [← hl]; exact (List.getElem?_eq_some_iff.1 hu).1
  rw [hcell j hj, hu]
/-- a row of digests that came in -/
theorem open_digests {ts td e : TypeId} {n fuel : Nat} {cs : List Value} {x : DataW H × List MemPlace} (ht : P.underlying ts = some (.slice td)) (hd : P.underlying td = some (.array n e)) (he : P.underlying e = some (.int .u8)) (hc : P.cellsOf e = 1) (hct : P.cellsOf td = n)
    (h : DataW.trod enc P w base spare held fuel ts cs = some x) :
    ∃ (A : Option Addr) (len cap : Nat) (ds : List (List UInt8)), cs = [.slice A len cap] ∧ len ≤ cap ∧ Rd w n A len (dc ds) ∧ (∀ d ∈ ds, d.length = n) ∧ (x.1 = .nil ∧ len = 0 ∨ ∃ el sp : List (DataW H), x.1 = .slice el sp ∧ el.length = len) := by
  rcases DataW.trod_slice ht h with ⟨rfl, rfl⟩ | ⟨a, len, cap, elems, rest, m, _, rfl, rfl, hb, hl, hm, hlen, hel, _, _⟩
  · exact ⟨none, 0, 0, [], rfl, Nat.le_refl _, Rd.nil _ _ _, fun d hd => (by cases hd), .inl ⟨rfl, rfl⟩⟩
  · have hi : ∀ i, i < len → ∃ l : List UInt8, l.length = n ∧ ∀ j u, (b8s l)[j]? = some u → w.cell? (a.add (i * n + j)) = some u := by
      intro i hi
      have h1 := hel i hi
      rw [List.getElem?_eq_getElem (by omega), hct] at h1
      obtain ⟨c, hc1, hc2⟩ := Option.bind_eq_some_iff.1 h1
      obtain ⟨l, rfl, hl'⟩ := trod_digest hd he hc hct hc2
      refine ⟨l, hl', fun j u hu => ?_⟩
      have := cells_at hc1 j u hu
      rwa [add_add] at this
    have hall : ∀ k, k ≤ len → ∃ ds : List (List UInt8), ds.length = k ∧ (∀ d ∈ ds, d.length = n) ∧ ∀ q u, (dc ds)[q]? = some u → w.cell? (a.add q) = some u := by
      intro k
      induction k with
      | zero => intro _; exact ⟨[], rfl, fun d hd => (by cases hd), fun q u hu => by simp [dc] at hu⟩
      | succ k ih =>
        intro hk
        obtain ⟨ds, h1, h2, h3⟩ := ih (by omega)
        obtain ⟨l, h4, h5⟩ := hi k (by omega)
        refine ⟨ds ++ [l], by simp [h1], fun d hd => ?_, fun q u hu => ?_⟩
        · rcases List.mem_append.1 hd with h | h
          · exact h2 d h
          · have : d = l := by simpa using h
            rw [this]; exact h4
        · rw [dc_append, dc_one] at hu
          have hdl := dc_length h2
          rw [h1] at hdl
          rcases Nat.lt_or_ge q (k * n) with hq | hq
          · rw [List.getElem?_append_left (by omega)] at hu
            exact h3 q u hu
          · rw [List.getElem?_append_right (by omega), hdl] at hu
            have := h5 (q - k * n) u hu
            rwa [show k * n + (q - k * n) = q by omega] at this
    obtain ⟨ds, h1, h2, h3⟩ := hall len (Nat.le_refl _)
    exact ⟨some a, len, cap, ds, rfl, hl, ⟨by rw [dc_length h2, h1], fun _ e => (by cases e), h3⟩, h2, .inr ⟨_, _, rfl, by simpa using hlen⟩⟩
/-- a struct of 32 bytes and a row of digests -/
theorem open_jour {r : Reach} {b0 : Nat} {t ts td e : TypeId} {f0 f1 : Field} {v : Value} {d : DataW H} {ps : List MemPlace} {tss : List TypeId} {dss : List (DataW H)} {j : Nat} (ht : P.underlying t = some (.struct #[f0, f1])) (h0 : f0.type = td) (h1 : f1.type = ts) (o0 : f0.offset = 0) (o1 : f1.offset = 32) (hts : P.underlying ts = some (.slice td))
    (hd : P.underlying td = some (.array 32 e)) (he : P.underlying e = some (.int .u8)) (hc : P.cellsOf e = 1) (hcd : P.cellsOf td = 32) (hcs : P.cellsOf ts = 1) (hct : P.cellsOf t = 33) (hB : P.bytesOf td = 32)
    (hval : Value.okWide P w r b0 t v) (h : DataW.Trod enc P w base spare held t v d ps) (hsz : (DataW.weightsEach P tss dss).all (· ≤ reachBytes) = true) (hjt : tss[j]? = some t) (hjd : dss[j]? = some d) :
    ∃ (img : List UInt8) (A : Option Addr) (len cap : Nat) (ds : List (List UInt8)), v = .agg (b8s img ++ [Value.slice A len cap]).toArray ∧ img.length = 32 ∧ Rd w 32 A len (dc ds) ∧ len ≤ cap ∧ (∀ d ∈ ds, d.length = 32) ∧ len ≤ 140737488351232 := by
  simp only [Value.okWide, ht] at hval
  obtain ⟨cs, rfl, _, _⟩ := hval
  obtain ⟨fuel, hf⟩ := h
  obtain ⟨y0, y1, n, hx, hlen, e0, e1⟩ := trod_struct2 ht hf
  simp only [Value.cells] at hlen e0 e1
  rw [hct] at hlen
  rw [h0, o0, hcd, List.drop_zero] at e0
  rw [h1, o1, hcs] at e1
  obtain ⟨img, hi, hil⟩ := trod_digest hd he hc hcd e0
  obtain ⟨A, len, cap, ds, hs, hl, hr, hD, hx1⟩ := open_digests hts hd he hc hcd e1
  refine ⟨img, A, len, cap, ds, ?_, hil, hr, hl, hD, ?_⟩
  · congr 1
    apply Array.toList_inj.1
    have : cs.toList = cs.toList.take 32 ++ (cs.toList.drop 32).take 1 := by
      rw [List.take_of_length_le (l := cs.toList.drop 32) (by rw [List.length_drop]; omega), List.take_append_drop]
    rw [this, hi, hs]
  · rcases hx1 with ⟨_, h⟩ | ⟨el, sp, hxe, hel⟩
    · omega
    · obtain ⟨hx2, _⟩ := Prod.mk.inj hx
      have hw := List.all_eq_true.1 hsz _ (DataW.weights_mem_each hjt hjd ((el.length + sp.length) * P.bytesOf td) (by
        rw [hx2]
        show _ ∈ DataW.weights P t _
        simp [DataW.weights, DataW.weightsEach, ht, h1, hts, hxe]))
      have hw2 : (el.length + sp.length) * 32 ≤ reachBytes := by rw [hB] at hw; simpa using hw
      have hw3 : reachBytes = 140737488351232 := rfl
      omega
end Go.Eng
end
