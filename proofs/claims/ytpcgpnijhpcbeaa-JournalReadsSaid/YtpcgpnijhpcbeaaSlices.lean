/- Contracts: slices.Clone, BinarySearchFunc, Insert, over rows of digests. -/
import Derived.Test.YtpcgpnijhpcbeaaJour4
import Derived.Test.YtpcgpnijhpcbeaaEng10
set_option linter.unusedVariables false
set_option linter.unusedSimpArgs false
set_option maxRecDepth 20000
namespace Go.Proofs.Ytpcgpnijhpcbeaa
open Go.Eng Go.Hx
theorem sclone (A : Option Addr) (n c : Nat) (ds : List (List UInt8)) (w : World) (hr : Rd w 32 A n (dc ds)) (hD : D32 ds) (hn : n ≤ 1000000) :
    Calls Try.prog 60 #[.slice A n c] w fun e w' => ∃ v, e = .returned v ∧ Own w' w.heap.size 23 32 v n (dc ds) ∧ Fr No w w' := by
  have hl := dc_len hr hD
  refine enter (N := 8) Try.func60 rfl rfl (by simp) ?_
  refine cseq <| creg <| nq (y_assign rfl) <| nend <| qthen <| cseq <| cseq <| creg <| nq (y_move rfl) <| nq (y_eqSn rfl rfl Try.underlying54) <| nend <| qsub (sub_cons (t := 4) rfl <| sub_cons (t := 2) rfl <| sub_cons (t := 0) rfl <| sub_nil) <| qthen <| ?_
  cases A with
  | none =>
    have h0 : n = 0 := by
      rcases Nat.eq_zero_or_pos n with h | h
      · exact h
      · exact absurd rfl (hr.2.1 h)
    subst h0
    obtain rfl : ds = [] := List.eq_nil_of_length_eq_zero hl
    refine cift rfl (rfl) ?_
    refine cseq <| creg <| nq (y_assign rfl) <| nend <| qthen <| cret <| qthen_ret <| ?_
    exact ret1 trivial rfl rfl ⟨_, rfl, Own.nil _ _ _ _, Fr.refl _ _⟩
  | some a =>
    refine ciff rfl (rfl) ?_
    refine cskip <| qthen <| cseq <| creg <| ?_
    refine nx (x_bsl0 Try.underlying54 ti23 fun g w1 hg hf1 hb1 => ?_)
    refine nq (y_move rfl) <| ?_
    refine nx (x_app rfl rfl Try.underlying54 Try.underlying54 (by exact .inl rfl) ti23 rfl (Own.made0 hb1 hg) (Src.of_rd (hr.fr0 hf1)) dc_oneCell (by unfold maxLen; omega) (by omega) hf1.size fun v w2 ho hf2 hv => ?_)
    refine nq (y_assign rfl) <| nend <| qsub (sub_cons (t := 2) rfl <| sub_cons (t := 4) rfl <| sub_cons (t := 0) rfl <| sub_nil) <| qthen <| cret <| ?_
    refine ret1 trivial rfl rfl ⟨v, rfl, ?_, hf1.new hf2 (fun i hi => by have : i = g := hi; omega)⟩
    simpa using ho
theorem rise_lt : ∀ {l : List (List UInt8)}, Rise l → ∀ (j i : Nat), i < j → j < l.length → cb (l.getD i []) (l.getD j []) < 0
  | [], _, j, i, _, h => by simp at h
  | [_], _, j, i, h1, h2 => by simp at h2; omega
  | a :: b :: r, h, 0, i, h1, _ => by omega
  | a :: b :: r, h, j + 1, 0, _, h2 => by
    simp only [List.getD_cons_zero, List.getD_cons_succ]
    cases j with
    | zero => simpa using h.1
    | succ j =>
      have h3 := rise_lt h.2 (j + 1) 0 (by omega) (by simpa using h2)
      simp only [List.getD_cons_zero] at h3
      have h4 := cb_trans a b ((b :: r).getD (j + 1) []) (by have := h.1; omega) (by omega)
      have h5 : cb a ((b :: r).getD (j + 1) []) ≠ 0 := by
        intro h0
        have h6 := cb_eq _ _ h0
        rw [← h6] at h3
        have h7 := cb_neg a b
        have := h.1
        omega
      omega
  | a :: b :: r, h, j + 1, i + 1, h1, h2 => by
    simp only [List.getD_cons_succ]
    exact rise_lt h.2 j i (by omega) (by simpa using h2)
/-- where a binary search ends -/
structure Found (ds : List (List UInt8)) (d : List UInt8) (k : Nat) : Prop where
  le : k ≤ ds.length
  lt : ∀ i, i < k → cb (ds.getD i []) d < 0
  ge : ∀ i, k ≤ i → i < ds.length → ¬ cb (ds.getD i []) d < 0
theorem rise_down {ds : List (List UInt8)} (h : Rise ds) {d : List UInt8} {j i : Nat} (hij : i ≤ j) (hj : j < ds.length) (hc : cb (ds.getD j []) d < 0) : cb (ds.getD i []) d < 0 := by
  rcases Nat.lt_or_ge i j with h1 | h1
  · have h2 := rise_lt h j i h1 hj
    have h3 := cb_trans (ds.getD i []) (ds.getD j []) d (by omega) (by omega)
    have h4 : cb (ds.getD i []) d ≠ 0 := by
      intro h0
      have h5 := cb_eq _ _ h0
      rw [h5] at h2
      have := cb_neg (ds.getD j []) d
      omega
    omega
  · have : i = j := by omega
    rw [this]; exact hc
theorem bsearch (A : Option Addr) (n c : Nat) (ds : List (List UInt8)) (d : List UInt8) (w : World) (hr : Rd w 32 A n (dc ds)) (hD : D32 ds) (hR : Rise ds) (hd : d.length = 32) (hn : n ≤ 1000000) :
    Calls Try.prog 58 #[.slice A n c, .agg (b8s d).toArray, .func (.func 59) #[] #[]] w fun e w' => ∃ k, e = .returned (.tuple #[.int .i64 (k : Nat), .bool (decide (k < n ∧ cb (ds.getD k []) d = 0))]) ∧ Found ds d k ∧ Fr No w w' := by
  have hl := dc_len hr hD
  have dl : (b8s d).length = 32 := by rw [b8s_length]; exact hd
  refine enter (N := 49) Try.func58 rfl rfl (by simp) ?_
  refine cseq <| creg <| ?_
  refine nx (x_box rfl fun g1 w1 hg1 hf1 hb1 => ?_)
  rw [cells_agg] at hb1
  have hB : ∀ w', Fr No w1 w' → Blk w' g1 23 (b8s d) := fun w' f => hb1.fr0 f
  have hRd : ∀ w', Fr No w1 w' → Rd w' 32 A n (dc ds) := fun w' f => (hr.fr0 hf1).fr0 f
  refine nq (y_assign rfl) <| nq (y_assign rfl) <| nend <| qthen <| cseq <| creg <| nq (y_move rfl) <| nq (y_lenS rfl Try.underlying54) <| nq (y_assign rfl) <| nend <| qsub (sub_cons (t := 8) rfl <| sub_cons (t := 7) rfl <| sub_cons (t := 6) rfl <| sub_cons (t := 4) rfl <| sub_cons (t := 0) rfl <| sub_cons (t := 1) rfl <| sub_cons (t := 2) rfl <| sub_nil) <| qthen <| cseq <| creg <| nq (y_move rfl) <| nq (y_assign rfl) <| nq (y_assign rfl) <| nend <| qsub (sub_cons (t := 10) rfl <| sub_cons (t := 9) rfl <| sub_cons (t := 8) rfl <| sub_cons (t := 7) rfl <| sub_cons (t := 6) rfl <| sub_cons (t := 4) rfl <| sub_cons (t := 0) rfl <| sub_cons (t := 1) rfl <| sub_cons (t := 2) rfl <| sub_nil) <| qthen <| cseq <| cblock <| ?_
  refine cloop2 (fun i j => j - i) (fun i j => [(0, .slice A n c), (2, .func (.func 59) #[] #[]), (4, .pointer (some ⟨g1, 0, none⟩)), (8, .int .i64 (n : Int)), (9, .int .i64 (i : Nat)), (10, .int .i64 (j : Nat))]) (fun i j w' => i ≤ j ∧ j ≤ n ∧ (∀ q, q < i → cb (ds.getD q []) d < 0) ∧ (∀ q, j ≤ q → q < n → ¬ cb (ds.getD q []) d < 0) ∧ Fr No w1 w') 0 n (⟨Nat.zero_le _, Nat.le_refl _, fun q hq => absurd hq (by omega), fun q h1 h2 => absurd h2 (by omega), Fr.refl _ _⟩) (sub_cons (t := 0) rfl <| sub_cons (t := 2) rfl <| sub_cons (t := 4) rfl <| sub_cons (t := 8) rfl <| sub_cons (t := 9) rfl <| sub_cons (t := 10) rfl <| sub_nil) (fun i j w2 ⟨hij, hjn, hlt, hge, hf2⟩ => ?_)
  refine cseq <| cseq <| creg <| nq (y_move rfl) <| nq (y_move rfl) <| nq (y_lss rfl rfl) <| nend <| qsub (sub_cons (t := 17) rfl <| sub_cons (t := 0) rfl <| sub_cons (t := 2) rfl <| sub_cons (t := 4) rfl <| sub_cons (t := 8) rfl <| sub_cons (t := 9) rfl <| sub_cons (t := 10) rfl <| sub_nil) <| qthen <| ?_
  refine cif rfl (fun h => ?_) (fun h => ?_)
  · have hm : i + j < 2000001 := by omega
    have hh : (i + j) / 2 < n := by omega
    have hhl : (i + j) / 2 < ds.length := by omega
    refine cskip <| qthen <| cblock <| cseq <| creg <| nq (y_move rfl) <| nq (y_move rfl) <| nq (yV (y_add rfl rfl (w64 (by omega) (by omega))) ((show Value.int .i64 ((i : Int) + (j : Int)) = .int .i64 ((i + j : Nat) : Int) by congr 1))) <| nq (y_conv rfl Try.underlying3 Try.underlying114 ((show IntKind.u64.wrap ((i + j : Nat) : Int) = ((i + j : Nat) : Int) by simp [IntKind.wrap, IntKind.signed, IntKind.bits]; omega))) <| nq (y_shr (p := 2) rfl rfl (by decide) (by decide) (by decide)) <| nq (y_conv rfl Try.underlying114 Try.underlying3 ((show IntKind.i64.wrap (((i + j : Nat) : Int) / 2) = (((i + j) / 2 : Nat) : Int) by rw [w64 (by omega) (by omega)]; omega))) <| nq (y_assign rfl) <| nend <| qsub (sub_cons (t := 11) rfl <| sub_cons (t := 17) rfl <| sub_cons (t := 0) rfl <| sub_cons (t := 2) rfl <| sub_cons (t := 4) rfl <| sub_cons (t := 8) rfl <| sub_cons (t := 9) rfl <| sub_cons (t := 10) rfl <| sub_nil) <| qthen <| cseq <| ?_
    refine cdrw [(0, false), (1, false), (2, false), (3, false), (4, false), (5, false), (6, true), (7, false)] (by kernel_rfl) (by kernel_rfl) rfl (fun w' => Fr No w1 w') (hf2.trans0 (Fr.drew _)) (fun w3 hf3 hS3 => ?_)
    refine sq (fun w_ hS_ => y_move rfl) <| sq (fun w_ hS_ => y_move rfl) <| sq (fun w_ hS_ => y_move rfl) <| sq (fun w_ hS_ => y_idxS rfl rfl Try.underlying54 sz23 hr.2.1 rfl (by omega)) <| sq (fun w_ hS_ => y_ldN rfl ag23 sz23 ((by rw [b8s_length]; exact dc_getD hD hhl)) (((hRd _ hS_).dig hD hhl))) <| sq (fun w_ hS_ => y_ldN rfl ag23 sz23 dl ((hB _ hS_).cells0)) <| ?_
    refine sx (x_callv rfl rfl Try.call59 (first := []) (cap := []) (compare _ d _ (dc_getD hD hhl) hd) ?_)
    rintro e_ w4 ⟨rfl, hf4⟩
    refine ⟨_, rfl, ?_⟩
    refine ⟨hS3.trans0 hf4, ?_⟩
    have hS4 := hS3.trans0 hf4
    refine sq (fun w_ hS_ => y_lss rfl rfl) <| send <| qsub (sub_cons (t := 31) rfl <| sub_cons (t := 11) rfl <| sub_cons (t := 17) rfl <| sub_cons (t := 0) rfl <| sub_cons (t := 2) rfl <| sub_cons (t := 4) rfl <| sub_cons (t := 8) rfl <| sub_cons (t := 9) rfl <| sub_cons (t := 10) rfl <| sub_nil) <| qthen <| ?_
    refine cif rfl (fun h2 => ?_) (fun h2 => ?_)
    · refine creg <| nq (y_move rfl) <| nq (yV (y_add rfl rfl (w64 (by omega) (by omega))) ((show Value.int .i64 ((((i + j) / 2 : Nat) : Int) + 1) = .int .i64 (((i + j) / 2 + 1 : Nat) : Int) by congr 1))) <| nq (y_assign rfl) <| nend <| qsub (sub_cons (t := 9) rfl <| sub_cons (t := 31) rfl <| sub_cons (t := 11) rfl <| sub_cons (t := 17) rfl <| sub_cons (t := 0) rfl <| sub_cons (t := 2) rfl <| sub_cons (t := 4) rfl <| sub_cons (t := 8) rfl <| sub_cons (t := 10) rfl <| sub_nil) <| qblock <| ?_
      refine qloop2 ((i + j) / 2 + 1) j (sub_cons (t := 0) rfl <| sub_cons (t := 2) rfl <| sub_cons (t := 4) rfl <| sub_cons (t := 8) rfl <| sub_cons (t := 9) rfl <| sub_cons (t := 10) rfl <| sub_nil) (⟨by omega, hjn, fun q hq => rise_down hR (show q ≤ (i + j) / 2 by omega) hhl h2, hge, hS4⟩) (by omega)
    · refine creg <| nq (y_move rfl) <| nq (y_assign rfl) <| nend <| qsub (sub_cons (t := 10) rfl <| sub_cons (t := 31) rfl <| sub_cons (t := 11) rfl <| sub_cons (t := 17) rfl <| sub_cons (t := 0) rfl <| sub_cons (t := 2) rfl <| sub_cons (t := 4) rfl <| sub_cons (t := 8) rfl <| sub_cons (t := 9) rfl <| sub_nil) <| qblock <| ?_
      refine qloop2 i ((i + j) / 2) (sub_cons (t := 0) rfl <| sub_cons (t := 2) rfl <| sub_cons (t := 4) rfl <| sub_cons (t := 8) rfl <| sub_cons (t := 9) rfl <| sub_cons (t := 10) rfl <| sub_nil) (⟨by omega, by omega, hlt, fun q h3 h4 h5 => h2 (rise_down hR h3 (by omega) h5), hS4⟩) (by omega)
  · obtain rfl : i = j := by omega
    refine cexit <| qthen_exit <| qthen_exit <| qblock_exit <| qthen <| cseq <| ?_
    refine cdrw [(0, false), (1, false), (2, false), (3, false), (4, false), (5, false), (6, false), (7, false), (8, false), (9, false), (10, false), (11, true), (12, false), (13, false), (14, false), (15, false)] (by kernel_rfl) (by kernel_rfl) rfl (fun w' => Fr No w1 w') (hf2.trans0 (Fr.drew _)) (fun w3 hf3 hS3 => ?_)
    have hF : Found ds d i := ⟨by omega, hlt, fun q h1 h2 => hge q h1 (by omega)⟩
    refine sq (fun w_ hS_ => y_move rfl) <| sq (fun w_ hS_ => y_move rfl) <| sq (fun w_ hS_ => y_move rfl) <| sq (fun w_ hS_ => y_lss rfl rfl) <| sq (fun w_ hS_ => y_move rfl) <| ?_
    refine ssplit 39 rfl (fun h2 => ?_) (fun h2 => ?_)
    · have hil : i < ds.length := by omega
      refine sqg (o := _) rfl rfl rfl (fun w_ hS_ => y_move rfl) <| sqg (o := _) rfl rfl rfl (fun w_ hS_ => y_move rfl) <| sqg (o := _) rfl rfl rfl (fun w_ hS_ => y_move rfl) <| sqg (o := _) rfl rfl rfl (fun w_ hS_ => y_idxS rfl rfl Try.underlying54 sz23 hr.2.1 rfl (by omega)) <| sqg (o := _) rfl rfl rfl (fun w_ hS_ => y_ldN rfl ag23 sz23 ((by rw [b8s_length]; exact dc_getD hD hil)) (((hRd _ hS_).dig hD hil))) <| sqg (o := _) rfl rfl rfl (fun w_ hS_ => y_ldN rfl ag23 sz23 dl ((hB _ hS_).cells0)) <| ?_
      refine sxg rfl rfl rfl (x_callv rfl rfl Try.call59 (first := []) (cap := []) (compare _ d _ (dc_getD hD hil) hd) ?_)
      rintro e_ w4 ⟨rfl, hf4⟩
      refine ⟨_, rfl, ?_⟩
      refine ⟨hS3.trans0 hf4, ?_⟩
      have hS4 := hS3.trans0 hf4
      refine sqg (o := _) rfl rfl rfl (fun w_ hS_ => y_eql rfl rfl) <| sq (fun w_ hS_ => y_pickT rfl rfl) <| sq (fun w_ hS_ => y_assign rfl) <| sq (fun w_ hS_ => y_assign rfl) <| send <| qsub (sub_cons (t := 7) rfl <| sub_cons (t := 6) rfl <| sub_cons (t := 17) rfl <| sub_cons (t := 0) rfl <| sub_cons (t := 2) rfl <| sub_cons (t := 4) rfl <| sub_cons (t := 8) rfl <| sub_cons (t := 9) rfl <| sub_cons (t := 10) rfl <| sub_nil) <| qthen <| cret <| ?_
      refine ret2 trivial rfl rfl rfl ⟨i, ?_, hF, hf1.trans0 hS4⟩
      simp only [show i < n by omega, true_and]
    · refine sskip rfl rfl rfl (by decide) <| sskip rfl rfl rfl (by decide) <| sskip rfl rfl rfl (by decide) <| sskip rfl rfl rfl (by decide) <| sskip rfl rfl rfl (by decide) <| sskip rfl rfl rfl (by decide) <| sskip rfl rfl rfl (by decide) <| sskip rfl rfl rfl (by decide) <| sq (fun w_ hS_ => y_pickF rfl rfl) <| sq (fun w_ hS_ => y_assign rfl) <| sq (fun w_ hS_ => y_assign rfl) <| send <| qsub (sub_cons (t := 7) rfl <| sub_cons (t := 6) rfl <| sub_cons (t := 17) rfl <| sub_cons (t := 0) rfl <| sub_cons (t := 2) rfl <| sub_cons (t := 4) rfl <| sub_cons (t := 8) rfl <| sub_cons (t := 9) rfl <| sub_cons (t := 10) rfl <| sub_nil) <| qthen <| cret <| ?_
      refine ret2 trivial rfl rfl rfl ⟨i, ?_, hF, hf1.trans0 hS3⟩
      simp only [show ¬ i < n by omega, false_and, decide_false]
theorem ins_grow {xs rest vs ys : List Value} {p m q : Nat} (hx : xs.length = p) (hv : vs.length = m) (hy : ys.length = q) (hl : m + q ≤ rest.length) :
    (splice (splice (xs ++ rest) p vs) (p + m) ys).take (p + m + q) = xs ++ vs ++ ys ∧ (splice (splice (xs ++ rest) p vs) (p + m) ys).length = (xs ++ rest).length := by
  have e1 : xs ++ rest = xs ++ rest.take m ++ rest.drop m := by rw [List.append_assoc, List.take_append_drop]
  have e2 : splice (xs ++ rest) p vs = xs ++ vs ++ rest.drop m := by
    rw [e1]; exact splice_app hx (by rw [hv, List.length_take]; omega)
  have e3 : xs ++ vs ++ rest.drop m = (xs ++ vs) ++ (rest.drop m).take q ++ (rest.drop m).drop q := by rw [List.append_assoc (xs ++ vs), List.take_append_drop]
  have e4 : splice (splice (xs ++ rest) p vs) (p + m) ys = (xs ++ vs) ++ ys ++ (rest.drop m).drop q := by
    rw [e2, e3]; exact splice_app (by simp [hx, hv]) (by rw [hy, List.length_take, List.length_drop]; omega)
  rw [e4]
  refine ⟨?_, by simp; omega⟩
  have : p + m + q = (xs ++ vs ++ ys).length := by simp [hx, hv, hy]; omega
  rw [this, List.take_left]
theorem ins_room {cur xs vs ys : List Value} {o p m q : Nat} (hw : (cur.drop o).take (p + q) = xs ++ ys) (hx : xs.length = p) (hv : vs.length = m) (hy : ys.length = q) (hl : o + (p + m + q) ≤ cur.length) :
    ((splice (splice cur (o + p + m) ys) (o + p) vs).drop o).take (p + m + q) = xs ++ vs ++ ys ∧ (splice (splice cur (o + p + m) ys) (o + p) vs).length = cur.length := by
  have hxs : (cur.drop o).take p = xs := by
    have := congrArg (List.take p) hw
    rw [List.take_take, Nat.min_eq_left (by omega), ← hx, List.take_left] at this
    rw [← hx]; exact this
  have e0 : cur = cur.take o ++ (xs ++ (cur.drop o).drop p) := by
    conv => lhs; rw [← List.take_append_drop o cur]
    congr 1
    conv => lhs; rw [← List.take_append_drop p (cur.drop o), hxs]
  generalize hrest : (cur.drop o).drop p = rest at e0
  have hrl : rest.length = cur.length - o - p := by rw [← hrest, List.length_drop, List.length_drop]
  generalize hpre : cur.take o = pre at e0
  have hpl : pre.length = o := by rw [← hpre, List.length_take]; omega
  have e1 : cur = (pre ++ xs ++ rest.take m) ++ (rest.drop m).take q ++ (rest.drop m).drop q := by
    rw [List.append_assoc _ _ ((rest.drop m).drop q), List.take_append_drop, List.append_assoc, List.take_append_drop, List.append_assoc]
    exact e0
  have e2 : splice cur (o + p + m) ys = (pre ++ xs ++ rest.take m) ++ ys ++ (rest.drop m).drop q := by
    rw [e1]; exact splice_app (by simp [hpl, hx]; omega) (by rw [hy, List.length_take, List.length_drop]; omega)
  have e3 : (pre ++ xs ++ rest.take m) ++ ys ++ (rest.drop m).drop q = (pre ++ xs) ++ rest.take m ++ (ys ++ (rest.drop m).drop q) := by simp
  have e4 : splice (splice cur (o + p + m) ys) (o + p) vs = (pre ++ xs) ++ vs ++ (ys ++ (rest.drop m).drop q) := by
    rw [e2, e3]; exact splice_app (by simp [hpl, hx]) (by rw [hv, List.length_take]; omega)
  rw [e4]
  refine ⟨?_, ?_⟩
  · have e5 : (pre ++ xs) ++ vs ++ (ys ++ (rest.drop m).drop q) = pre ++ ((xs ++ vs ++ ys) ++ (rest.drop m).drop q) := by simp
    rw [e5, ← hpl, List.drop_left]
    have : p + m + q = (xs ++ vs ++ ys).length := by simp [hx, hv, hy]; omega
    rw [this, List.take_left]
  · simp [hpl, hx, hv, hy, hrl]; omega
theorem slFrom_val {g o a sz c m k : Nat} (h : c ≠ a) : Value.slice (if c = a then some (⟨g, o, none⟩ : Addr) else (some (⟨g, o, none⟩ : Addr)).map (·.add (a * sz))) m k = .slice (some ⟨g, o + a * sz, none⟩) m k := by
  rw [if_neg h, Option.map_some, addr_add]
theorem insert (b : Nat) (v : Value) (n i g2 : Nat) (bt : TypeId) (ds : List (List UInt8)) (d : List UInt8) (w : World) (ho : Own w b 23 32 v n (dc ds)) (hD : D32 ds) (hd : d.length = 32) (hi : i ≤ n) (hn : n ≤ 1000000) (hb : b ≤ w.heap.size) (h2 : w.heap[g2]? = some (.cells (dc [d]).toArray bt (0, 0))) (hne : ¬ vblk v g2) :
    Calls Try.prog 61 #[v, .int .i64 (i : Nat), .slice (some ⟨g2, 0, none⟩) 1 1] w fun e w' => ∃ v', e = .returned v' ∧ Own w' b 23 32 v' (n + 1) (dc (ds.take i ++ [d] ++ ds.drop i)) ∧ Fr (vblk v) w w' := by
  obtain ⟨A, c, rfl, hc⟩ := ho.slice
  have hr := (Own.rd ho).2.2
  have hl := dc_len hr hD
  have d32 : (dc [d]).length = 32 := by rw [dc_one, b8s_length]; exact hd
  have hb2 : Blk w g2 bt (dc [d]) := ⟨(0, 0), h2, fun i _ => by simp, Nat.le_refl _⟩
  have r2 : Rd w 32 (some ⟨g2, 0, none⟩) 1 (dc [d]) := Rd.of_blk hb2 (by rw [d32])
  have hDt : D32 (ds.take i) := fun x hx => hD x (List.mem_of_mem_take hx)
  have hDd : D32 (ds.drop i) := fun x hx => hD x (List.mem_of_mem_drop hx)
  have lt : (dc (ds.take i)).length = i * 32 := by rw [dc_length hDt, List.length_take]; congr 1; omega
  have ld : (dc (ds.drop i)).length = (n - i) * 32 := by rw [dc_length hDd, List.length_drop, hl]
  refine enter (N := 95) Try.func61 rfl rfl (by simp) ?_
  refine cseq <| creg <| nq (y_assign rfl) <| nend <| qthen <| cseq <| creg <| nq (y_move rfl) <| nq (y_move rfl) <| nq (y_slFrom rfl rfl Try.underlying54 sz23 rfl hi) <| nend <| qsub (sub_cons (t := 6) rfl <| sub_cons (t := 0) rfl <| sub_cons (t := 1) rfl <| sub_cons (t := 2) rfl <| sub_nil) <| qthen <| cseq <| creg <| nq (y_move rfl) <| nq (y_lenS rfl Try.underlying54) <| nq (y_assign rfl) <| nend <| qsub (sub_cons (t := 7) rfl <| sub_cons (t := 6) rfl <| sub_cons (t := 0) rfl <| sub_cons (t := 1) rfl <| sub_cons (t := 2) rfl <| sub_nil) <| qthen <| cseq <| cseq <| creg <| nq (y_move rfl) <| nq (y_eql rfl rfl) <| nend <| qsub (sub_cons (t := 16) rfl <| sub_cons (t := 7) rfl <| sub_cons (t := 6) rfl <| sub_cons (t := 0) rfl <| sub_cons (t := 1) rfl <| sub_cons (t := 2) rfl <| sub_nil) <| qthen <| ?_
  refine ciff rfl ((decide_eq_false (by decide) : decide (((1 : Nat) : Int) = 0) = false)) ?_
  refine cskip <| qthen <| cseq <| creg <| nq (y_move rfl) <| nq (y_lenS rfl Try.underlying54) <| nq (y_assign rfl) <| nend <| qsub (sub_cons (t := 8) rfl <| sub_cons (t := 16) rfl <| sub_cons (t := 7) rfl <| sub_cons (t := 6) rfl <| sub_cons (t := 0) rfl <| sub_cons (t := 1) rfl <| sub_cons (t := 2) rfl <| sub_nil) <| qthen <| cseq <| cseq <| creg <| nq (y_move rfl) <| nq (y_move rfl) <| nq (y_eql rfl rfl) <| nend <| qsub (sub_cons (t := 22) rfl <| sub_cons (t := 8) rfl <| sub_cons (t := 16) rfl <| sub_cons (t := 7) rfl <| sub_cons (t := 6) rfl <| sub_cons (t := 0) rfl <| sub_cons (t := 1) rfl <| sub_cons (t := 2) rfl <| sub_nil) <| qthen <| ?_
  refine cif rfl (fun h => ?_) (fun h => ?_)
  · obtain rfl : i = n := by omega
    refine cseq <| creg <| nq (y_move rfl) <| nq (y_move rfl) <| ?_
    refine nx (x_app rfl rfl Try.underlying54 Try.underlying54 (by exact .inl rfl) ti23 rfl ho (Src.of_rd r2) dc_oneCell (by unfold maxLen; omega) (by omega) hb fun v1 w1 ho1 hf1 hv1 => ?_)
    refine nq (y_assign rfl) <| nend <| qsub (sub_cons (t := 6) rfl <| sub_cons (t := 22) rfl <| sub_cons (t := 8) rfl <| sub_cons (t := 16) rfl <| sub_cons (t := 7) rfl <| sub_cons (t := 0) rfl <| sub_cons (t := 1) rfl <| sub_cons (t := 2) rfl <| sub_nil) <| qthen <| cret <| qthen_ret <| ?_
    refine ret1 trivial rfl rfl ⟨v1, rfl, ?_, hf1⟩
    rw [List.take_of_length_le (by omega), List.drop_of_length_le (by omega), List.append_nil, dc_append]
    exact ho1
  · have hin : i < n := by omega
    rcases ho with ⟨hlen, ⟨h1, h0⟩ | ⟨g, o, cap, cur, h1, hbg, hg, hnc, hcm, hcs, htake⟩⟩
    · omega
    injection h1 with h1 _ h3
    subst h1
    subst h3
    have hne : ¬ g2 = g := hne
    have hdr : Rd w 32 (some (⟨g, o + i * 32, none⟩ : Addr)) (n - i) (dc (ds.drop i)) := by
      have := hr.cut_dc hD hc hi
      rwa [if_neg (by omega), Option.map_some, addr_add] at this
    refine cskip <| qthen <| cseq <| cseq <| creg <| nq (y_move rfl) <| nq (y_move rfl) <| nq (y_add rfl rfl (w64 (by omega) (by omega))) <| nq (y_move rfl) <| nq (y_capS rfl Try.underlying54) <| nq (y_gtr rfl rfl) <| nend <| qsub (sub_cons (t := 31) rfl <| sub_cons (t := 22) rfl <| sub_cons (t := 8) rfl <| sub_cons (t := 16) rfl <| sub_cons (t := 7) rfl <| sub_cons (t := 6) rfl <| sub_cons (t := 0) rfl <| sub_cons (t := 1) rfl <| sub_cons (t := 2) rfl <| sub_nil) <| qthen <| ?_
    refine cif rfl (fun hgt => ?_) (fun hgt => ?_)
    · refine cseq <| creg <| nq (y_move rfl) <| nq (y_move rfl) <| nq (y_slTo rfl rfl Try.underlying54 sz23 rfl ((by omega))) <| nq (y_move rfl) <| nq (y_move rfl) <| nq (y_add rfl rfl (w64 (by omega) (by omega))) <| nq (y_move rfl) <| nq (yV (y_sub rfl rfl (w64 (by omega) (by omega))) ((show Value.int .i64 ((n : Int) + ((1 : Nat) : Int) - (i : Int)) = .int .i64 ((n + 1 - i : Nat) : Int) by congr 1; omega))) <| ?_
      refine nx (x_appZ rfl rfl Try.underlying54 Try.underlying3 ti23 rfl (hr.take_dc hD hi) (by omega) (by decide) (by omega) (by unfold maxLen; omega) (by omega) fun g3 w3 cap3 rest hg3 hf3 hc3 hm3 hl3 hb3 => ?_)
      rw [show i + (n + 1 - i) = n + 1 by omega] at hc3 ⊢
      have hne3 : ¬ g2 = g3 := by have := hb2.lt; omega
      have hg3b : b ≤ g3 := by omega
      have hrl : 32 + (n - i) * 32 ≤ rest.length := by
        rw [List.length_append, lt] at hl3
        have : (n + 1) * 32 ≤ cap3 * 32 := Nat.mul_le_mul_right _ hc3
        omega
      refine nq (y_assign rfl) <| nend <| qsub (sub_cons (t := 9) rfl <| sub_cons (t := 31) rfl <| sub_cons (t := 22) rfl <| sub_cons (t := 8) rfl <| sub_cons (t := 16) rfl <| sub_cons (t := 7) rfl <| sub_cons (t := 6) rfl <| sub_cons (t := 0) rfl <| sub_cons (t := 1) rfl <| sub_cons (t := 2) rfl <| sub_nil) <| qthen <| cseq <| creg <| nq (y_move rfl) <| nq (y_move rfl) <| nq (yV (y_slFrom rfl rfl Try.underlying54 sz23 rfl ((by omega))) (slFrom_val (by omega))) <| nq (y_move rfl) <| ?_
      refine nx (x_copy rfl rfl Try.underlying54 sz23 (r2.fr0 hf3) (show 1 = min 1 (n + 1 - i) by omega) hb3 (by rw [Nat.zero_add, hl3]; have : (i + 1) * 32 ≤ cap3 * 32 := Nat.mul_le_mul_right _ (by omega); omega) dc_oneCell fun w4 hf4 hb4 hs4 => ?_)
      rw [Nat.zero_add] at hb4
      have hsl4 : (splice (dc (ds.take i) ++ rest) (i * 32) (dc [d])).length = cap3 * 32 := by
        rw [splice_length (by rw [d32, hl3]; have : (i + 1) * 32 ≤ cap3 * 32 := Nat.mul_le_mul_right _ (by omega); omega), hl3]
      have hf34 : Fr No w w4 := hf3.new hf4 (fun j hj => by omega)
      refine nend <| qsub (sub_cons (t := 9) rfl <| sub_cons (t := 31) rfl <| sub_cons (t := 22) rfl <| sub_cons (t := 8) rfl <| sub_cons (t := 16) rfl <| sub_cons (t := 7) rfl <| sub_cons (t := 6) rfl <| sub_cons (t := 0) rfl <| sub_cons (t := 1) rfl <| sub_cons (t := 2) rfl <| sub_nil) <| qthen <| cseq <| ?_
      refine cdrwT [8] [(0, some 0), (1, some 0), (2, some 0), (3, some 0), (4, some 0), (5, some 0), (6, some 0), (7, some 0), (8, none)] (by kernel_rfl) (by kernel_rfl) rfl (fun k w' => k = 0 → Fr No w4 w') (fun _ => Fr.drew _) (fun w5 hf5 hS5 => ?_)
      refine tq1 (fun w_ hS_ => y_move rfl) <| tq1 (fun w_ hS_ => y_move rfl) <| tq1 (fun w_ hS_ => y_move rfl) <| tq1 (fun w_ hS_ => y_add rfl rfl (w64 (by omega) (by omega))) <| tq1 (fun w_ hS_ => yV (y_slFrom rfl rfl Try.underlying54 sz23 (show ((i + 1 : Nat) : Int) = _ by omega) ((by omega))) (slFrom_val (by omega))) <| tq1 (fun w_ hS_ => y_move rfl) <| tq1 (fun w_ hS_ => y_move rfl) <| tq1 (fun w_ hS_ => yV (y_slFrom rfl rfl Try.underlying54 sz23 rfl ((by omega))) (slFrom_val (by omega))) <| ?_
      refine tx (x_copy rfl rfl Try.underlying54 sz23 ((hdr.fr0 hf34).fr0 hf5) (show n - i = min (n - i) (n + 1 - (i + 1)) by omega) (hb4.fr0 hf5) (by rw [hsl4]; have : (n + 1) * 32 ≤ cap3 * 32 := Nat.mul_le_mul_right _ hc3; omega) dc_oneCell fun w6 hf6 hb6 hs6 => ?_)
      refine ⟨fun h => absurd h (by omega), ?_⟩
      rw [show 0 + (i + 1) * 32 = i * 32 + 32 by omega] at hb6
      obtain ⟨q1, q2⟩ := ins_grow (xs := dc (ds.take i)) (rest := rest) (vs := dc [d]) (ys := dc (ds.drop i)) (p := i * 32) (m := 32) (q := (n - i) * 32) lt d32 ld hrl
      refine tend <| qsub (sub_cons (t := 9) rfl <| sub_cons (t := 31) rfl <| sub_cons (t := 22) rfl <| sub_cons (t := 8) rfl <| sub_cons (t := 16) rfl <| sub_cons (t := 7) rfl <| sub_cons (t := 6) rfl <| sub_cons (t := 0) rfl <| sub_cons (t := 1) rfl <| sub_cons (t := 2) rfl <| sub_nil) <| qthen <| cseq <| creg <| nq (y_move rfl) <| nq (y_assign rfl) <| nend <| qsub (sub_cons (t := 6) rfl <| sub_cons (t := 9) rfl <| sub_cons (t := 31) rfl <| sub_cons (t := 22) rfl <| sub_cons (t := 8) rfl <| sub_cons (t := 16) rfl <| sub_cons (t := 7) rfl <| sub_cons (t := 0) rfl <| sub_cons (t := 1) rfl <| sub_cons (t := 2) rfl <| sub_nil) <| qthen <| cret <| qthen_ret <| ?_
      refine ret1 trivial rfl rfl ⟨_, rfl, ⟨?_, .inr ⟨g3, 0, cap3, _, rfl, hg3b, hb6, hc3, hm3, by rw [q2, hl3]; omega, ?_⟩⟩, ((hf34.trans0 hf5).new hf6 (fun j hj => by omega)).mono (fun _ _ e => e.elim)⟩
      · rw [dc_append, dc_append, List.length_append, List.length_append, lt, ld, d32]
        omega
      · rw [List.drop_zero, dc_append, dc_append, ← q1]
        congr 1
        omega
    · have hcap : n + 1 ≤ c := by omega
      have hcl : (n + 1) * 32 ≤ c * 32 := Nat.mul_le_mul_right _ hcap
      have hsb : w.shape? g = some (23, cur.length) := by
        obtain ⟨f, h, _⟩ := hg
        simp only [World.shape?, h]
        simp
      have hsa : w.shape? g2 = some (bt, 32) := by
        simp only [World.shape?, h2]
        simp [d32]
      have hov := Lib.run_overlaps_apart (P := Try.prog) w 54 4 23 Try.underlying54 32 (fun w => Go.Eng.run_sizeOf sz23) ⟨g2, 0, none⟩ ⟨g, o + (i + 1) * 32, none⟩ 1 1 (n + 1 - (i + 1)) (c - (i + 1)) hne bt 23 32 cur.length hsa hsb (by omega) (by simp [World.frozen?, h2]) (by simp [World.frozen?, h2])
      refine cskip <| qthen <| cseq <| creg <| nq (y_move rfl) <| nq (y_move rfl) <| nq (y_move rfl) <| nq (y_add rfl rfl (w64 (by omega) (by omega))) <| nq (y_slTo rfl rfl Try.underlying54 sz23 (show ((n + 1 : Nat) : Int) = _ by omega) ((by omega))) <| nq (y_assign rfl) <| nend <| qsub (sub_cons (t := 0) rfl <| sub_cons (t := 31) rfl <| sub_cons (t := 22) rfl <| sub_cons (t := 8) rfl <| sub_cons (t := 16) rfl <| sub_cons (t := 7) rfl <| sub_cons (t := 6) rfl <| sub_cons (t := 1) rfl <| sub_cons (t := 2) rfl <| sub_nil) <| qthen <| cseq <| cseq <| creg <| nq (y_move rfl) <| nq (y_move rfl) <| nq (y_move rfl) <| nq (y_move rfl) <| nq (y_add rfl rfl (w64 (by omega) (by omega))) <| nq (yV (y_slFrom rfl rfl Try.underlying54 sz23 (show ((i + 1 : Nat) : Int) = _ by omega) ((by omega))) (slFrom_val (by omega))) <| ?_
      refine nq (y_ext rfl Try.func75 (by kernel_rfl) (by kernel_rfl) (by kernel_rfl) (show _ = some (Extern.SlicesOverlaps.overlaps #[54, 54] #[4]) by kernel_rfl) hov) ?_
      refine nq ((y_not rfl)) <| nend <| qsub (sub_cons (t := 68) rfl <| sub_cons (t := 0) rfl <| sub_cons (t := 31) rfl <| sub_cons (t := 22) rfl <| sub_cons (t := 8) rfl <| sub_cons (t := 16) rfl <| sub_cons (t := 7) rfl <| sub_cons (t := 6) rfl <| sub_cons (t := 1) rfl <| sub_cons (t := 2) rfl <| sub_nil) <| qthen <| ?_
      refine cift rfl (rfl) ?_
      refine cseq <| ?_
      refine cdrwT [8] [(0, some 0), (1, some 0), (2, some 0), (3, some 0), (4, some 0), (5, some 0), (6, some 0), (7, some 0), (8, none)] (by kernel_rfl) (by kernel_rfl) rfl (fun k w' => k = 0 → Fr No w w') (fun _ => Fr.drew _) (fun w5 hf5 hS5 => ?_)
      refine tq1 (fun w_ hS_ => y_move rfl) <| tq1 (fun w_ hS_ => y_move rfl) <| tq1 (fun w_ hS_ => y_move rfl) <| tq1 (fun w_ hS_ => y_add rfl rfl (w64 (by omega) (by omega))) <| tq1 (fun w_ hS_ => yV (y_slFrom rfl rfl Try.underlying54 sz23 (show ((i + 1 : Nat) : Int) = _ by omega) ((by omega))) (slFrom_val (by omega))) <| tq1 (fun w_ hS_ => y_move rfl) <| tq1 (fun w_ hS_ => y_move rfl) <| tq1 (fun w_ hS_ => yV (y_slFrom rfl rfl Try.underlying54 sz23 rfl ((by omega))) (slFrom_val (by omega))) <| ?_
      refine tx (x_copy rfl rfl Try.underlying54 sz23 (hdr.fr0 hf5) (show n - i = min (n + 1 - i) (n + 1 - (i + 1)) by omega) (hg.fr0 hf5) (by omega) dc_oneCell fun w6 hf6 hb6 hs6 => ?_)
      refine ⟨fun h => absurd h (by omega), ?_⟩
      have hsl6 : (splice cur (o + (i + 1) * 32) (dc (ds.drop i))).length = cur.length := splice_length (by rw [ld]; omega)
      refine tend <| qsub (sub_cons (t := 68) rfl <| sub_cons (t := 0) rfl <| sub_cons (t := 31) rfl <| sub_cons (t := 22) rfl <| sub_cons (t := 8) rfl <| sub_cons (t := 16) rfl <| sub_cons (t := 7) rfl <| sub_cons (t := 6) rfl <| sub_cons (t := 1) rfl <| sub_cons (t := 2) rfl <| sub_nil) <| qthen <| cseq <| creg <| nq (y_move rfl) <| nq (y_move rfl) <| nq (yV (y_slFrom rfl rfl Try.underlying54 sz23 rfl ((by omega))) (slFrom_val (by omega))) <| nq (y_move rfl) <| ?_
      refine nx (x_copy rfl rfl Try.underlying54 sz23 ((r2.fr0 hf5).fr hf6 (fun a ha => by cases ha; exact hne)) (show 1 = min 1 (n + 1 - i) by omega) hb6 (by rw [hsl6]; omega) dc_oneCell fun w7 hf7 hb7 hs7 => ?_)
      rw [show o + (i + 1) * 32 = o + i * 32 + 32 by omega] at hb7
      have hw : (cur.drop o).take (i * 32 + (n - i) * 32) = dc (ds.take i) ++ dc (ds.drop i) := by
        rw [← dc_append, List.take_append_drop, ← htake]
        congr 1
        omega
      obtain ⟨q1, q2⟩ := ins_room (cur := cur) (xs := dc (ds.take i)) (vs := dc [d]) (ys := dc (ds.drop i)) (o := o) (p := i * 32) (m := 32) (q := (n - i) * 32) hw lt d32 ld (by omega)
      refine nend <| qsub (sub_cons (t := 68) rfl <| sub_cons (t := 0) rfl <| sub_cons (t := 31) rfl <| sub_cons (t := 22) rfl <| sub_cons (t := 8) rfl <| sub_cons (t := 16) rfl <| sub_cons (t := 7) rfl <| sub_cons (t := 6) rfl <| sub_cons (t := 1) rfl <| sub_cons (t := 2) rfl <| sub_nil) <| qthen <| cseq <| creg <| nq (y_move rfl) <| nq (y_assign rfl) <| nend <| qsub (sub_cons (t := 6) rfl <| sub_cons (t := 68) rfl <| sub_cons (t := 0) rfl <| sub_cons (t := 31) rfl <| sub_cons (t := 22) rfl <| sub_cons (t := 8) rfl <| sub_cons (t := 16) rfl <| sub_cons (t := 7) rfl <| sub_cons (t := 1) rfl <| sub_cons (t := 2) rfl <| sub_nil) <| qthen <| cret <| qthen_ret <| ?_
      refine ret1 trivial rfl rfl ⟨_, rfl, ⟨?_, .inr ⟨g, o, c, _, rfl, hbg, hb7, hcap, hcm, by rw [q2]; exact hcs, ?_⟩⟩, ?_⟩
      · rw [dc_append, dc_append, List.length_append, List.length_append, lt, ld, d32]
        omega
      · rw [dc_append, dc_append, ← q1]
        congr 1
        omega
      · have h67 : Fr (fun i => i = g) w w7 := (hf5.trans hf6 (fun _ e => e.elim) (fun _ _ hi => hi)).trans hf7 (fun _ e => e) (fun _ _ hi => hi)
        exact h67.mono (fun _ _ hi => hi)
end Go.Proofs.Ytpcgpnijhpcbeaa
