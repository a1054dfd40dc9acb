/- The engine, eighth part: a statement whose order is open, walked in one order, where what is known of the worlds changes as the statement goes on. No statement is proved here. -/
import Derived.Test.YtflcokdkobhieaaEng7
set_option linter.unusedVariables false
set_option linter.unusedSimpArgs false
namespace Go.Eng
open Go.RowKit
section
variable {P : Program} {ops : Array Oper} {Q : Exit → Act → World → Prop}
/-- whatever comes up next: S tells of the world, by what is done then -/
def wpG (P : Program) (ops : Array Oper) (Q : Exit → Act → World → Prop) (S : Array Bool → World → Prop) : Nat → Array Bool → Act → World → Prop
  | 0, l, a, w => Region.ready .any ops l = [] ∧ Q .normal a w
  | n + 1, l, a, w => (Region.ready .any ops l = [] → Q .normal a w) ∧
    ∀ i ∈ Region.ready .any ops l, wpOp P ops Q i (fun a' w' => S (l.setIfInBounds i true) w' ∧ wpG P ops Q S n (l.setIfInBounds i true) a' w') a w
theorem wpAny_of_wpG {S : Array Bool → World → Prop} : ∀ (n : Nat) (l : Array Bool) (a : Act) (w : World), wpG P ops Q S n l a w → wpAny P .any ops Q n l a w
  | 0, _, _, _, h => h
  | n + 1, l, _, _, h => ⟨h.1, fun i hi => wpOp_mono (fun a' w' h' => wpAny_of_wpG n _ a' w' h'.2) (h.2 i hi)⟩
/-- what is done had all done that it waits for -/
def Kept (ops : Array Oper) (l : Array Bool) : Prop := ∀ j, l.getD j false = true → ∀ o, ops[j]? = some o → ∀ e ∈ o.after, Region.binds .any e = true → l.getD e.on false = true
theorem Kept.set {l : Array Bool} (h : Kept ops l) {j : Nat} (hj : j ∈ Region.ready .any ops l) : Kept ops (l.setIfInBounds j true) := by
  intro k hk o ho e he hb
  by_cases hjk : j = k
  · subst hjk
    obtain ⟨_, o', ho', hall⟩ := mem_ready.1 hj
    rw [ho] at ho'
    cases ho'
    exact getD_set_true (hall e he hb)
  · rw [getD_set_ne false hjk] at hk
    exact getD_set_true (h k hk o ho e he hb)
theorem unlisted_false {l : Array Bool} {i : Nat} (h : l.getD i true = false) : l.getD i false = false := by
  rcases Nat.lt_or_ge i l.size with h' | h'
  · simp [h'] at h ⊢; exact h
  · simp [Array.getElem?_eq_none h'] at h
theorem wpG_first {S : Array Bool → World → Prop} {i : Nat} {oi : Oper} {v : Value} (hi : ops[i]? = some oi) (hsel : ∀ (j : Nat) (o : Oper) cs b, ops[j]? = some o → o.op ≠ .select cs b)
    (hQ : ∀ c a w, Q (.panic c) (a.put oi.dst v) w → Q (.panic c) a w) (R : Array Bool → Prop) (hR : ∀ l j, R l → j ∈ Region.ready .any ops l → R (l.setIfInBounds j true)) (hS : ∀ l w, S (l.setIfInBounds i true) w ↔ S l w) :
    ∀ (n : Nat) (l : Array Bool) (a : Act) (w : World),
      (∀ j oj, ops[j]? = some oj → j ≠ i → l.getD j true = false → (∀ e ∈ oj.after, Region.binds .any e = true → e.on ≠ i) → oi.apart ops oj = true) →
      i ∈ Region.ready .any ops l → YieldsIf P ops (fun w => ∃ l', R l' ∧ l'.getD i true = false ∧ S l' w) oi v a → R l → S l w →
      wpG P ops Q S n (l.setIfInBounds i true) (a.put oi.dst v) w → wpG P ops Q S (n + 1) l a w := by
  intro n
  induction n with
  | zero =>
    intro l a w _ hr hy hRl hSl H
    refine ⟨fun h => (by rw [h] at hr; cases hr), fun j hj => ?_⟩
    by_cases hji : j = i
    · subst hji
      exact hy.wpOp hi ⟨l, hRl, (mem_ready.1 hr).1, hSl⟩ ⟨(hS l w).2 hSl, H⟩
    · have := ready_mono hj hji
      rw [H.1] at this
      cases this
  | succ n ih =>
    intro l a w hfree hr hy hRl hSl H
    refine ⟨fun h => (by rw [h] at hr; cases hr), fun j hj => ?_⟩
    by_cases hji : j = i
    · subst hji
      exact hy.wpOp hi ⟨l, hRl, (mem_ready.1 hr).1, hSl⟩ ⟨(hS l w).2 hSl, H⟩
    · have h1 := H.2 j (ready_mono hj hji)
      obtain ⟨hjun, oj, hoj, hall⟩ := mem_ready.1 hj
      have hiun := unlisted_false (mem_ready.1 hr).1
      have hnot : ∀ e ∈ oj.after, Region.binds .any e = true → e.on ≠ i := fun e he hb heq => by
        have h1 := hall e he hb
        rw [heq, hiun] at h1
        cases h1
      have h2 := wpOp_putIf hoj (hfree j oj hoj hji hjun hnot) (fun cs b => hsel i oi cs b hi) (fun cs b => hsel j oj cs b hoj) hQ hy h1
      have hfree' : ∀ k ok, ops[k]? = some ok → k ≠ i → (l.setIfInBounds j true).getD k true = false →
          (∀ e ∈ ok.after, Region.binds .any e = true → e.on ≠ i) → oi.apart ops ok = true := fun k ok hk hki hun hno => by
        refine hfree k ok hk hki ?_ hno
        by_cases hjk : j = k
        · subst hjk; exact hjun
        · rw [getD_set_ne true hjk] at hun; exact hun
      refine wpOp_mono (fun a' w' h3 => ?_) h2
      have h4 := h3.2.1
      have h5 := h3.2.2
      rw [Array.setIfInBounds_comm _ _ (Ne.symm hji)] at h4 h5
      have h6 := (hS _ _).1 h4
      exact ⟨h6, ih (l.setIfInBounds j true) a' w' hfree' (ready_mono hr (Ne.symm hji)) h3.1 (hR l j hRl hj) h6 h5⟩
def cnt (X : List Nat) (l : Array Bool) : Nat := X.countP fun x => l.getD x false
theorem cnt_ne {X : List Nat} {i : Nat} (h : X.contains i = false) (l : Array Bool) : cnt X (l.setIfInBounds i true) = cnt X l := by
  unfold cnt
  apply List.countP_congr
  intro x hx
  have : i ≠ x := by
    rintro rfl
    have : X.contains i = true := by simpa using hx
    rw [h] at this
    cases this
  rw [getD_set_ne false this]
theorem cnt_set {X : List Nat} {i : Nat} {l : Array Bool} (h : l.getD i true = false) : cnt X (l.setIfInBounds i true) = cnt X l + X.count i := by
  have hi := unlisted_false h
  have hlt : i < l.size := by
    rcases Nat.lt_or_ge i l.size with h' | h'
    · exact h'
    · simp [Array.getElem?_eq_none h'] at h
  have hs : (l.setIfInBounds i true).getD i false = true := by simp [hlt]
  induction X with
  | nil => rfl
  | cons x r ih =>
    unfold cnt at ih ⊢
    rw [List.countP_cons, List.countP_cons, List.count_cons, ih]
    by_cases hx : i = x
    · subst hx
      simp only [hs, hi, beq_self_eq_true, if_true]
      simp
      omega
    · rw [getD_set_ne false hx]
      have : (x == i) = false := by simp [Ne.symm hx]
      simp only [this]
      simp
      omega
theorem cnt_mono {X : List Nat} {l l' : Array Bool} (h : ∀ q, l.getD q false = true → l'.getD q false = true) : cnt X l ≤ cnt X l' :=
  List.countP_mono_left fun x _ hx => h x hx
/-- number j waits for number i -/
def needs (ops : Array Oper) (i : Nat) : Nat → Nat → Bool
  | 0, _ => false
  | n + 1, j => match ops[j]? with
    | some o => o.after.any fun e => Region.binds .any e && (e.on == i || needs ops i n e.on)
    | none => false
theorem needs_spec {l : Array Bool} (h : Kept ops l) {i : Nat} (hi : l.getD i true = false) : ∀ (n j : Nat), needs ops i n j = true → l.getD j false = false
  | 0, j, hn => by cases hn
  | n + 1, j, hn => by
    unfold needs at hn
    cases ho : ops[j]? with
    | none => rw [ho] at hn; cases hn
    | some o =>
      rw [ho] at hn
      obtain ⟨e, he, hb⟩ := Array.any_eq_true'.1 hn
      simp only [Bool.and_eq_true, Bool.or_eq_true, beq_iff_eq] at hb
      cases hj : l.getD j false with
      | false => rfl
      | true =>
        have := h j hj o ho e he hb.1
        rcases hb.2 with h1 | h1
        · rw [h1, unlisted_false hi] at this; cases this
        · rw [needs_spec h hi n _ h1] at this; cases this
theorem cnt_cap {X : List Nat} {l : Array Bool} (h : Kept ops l) {i m n : Nat} (hi : l.getD i true = false) (hx : (X.drop m).all (needs ops i n) = true) : cnt X l ≤ m := by
  have e : cnt X l = cnt (X.take m) l + cnt (X.drop m) l := by
    unfold cnt
    rw [← List.countP_append, List.take_append_drop]
  have e2 : cnt (X.drop m) l = 0 := by
    unfold cnt
    rw [List.countP_eq_zero]
    intro x hx'
    have := List.all_eq_true.1 hx x hx'
    rw [needs_spec h hi n x this]
    simp
  have e3 : cnt (X.take m) l ≤ m := by
    unfold cnt
    exact Nat.le_trans List.countP_le_length (by rw [List.length_take]; omega)
  omega
/-- the order L may be taken -/
def seqOkG (ops : Array Oper) (X : List Nat) : List (Nat × Option Nat) → Array Bool → Bool
  | [], l => (Region.ready .any ops l).isEmpty
  | (i, none) :: r, l => (Region.ready .any ops l == [i]) && X.count i == 1 && seqOkG ops X r (l.setIfInBounds i true)
  | (i, some m) :: r, l => Region.free .any ops l i && (Region.ready .any ops l).contains i && !X.contains i && (X.drop m).all (needs ops i 4) && seqOkG ops X r (l.setIfInBounds i true)
def pickG (ops : Array Oper) : List (Nat × Option Nat) → Option (List (Option Nat × Oper))
  | [] => some []
  | (i, x) :: r => match ops[i]?, pickG ops r with
    | some o, some l => some ((x, o) :: l)
    | _, _ => none
/-- T k: what is known of the world when k of those that may change it are done -/
def wpSeqG (P : Program) (ops : Array Oper) (Q : Exit → Act → World → Prop) (T : Nat → World → Prop) : Nat → List (Option Nat × Oper) → Act → World → Prop
  | _, [], a, w => Q .normal a w
  | k, (none, o) :: r, a, w => if Region.wanted o (yielded ops a.tmps) = true then o.wp P a w (fun a' w' => T (k + 1) w' ∧ wpSeqG P ops Q T (k + 1) r a' w') Q else T (k + 1) w ∧ wpSeqG P ops Q T (k + 1) r (a.put o.dst undef) w
  | k, (some m, o) :: r, a, w => ∃ v, YieldsIf P ops (fun w' => ∃ k', k ≤ k' ∧ k' ≤ m ∧ T k' w') o v a ∧ wpSeqG P ops Q T k r (a.put o.dst v) w
theorem wpG_of_seq {T : Nat → World → Prop} {X : List Nat} (hs : Region.noSelect ops = true) (hQ : ∀ c a d v w, Q (.panic c) (a.put d v) w → Q (.panic c) a w) : ∀ (L : List (Nat × Option Nat)) (sq : List (Option Nat × Oper)) (l : Array Bool) (a : Act) (w : World) (n k : Nat),
    pickG ops L = some sq → seqOkG ops X L l = true → L.length ≤ n → Kept ops l → cnt X l = k → T k w → wpSeqG P ops Q T k sq a w → wpG P ops Q (fun l w => T (cnt X l) w) n l a w
  | [], sq, l, a, w, n, k, hp, hk, _, _, _, _, h => by
    simp only [pickG, Option.some.injEq] at hp
    subst hp
    have hr : Region.ready .any ops l = [] := by simpa [seqOkG] using hk
    cases n with
    | zero => exact ⟨hr, h⟩
    | succ n => exact ⟨fun _ => h, by rw [hr]; simp⟩
  | (i, x) :: r, sq, l, a, w, 0, k, hp, hk, hf, _, _, _, h => by simp at hf
  | (i, x) :: r, sq, l, a, w, n + 1, k, hp, hk, hf, hK, hc, hT, h => by
    unfold pickG at hp
    split at hp
    · rename_i o l' ho hl'
      cases hp
      have hf' : r.length ≤ n := by simp at hf; omega
      cases x with
      | none =>
        simp only [seqOkG, Bool.and_eq_true, beq_iff_eq] at hk
        obtain ⟨⟨hrd, hct⟩, hk⟩ := hk
        have hmem : i ∈ Region.ready .any ops l := by rw [hrd]; simp
        have hcs : cnt X (l.setIfInBounds i true) = k + 1 := by rw [cnt_set (mem_ready.1 hmem).1, hct, hc]
        have hK' := hK.set hmem
        refine ⟨fun h0 => (by rw [h0] at hmem; cases hmem), fun j hj => ?_⟩
        have hji : j = i := by rw [hrd] at hj; simpa using hj
        subst hji
        unfold wpOp
        simp only [ho]
        simp only [wpSeqG] at h
        split at h
        · rename_i hw
          rw [if_pos hw]
          refine .inl (Oper.wp_mono ?_ h)
          rintro a' w' ⟨hS', h'⟩
          exact ⟨by rw [hcs]; exact hS', wpG_of_seq hs hQ r l' _ a' w' n (k + 1) hl' hk hf' hK' hcs hS' h'⟩
        · rename_i hw
          rw [if_neg hw]
          exact ⟨by rw [hcs]; exact h.1, wpG_of_seq hs hQ r l' _ _ w n (k + 1) hl' hk hf' hK' hcs h.1 h.2⟩
      | some m =>
        simp only [seqOkG, Bool.and_eq_true, Bool.not_eq_true'] at hk
        obtain ⟨⟨⟨⟨hfree, hcon⟩, hX⟩, hcap⟩, hk⟩ := hk
        obtain ⟨v, hy, h'⟩ := h
        have hmem : i ∈ Region.ready .any ops l := by simpa using hcon
        have hcs : cnt X (l.setIfInBounds i true) = k := by rw [cnt_ne hX, hc]
        refine wpG_first ho (Region.noSelect_spec hs) (fun c a w => hQ c a _ _ w) (fun l' => Kept ops l' ∧ ∀ q, l.getD q false = true → l'.getD q false = true) (fun l' j hR hj => ⟨hR.1.set hj, fun q hq => getD_set_true (hR.2 q hq)⟩)
          (fun l' w' => by rw [cnt_ne hX]) n l a w (Region.free_spec ho hfree) hmem ?_ ⟨hK, fun q hq => hq⟩ (by rw [hc]; exact hT) (wpG_of_seq hs hQ r l' _ _ w n k hl' hk hf' (hK.set hmem) hcs hT h')
        rcases hy with ⟨hw, hv⟩ | hy
        · refine .inl ⟨hw, fun w' hw' => hv w' ?_⟩
          obtain ⟨l2, ⟨hK2, hsub⟩, hun, hT2⟩ := hw'
          exact ⟨cnt X l2, by rw [← hc]; exact cnt_mono hsub, cnt_cap hK2 hun hcap, hT2⟩
        · exact .inr hy
    · cases hp
theorem wp_region_seqG {T : Nat → World → Prop} {X : List Nat} {id : Nat} {a : Act} {w : World} {sq : List (Option Nat × Oper)} (L : List (Nat × Option Nat)) (hm : P.follows .mixedOrders = true) (hs : Region.noSelect ops = true) (hk : seqOkG ops X L (Array.replicate ops.size false) = true) (hn : L.length ≤ ops.size)
    (hp : pickG ops L = some sq) (hT : T 0 w.drew) (h : wpSeqG P ops (NoPan Q) T 0 sq a w.drew) : (Code.region id ops true).wp P Q a w := by
  refine Code.wp_mono (Q := NoPan Q) (fun e a w q => by cases e <;> first | exact q | exact q.elim) ?_
  refine wp_region_any hm (wpAny_of_wpG _ _ _ _ (wpG_of_seq (X := X) hs (fun c a d v w q => q.elim) L sq _ a _ _ 0 hp hk hn ?_ ?_ hT h))
  · intro j hj
    simp [Array.getElem?_replicate] at hj
    split at hj <;> cases hj
  · unfold cnt
    rw [List.countP_eq_zero]
    intro x _
    simp [Array.getElem?_replicate]
    split <;> rfl
end
def WT (P : Program) (ops : Array Oper) (Q : Exit → Act → World → Prop) (T : Nat → World → Prop) (N : Nat) (D : List Deferred) (k : Nat) (l : List (Option Nat × Oper)) (ρ : Env) (w : World) : Prop :=
  ∀ a, Ag N D ρ a → wpSeqG P ops Q T k l a w
section
variable {P : Program} {ops : Array Oper} {Q : Exit → Act → World → Prop} {T : Nat → World → Prop} {N : Nat} {D : List Deferred} {ρ ρ' : Env} {w : World} {rest : List (Option Nat × Oper)}
  {op : Op} {ty : TypeId} {pos : String} {af : Array Edge} {d k m : Nat} {v : Value}
theorem cdrwT {id : Nat} {l : List (Option Nat × Oper)} (X : List Nat) (L : List (Nat × Option Nat)) (hm : P.follows .mixedOrders = true) (hk : (Region.noSelect ops && seqOkG ops X L (Array.replicate ops.size false) && decide (L.length ≤ ops.size)) = true)
    (hp : pickG ops L = some l) (T : Nat → World → Prop) (hT : T 0 w.drew) (h : ∀ w', Fr No w w' → T 0 w' → WT P ops (NoPan Q) T N D 0 l ρ w') : WC P Q N D (.region id ops true) ρ w := by
  intro a ha
  simp only [Bool.and_eq_true, decide_eq_true_eq] at hk
  exact wp_region_seqG (X := X) L hm hk.1.1 hk.1.2 hk.2 hp hT (h _ (Fr.drew w) hT a ha)
theorem tq (h : ∀ k' w', k ≤ k' → k' ≤ m → T k' w' → Yl P N D ρ w' op ty v) (kk : WT P ops Q T N D k rest ((d, v) :: ρ) w) (hd : d < N := by decide) : WT P ops Q T N D k ((some m, ⟨some d, op, ty, pos, af, none⟩) :: rest) ρ w := by
  intro a ha
  refine ⟨v, .inl ⟨by simp [Region.wanted], fun w' hS => ?_⟩, kk _ (ha.put hd)⟩
  obtain ⟨k', h1, h2, h3⟩ := hS
  exact h k' w' h1 h2 h3 a _ pos af none ha
theorem tqg {g gd : Nat} {want : Bool} {o : Oper} (ho : ops[g]? = some o) (hod : o.dst = some gd) (hb : get ρ gd = some (.bool want)) (h : ∀ k' w', k ≤ k' → k' ≤ m → T k' w' → Yl P N D ρ w' op ty v) (kk : WT P ops Q T N D k rest ((d, v) :: ρ) w) (hd : d < N := by decide) :
    WT P ops Q T N D k ((some m, ⟨some d, op, ty, pos, af, some (g, want)⟩) :: rest) ρ w := by
  intro a ha
  refine ⟨v, .inl ⟨by simp [Region.wanted, yielded, ho, hod, ha.gt _ _ hb], fun w' hS => ?_⟩, kk _ (ha.put hd)⟩
  obtain ⟨k', h1, h2, h3⟩ := hS
  exact h k' w' h1 h2 h3 a _ pos af _ ha
theorem tx (h : XW P Q N D ρ w op ty (fun v w' => T (k + 1) w' ∧ WT P ops Q T N D (k + 1) rest ((d, v) :: ρ) w')) (hd : d < N := by decide) : WT P ops Q T N D k ((none, ⟨some d, op, ty, pos, af, none⟩) :: rest) ρ w := by
  intro a ha
  unfold wpSeqG
  rw [if_pos (by simp [Region.wanted])]
  refine Oper.wp_mono ?_ (h a (some d) pos af none ha)
  rintro a' w' ⟨v, rfl, hS, hk⟩
  exact ⟨hS, hk _ (ha.put hd)⟩
theorem tx0 (h : XW P Q N D ρ w op ty (fun _ w' => T (k + 1) w' ∧ WT P ops Q T N D (k + 1) rest ρ w')) : WT P ops Q T N D k ((none, ⟨none, op, ty, pos, af, none⟩) :: rest) ρ w := by
  intro a ha
  unfold wpSeqG
  rw [if_pos (by simp [Region.wanted])]
  refine Oper.wp_mono ?_ (h a none pos af none ha)
  rintro a' w' ⟨v, rfl, hS, hk⟩
  exact ⟨hS, hk _ ha⟩
theorem txg {g gd : Nat} {want : Bool} {o : Oper} (ho : ops[g]? = some o) (hod : o.dst = some gd) (hb : get ρ gd = some (.bool want)) (h : XW P Q N D ρ w op ty (fun v w' => T (k + 1) w' ∧ WT P ops Q T N D (k + 1) rest ((d, v) :: ρ) w')) (hd : d < N := by decide) :
    WT P ops Q T N D k ((none, ⟨some d, op, ty, pos, af, some (g, want)⟩) :: rest) ρ w := by
  intro a ha
  unfold wpSeqG
  rw [if_pos (by simp [Region.wanted, yielded, ho, hod, ha.gt _ _ hb])]
  refine Oper.wp_mono ?_ (h a (some d) pos af _ ha)
  rintro a' w' ⟨v, rfl, hS, hk⟩
  exact ⟨hS, hk _ (ha.put hd)⟩
/-- a yield that comes alone -/
theorem tsolo (hS : T (k + 1) w) (h : Yl P N D ρ w op ty v) (kk : WT P ops Q T N D (k + 1) rest ((d, v) :: ρ) w) (hd : d < N := by decide) : WT P ops Q T N D k ((none, ⟨some d, op, ty, pos, af, none⟩) :: rest) ρ w := by
  intro a ha
  unfold wpSeqG
  rw [if_pos (by simp [Region.wanted])]
  unfold Oper.wp
  rw [h a _ pos af none ha]
  exact ⟨hS, kk _ (ha.put hd)⟩
theorem tsolog {g gd : Nat} {want : Bool} {o : Oper} (ho : ops[g]? = some o) (hod : o.dst = some gd) (hb : get ρ gd = some (.bool want)) (hS : T (k + 1) w) (h : Yl P N D ρ w op ty v) (kk : WT P ops Q T N D (k + 1) rest ((d, v) :: ρ) w) (hd : d < N := by decide) :
    WT P ops Q T N D k ((none, ⟨some d, op, ty, pos, af, some (g, want)⟩) :: rest) ρ w := by
  intro a ha
  unfold wpSeqG
  rw [if_pos (by simp [Region.wanted, yielded, ho, hod, ha.gt _ _ hb])]
  unfold Oper.wp
  rw [h a _ pos af _ ha]
  exact ⟨hS, kk _ (ha.put hd)⟩
theorem tq1 (h : ∀ w', T k w' → Yl P N D ρ w' op ty v) (kk : WT P ops Q T N D k rest ((d, v) :: ρ) w) (hd : d < N := by decide) : WT P ops Q T N D k ((some k, ⟨some d, op, ty, pos, af, none⟩) :: rest) ρ w :=
  tq (fun k' w' h1 h2 hT => by
    have : k' = k := by omega
    subst this
    exact h w' hT) kk hd
theorem tqg1 {g gd : Nat} {want : Bool} {o : Oper} (ho : ops[g]? = some o) (hod : o.dst = some gd) (hb : get ρ gd = some (.bool want)) (h : ∀ w', T k w' → Yl P N D ρ w' op ty v) (kk : WT P ops Q T N D k rest ((d, v) :: ρ) w) (hd : d < N := by decide) :
    WT P ops Q T N D k ((some k, ⟨some d, op, ty, pos, af, some (g, want)⟩) :: rest) ρ w :=
  tqg ho hod hb (fun k' w' h1 h2 hT => by
    have : k' = k := by omega
    subst this
    exact h w' hT) kk hd
theorem tsplit {p : Prop} [Decidable p] {l : List (Option Nat × Oper)} (gd : Nat) (hg : get ρ gd = some (.bool (decide p))) (ht : p → WT P ops Q T N D k l ((gd, .bool true) :: ρ) w) (hf : ¬ p → WT P ops Q T N D k l ((gd, .bool false) :: ρ) w) : WT P ops Q T N D k l ρ w := by
  intro a ha
  by_cases h : p
  · exact ht h a (ha.more (by rw [hg]; simp [h]))
  · exact hf h a (ha.more (by rw [hg]; simp [h]))
theorem tend (h : WQ Q N D .normal ρ w) : WT P ops (NoPan Q) T N D k [] ρ w := fun a ha => h a ha
/-- not wanted: a yield, or one that would change the world -/
theorem tskip {g gd : Nat} {want b : Bool} {o : Oper} (ho : ops[g]? = some o) (hod : o.dst = some gd) (hb : get ρ gd = some (.bool b)) (hne : b ≠ want) (kk : WT P ops Q T N D k rest ((d, undef) :: ρ) w) (hd : d < N := by decide) :
    WT P ops Q T N D k ((some m, ⟨some d, op, ty, pos, af, some (g, want)⟩) :: rest) ρ w := by
  intro a ha
  have hw : Region.wanted (⟨some d, op, ty, pos, af, some (g, want)⟩ : Oper) (yielded ops a.tmps) = false := by
    simp [Region.wanted, yielded, ho, hod, ha.gt _ _ hb, hne]
  exact ⟨undef, .inr ⟨hw, rfl⟩, kk _ (ha.put hd)⟩
theorem tskipx {g gd : Nat} {want b : Bool} {o : Oper} (ho : ops[g]? = some o) (hod : o.dst = some gd) (hb : get ρ gd = some (.bool b)) (hne : b ≠ want) (hS : T (k + 1) w) (kk : WT P ops Q T N D (k + 1) rest ((d, undef) :: ρ) w) (hd : d < N := by decide) :
    WT P ops Q T N D k ((none, ⟨some d, op, ty, pos, af, some (g, want)⟩) :: rest) ρ w := by
  intro a ha
  have hw : Region.wanted (⟨some d, op, ty, pos, af, some (g, want)⟩ : Oper) (yielded ops a.tmps) = false := by
    simp [Region.wanted, yielded, ho, hod, ha.gt _ _ hb, hne]
  unfold wpSeqG
  rw [if_neg (by simp [hw])]
  exact ⟨hS, kk _ (ha.put hd)⟩
theorem tsub (hs : Sub ρ' ρ) (h : WT P ops Q T N D k rest ρ' w) : WT P ops Q T N D k rest ρ w := fun a ha => h a (ha.sub hs)
end
end Go.Eng
