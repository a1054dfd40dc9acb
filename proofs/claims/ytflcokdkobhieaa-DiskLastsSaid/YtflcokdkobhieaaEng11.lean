/- The engine, eleventh part: a statement whose order is open, where several operations that change the world may come first: a tree of orders; and a cut behind a piece of code. No statement is proved here. -/
import Derived.Test.YtflcokdkobhieaaEng10
set_option linter.unusedVariables false
set_option linter.unusedSimpArgs false
namespace Go.Eng
open Go.RowKit
inductive Plan
  | done
  | take (i m : Nat) (r : Plan)
  | alt (i : Nat) (r q : Plan)
  | stop
inductive PlanO
  | done
  | take (o : Oper) (m : Nat) (r : PlanO)
  | alt (o : Oper) (r q : PlanO)
  | stop
def fillP (ops : Array Oper) : Plan → Option PlanO
  | .done => some .done
  | .take i m r => match ops[i]?, fillP ops r with
    | some o, some r' => some (.take o m r')
    | _, _ => none
  | .alt i r q => match ops[i]?, fillP ops r, fillP ops q with
    | some o, some r', some q' => some (.alt o r' q')
    | _, _, _ => none
  | .stop => some .stop
def alts : Plan → List Nat
  | .alt i _ q => i :: alts q
  | _ => []
def depthP : Plan → Nat
  | .done => 0
  | .take _ _ r => depthP r + 1
  | .alt _ r q => max (depthP r + 1) (depthP q)
  | .stop => 0
def okP (ops : Array Oper) (X : List Nat) : Plan → Bool → Array Bool → Bool
  | .done, top, l => top && (Region.ready .any ops l).isEmpty
  | .take i m r, top, l => top && Region.free .any ops l i && (Region.ready .any ops l).contains i && !X.contains i && (X.drop m).all (needs ops i 4) && okP ops X r true (l.setIfInBounds i true)
  | .alt i r q, top, l => (!top || Region.ready .any ops l == i :: alts q) && X.count i == 1 && okP ops X r true (l.setIfInBounds i true) && okP ops X q false l
  | .stop, top, _ => !top
section
variable {P : Program} {ops : Array Oper} {Q : Exit → Act → World → Prop}
def wpP (P : Program) (ops : Array Oper) (Q : Exit → Act → World → Prop) (T : Nat → World → Prop) : Nat → PlanO → Act → World → Prop
  | _, .done, a, w => Q .normal a w
  | k, .take o m r, a, w => ∃ v, YieldsIf P ops (fun w' => ∃ k', k ≤ k' ∧ k' ≤ m ∧ T k' w') o v a ∧ wpP P ops Q T k r (a.put o.dst v) w
  | k, .alt o r q, a, w => (if Region.wanted o (yielded ops a.tmps) = true then o.wp P a w (fun a' w' => T (k + 1) w' ∧ wpP P ops Q T (k + 1) r a' w') Q else T (k + 1) w ∧ wpP P ops Q T (k + 1) r (a.put o.dst undef) w) ∧ wpP P ops Q T k q a w
  | _, .stop, _, _ => True
theorem wpG_of_plan {T : Nat → World → Prop} {X : List Nat} (hs : Region.noSelect ops = true) (hQ : ∀ c a d v w, Q (.panic c) (a.put d v) w → Q (.panic c) a w) : ∀ (p : Plan),
    (∀ (po : PlanO) (l : Array Bool) (a : Act) (w : World) (n k : Nat), fillP ops p = some po → okP ops X p true l = true → depthP p ≤ n → Kept ops l → cnt X l = k → T k w → wpP P ops Q T k po a w → wpG P ops Q (fun l w => T (cnt X l) w) n l a w) ∧
    (∀ (po : PlanO) (l : Array Bool) (a : Act) (w : World) (n k : Nat), fillP ops p = some po → okP ops X p false l = true → depthP p ≤ n + 1 → Kept ops l → cnt X l = k → T k w → wpP P ops Q T k po a w → (∀ i ∈ alts p, i ∈ Region.ready .any ops l) →
      ∀ i ∈ alts p, wpOp P ops Q i (fun a' w' => T (cnt X (l.setIfInBounds i true)) w' ∧ wpG P ops Q (fun l w => T (cnt X l) w) n (l.setIfInBounds i true) a' w') a w)
  | .done => by
    refine ⟨fun po l a w n k hp hk _ _ _ _ h => ?_, fun po l a w n k hp hk => by simp [okP] at hk⟩
    simp only [fillP, Option.some.injEq] at hp
    subst hp
    have hr : Region.ready .any ops l = [] := by simpa [okP] using hk
    cases n with
    | zero => exact ⟨hr, h⟩
    | succ n => exact ⟨fun _ => h, by rw [hr]; simp⟩
  | .stop => by
    refine ⟨fun po l a w n k hp hk => by simp [okP] at hk, fun po l a w n k hp hk _ _ _ _ _ _ i hi => by simp [alts] at hi⟩
  | .take i m r => by
    have ih := (wpG_of_plan (T := T) (X := X) hs hQ r).1
    refine ⟨fun po l a w n k hp hk hd hK hc hT h => ?_, fun po l a w n k hp hk => by simp [okP] at hk⟩
    unfold fillP at hp
    split at hp
    · rename_i o r' ho hr'
      cases hp
      simp only [okP, Bool.and_eq_true, Bool.not_eq_true', true_and] at hk
      obtain ⟨⟨⟨⟨hfree, hcon⟩, hX⟩, hcap⟩, hk⟩ := hk
      obtain ⟨v, hy, h'⟩ := h
      have hmem : i ∈ Region.ready .any ops l := by simpa using hcon
      have hcs : cnt X (l.setIfInBounds i true) = k := by rw [cnt_ne hX, hc]
      cases n with
      | zero => simp [depthP] at hd
      | succ n =>
        refine wpG_first ho (Region.noSelect_spec hs) (fun c a w => hQ c a _ _ w) (fun l' => Kept ops l' ∧ ∀ q, l.getD q false = true → l'.getD q false = true) (fun l' j hR hj => ⟨hR.1.set hj, fun q hq => getD_set_true (hR.2 q hq)⟩)
          (fun l' w' => by rw [cnt_ne hX]) n l a w (Region.free_spec ho hfree) hmem ?_ ⟨hK, fun q hq => hq⟩ (by rw [hc]; exact hT) (ih r' _ _ w n k hr' hk (by simpa [depthP] using hd) (hK.set hmem) hcs hT h')
        rcases hy with ⟨hw, hv⟩ | hy
        · refine .inl ⟨hw, fun w' hw' => hv w' ?_⟩
          obtain ⟨l2, ⟨hK2, hsub⟩, hun, hT2⟩ := hw'
          exact ⟨cnt X l2, by rw [← hc]; exact cnt_mono hsub, cnt_cap hK2 hun hcap, hT2⟩
        · exact .inr hy
    · cases hp
  | .alt i r q => by
    have ih := (wpG_of_plan (T := T) (X := X) hs hQ r).1
    have ihq := (wpG_of_plan (T := T) (X := X) hs hQ q).2
    have chain : ∀ (po : PlanO) (l : Array Bool) (a : Act) (w : World) (n k : Nat), fillP ops (.alt i r q) = some po → (X.count i == 1 && okP ops X r true (l.setIfInBounds i true) && okP ops X q false l) = true → depthP (.alt i r q) ≤ n + 1 → Kept ops l → cnt X l = k → T k w → wpP P ops Q T k po a w → (∀ j ∈ i :: alts q, j ∈ Region.ready .any ops l) →
        ∀ j ∈ i :: alts q, wpOp P ops Q j (fun a' w' => T (cnt X (l.setIfInBounds j true)) w' ∧ wpG P ops Q (fun l w => T (cnt X l) w) n (l.setIfInBounds j true) a' w') a w := by
      intro po l a w n k hp hk hd hK hc hT h hsub j hj
      unfold fillP at hp
      split at hp
      · rename_i o r' q' ho hr' hq'
        cases hp
        simp only [Bool.and_eq_true, beq_iff_eq] at hk
        obtain ⟨⟨hct, hkr⟩, hkq⟩ := hk
        simp only [depthP] at hd
        rcases List.mem_cons.1 hj with rfl | hj
        · have hmem := hsub j (List.mem_cons_self ..)
          have hcs : cnt X (l.setIfInBounds j true) = k + 1 := by rw [cnt_set (mem_ready.1 hmem).1, hct, hc]
          have hK' := hK.set hmem
          have h := h.1
          unfold wpOp
          simp only [ho]
          split at h
          · rename_i hw
            rw [if_pos hw]
            refine .inl (Oper.wp_mono ?_ h)
            rintro a' w' ⟨hS', h'⟩
            exact ⟨by rw [hcs]; exact hS', ih r' _ a' w' n (k + 1) hr' hkr (by omega) hK' hcs hS' h'⟩
          · rename_i hw
            rw [if_neg hw]
            exact ⟨by rw [hcs]; exact h.1, ih r' _ _ w n (k + 1) hr' hkr (by omega) hK' hcs h.1 h.2⟩
        · exact ihq q' l a w n k hq' hkq (by omega) hK hc hT h.2 (fun i hi => hsub i (List.mem_cons_of_mem _ hi)) j hj
      · cases hp
    refine ⟨fun po l a w n k hp hk hd hK hc hT h => ?_, fun po l a w n k hp hk hd hK hc hT h hsub j hj => ?_⟩
    · simp only [okP, Bool.not_true, Bool.false_or, Bool.and_eq_true, beq_iff_eq] at hk
      obtain ⟨⟨⟨hrd, h1⟩, h2⟩, h3⟩ := hk
      cases n with
      | zero => simp only [depthP] at hd; omega
      | succ n =>
        refine ⟨fun h0 => (by rw [h0] at hrd; cases hrd), fun j hj => ?_⟩
        rw [hrd] at hj
        exact chain po l a w n k hp (by simp [h1, h2, h3]) hd hK hc hT h (fun i hi => by rw [hrd]; exact hi) j hj
    · simp only [okP, Bool.not_false, Bool.true_or, Bool.true_and] at hk
      exact chain po l a w n k hp hk hd hK hc hT h hsub j hj
theorem wp_region_plan {T : Nat → World → Prop} {X : List Nat} {id : Nat} {a : Act} {w : World} {po : PlanO} (p : Plan) (hm : P.follows .mixedOrders = true) (hs : Region.noSelect ops = true) (hk : okP ops X p true (Array.replicate ops.size false) = true) (hn : depthP p ≤ ops.size)
    (hp : fillP ops p = some po) (hT : T 0 w.drew) (h : wpP P ops (NoPan Q) T 0 po a w.drew) : (Code.region id ops true).wp P Q a w := by
  refine Code.wp_mono (Q := NoPan Q) (fun e a w q => by cases e <;> first | exact q | exact q.elim) ?_
  refine wp_region_any hm (wpAny_of_wpG _ _ _ _ ((wpG_of_plan (X := X) hs (fun c a d v w q => q.elim) p).1 po _ a _ _ 0 hp hk hn ?_ ?_ hT h))
  · intro j hj
    simp [Array.getElem?_replicate] at hj
    split at hj <;> cases hj
  · unfold cnt
    rw [List.countP_eq_zero]
    intro x _
    simp [Array.getElem?_replicate]
    split <;> rfl
end
def WP (P : Program) (ops : Array Oper) (Q : Exit → Act → World → Prop) (T : Nat → World → Prop) (N : Nat) (D : List Deferred) (k : Nat) (p : PlanO) (ρ : Env) (w : World) : Prop :=
  ∀ a, Ag N D ρ a → wpP P ops Q T k p a w
section
variable {P : Program} {ops : Array Oper} {Q : Exit → Act → World → Prop} {T : Nat → World → Prop} {N : Nat} {D : List Deferred} {ρ ρ' : Env} {w : World} {rest q : PlanO}
  {op : Op} {ty : TypeId} {pos : String} {af : Array Edge} {d k m : Nat} {v : Value}
theorem cdrwP {id : Nat} {po : PlanO} (X : List Nat) (p : Plan) (hm : P.follows .mixedOrders = true) (hk : (Region.noSelect ops && okP ops X p true (Array.replicate ops.size false) && decide (depthP p ≤ ops.size)) = true)
    (hp : fillP ops p = some po) (T : Nat → World → Prop) (hT : T 0 w.drew) (h : ∀ w', Fr No w w' → T 0 w' → WP P ops (NoPan Q) T N D 0 po ρ w') : WC P Q N D (.region id ops true) ρ w := by
  intro a ha
  simp only [Bool.and_eq_true, decide_eq_true_eq] at hk
  exact wp_region_plan (X := X) p hm hk.1.1 hk.1.2 hk.2 hp hT (h _ (Fr.drew w) hT a ha)
theorem pq (h : ∀ k' w', k ≤ k' → k' ≤ m → T k' w' → Yl P N D ρ w' op ty v) (kk : WP P ops Q T N D k rest ((d, v) :: ρ) w) (hd : d < N := by decide) : WP P ops Q T N D k (.take ⟨some d, op, ty, pos, af, none⟩ m rest) ρ w := by
  intro a ha
  refine ⟨v, .inl ⟨by simp [Region.wanted], fun w' hS => ?_⟩, kk _ (ha.put hd)⟩
  obtain ⟨k', h1, h2, h3⟩ := hS
  exact h k' w' h1 h2 h3 a _ pos af none ha
theorem pqg {g gd : Nat} {want : Bool} {o : Oper} (ho : ops[g]? = some o) (hod : o.dst = some gd) (hb : get ρ gd = some (.bool want)) (h : ∀ k' w', k ≤ k' → k' ≤ m → T k' w' → Yl P N D ρ w' op ty v) (kk : WP P ops Q T N D k rest ((d, v) :: ρ) w) (hd : d < N := by decide) :
    WP P ops Q T N D k (.take ⟨some d, op, ty, pos, af, some (g, want)⟩ m rest) ρ w := by
  intro a ha
  refine ⟨v, .inl ⟨by simp [Region.wanted, yielded, ho, hod, ha.gt _ _ hb], fun w' hS => ?_⟩, kk _ (ha.put hd)⟩
  obtain ⟨k', h1, h2, h3⟩ := hS
  exact h k' w' h1 h2 h3 a _ pos af _ ha
theorem pq1 (h : ∀ w', T k w' → Yl P N D ρ w' op ty v) (kk : WP P ops Q T N D k rest ((d, v) :: ρ) w) (hd : d < N := by decide) : WP P ops Q T N D k (.take ⟨some d, op, ty, pos, af, none⟩ k rest) ρ w :=
  pq (fun k' w' h1 h2 hT => by
    have : k' = k := by omega
    subst this
    exact h w' hT) kk hd
theorem pqg1 {g gd : Nat} {want : Bool} {o : Oper} (ho : ops[g]? = some o) (hod : o.dst = some gd) (hb : get ρ gd = some (.bool want)) (h : ∀ w', T k w' → Yl P N D ρ w' op ty v) (kk : WP P ops Q T N D k rest ((d, v) :: ρ) w) (hd : d < N := by decide) :
    WP P ops Q T N D k (.take ⟨some d, op, ty, pos, af, some (g, want)⟩ k rest) ρ w :=
  pqg ho hod hb (fun k' w' h1 h2 hT => by
    have : k' = k := by omega
    subst this
    exact h w' hT) kk hd
theorem pfork {o : Oper} (h : WP P ops Q T N D k (.alt o rest .stop) ρ w) (hq : WP P ops Q T N D k q ρ w) : WP P ops Q T N D k (.alt o rest q) ρ w := fun a ha => ⟨(h a ha).1, hq a ha⟩
theorem px (h : XW P Q N D ρ w op ty (fun v w' => T (k + 1) w' ∧ WP P ops Q T N D (k + 1) rest ((d, v) :: ρ) w')) (hd : d < N := by decide) : WP P ops Q T N D k (.alt ⟨some d, op, ty, pos, af, none⟩ rest .stop) ρ w := by
  intro a ha
  unfold wpP
  rw [if_pos (by simp [Region.wanted])]
  refine ⟨Oper.wp_mono ?_ (h a (some d) pos af none ha), trivial⟩
  rintro a' w' ⟨v, rfl, hS, hk⟩
  exact ⟨hS, hk _ (ha.put hd)⟩
theorem px0 (h : XW P Q N D ρ w op ty (fun _ w' => T (k + 1) w' ∧ WP P ops Q T N D (k + 1) rest ρ w')) : WP P ops Q T N D k (.alt ⟨none, op, ty, pos, af, none⟩ rest .stop) ρ w := by
  intro a ha
  unfold wpP
  rw [if_pos (by simp [Region.wanted])]
  refine ⟨Oper.wp_mono ?_ (h a none pos af none ha), trivial⟩
  rintro a' w' ⟨v, rfl, hS, hk⟩
  exact ⟨hS, hk _ ha⟩
theorem pxg {g gd : Nat} {want : Bool} {o : Oper} (ho : ops[g]? = some o) (hod : o.dst = some gd) (hb : get ρ gd = some (.bool want)) (h : XW P Q N D ρ w op ty (fun v w' => T (k + 1) w' ∧ WP P ops Q T N D (k + 1) rest ((d, v) :: ρ) w')) (hd : d < N := by decide) :
    WP P ops Q T N D k (.alt ⟨some d, op, ty, pos, af, some (g, want)⟩ rest .stop) ρ w := by
  intro a ha
  unfold wpP
  rw [if_pos (by simp [Region.wanted, yielded, ho, hod, ha.gt _ _ hb])]
  refine ⟨Oper.wp_mono ?_ (h a (some d) pos af _ ha), trivial⟩
  rintro a' w' ⟨v, rfl, hS, hk⟩
  exact ⟨hS, hk _ (ha.put hd)⟩
theorem pend (h : WQ Q N D .normal ρ w) : WP P ops (NoPan Q) T N D k .done ρ w := fun a ha => h a ha
end
section
variable {P : Program} {Q : Exit → Act → World → Prop} {N : Nat} {D : List Deferred} {ρ : Env} {w : World}
/-- what is said behind a piece of code -/
def CutQ {ι : Type} (N : Nat) (D : List Deferred) (E : ι → Env) (R : ι → World → Prop) : Exit → Act → World → Prop
  | .normal, a, w => ∃ g, Ag N D (E g) a ∧ R g w
  | _, _, _ => False
theorem ccut {ι : Type} {c : Code} (E : ι → Env) (R : ι → World → Prop) (h : WC P (CutQ N D E R) N D c ρ w) (k : ∀ g w, R g w → WQ Q N D .normal (E g) w) : WC P Q N D c ρ w := by
  intro a ha
  refine Code.wp_mono (fun e a w q => ?_) (h a ha)
  cases e with
  | normal =>
    obtain ⟨g, hg, hR⟩ := q
    exact k g w hR a hg
  | _ => exact q.elim
theorem qcut {ι : Type} {E : ι → Env} {R : ι → World → Prop} (g : ι) (hs : Sub (E g) ρ) (hR : R g w) : WQ (CutQ N D E R) N D .normal ρ w := fun a ha => ⟨g, ha.sub hs, hR⟩
end
theorem x_of_y {P : Program} {Q : Exit → Act → World → Prop} {N : Nat} {D : List Deferred} {ρ : Env} {w : World} {op : Op} {ty : TypeId} {v : Value} {K : Value → World → Prop} (h : Yl P N D ρ w op ty v) (k : K v w) : XW P Q N D ρ w op ty K := by
  intro a dst pos af g ha
  unfold Oper.wp
  rw [h a dst pos af g ha]
  exact ⟨v, rfl, k⟩
/-- blocks of different types are different -/
theorem Own.ne_blk {w : World} {b : Nat} {e : TypeId} {sz n g : Nat} {v : Value} {xs cs : List Value} {t : TypeId} (h : Own w b e sz v n xs) (hb : Blk w g t cs) (hne : e ≠ t) : ¬ vblk v g := by
  rcases h.2 with ⟨rfl, rfl⟩ | ⟨g', o, cap, cur, rfl, _, hg, _⟩
  · exact fun h => h
  · intro hv
    have : g = g' := hv
    subst this
    exact hne (hg.unique hb).1
end Go.Eng
