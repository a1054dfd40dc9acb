/- The engine, fourth part: a statement whose order is open is walked in one order. No statement is proved here. -/
import Derived.Test.YtflcokdkobhieaaEng3
set_option linter.unusedVariables false
set_option linter.unusedSimpArgs false
namespace Go.Eng
open Go.RowKit
section
variable {P : Program} {ops : Array Oper} {Q : Exit → Act → World → Prop} {S : World → Prop}
/-- the order L may be taken: an operation with the mark is the only one that may come up; any other one is apart from all that may come before it -/
def seqOk (ops : Array Oper) : List (Nat × Bool) → Array Bool → Bool
  | [], listed => (Region.ready .any ops listed).isEmpty
  | (i, true) :: r, listed => (Region.ready .any ops listed == [i]) && seqOk ops r (listed.setIfInBounds i true)
  | (i, false) :: r, listed => Region.free .any ops listed i && (Region.ready .any ops listed).contains i && seqOk ops r (listed.setIfInBounds i true)
def pick (ops : Array Oper) : List (Nat × Bool) → Option (List (Bool × Oper))
  | [] => some []
  | (i, x) :: r => match ops[i]?, pick ops r with
    | some o, some l => some ((x, o) :: l)
    | _, _ => none
def wpSeq (P : Program) (ops : Array Oper) (Q : Exit → Act → World → Prop) (S : World → Prop) : List (Bool × Oper) → Act → World → Prop
  | [], a, w => Q .normal a w
  | (true, o) :: r, a, w => if Region.wanted o (yielded ops a.tmps) = true then o.wp P a w (fun a' w' => S w' ∧ wpSeq P ops Q S r a' w') Q else wpSeq P ops Q S r (a.put o.dst undef) w
  | (false, o) :: r, a, w => ∃ v, YieldsIf P ops S o v a ∧ wpSeq P ops Q S r (a.put o.dst v) w
theorem wpAnyH_of_seq (hs : Region.noSelect ops = true) (hQ : ∀ c a d v w, Q (.panic c) (a.put d v) w → Q (.panic c) a w) : ∀ (L : List (Nat × Bool)) (l : List (Bool × Oper)) (listed : Array Bool) (a : Act) (w : World) (fuel : Nat),
    pick ops L = some l → seqOk ops L listed = true → L.length ≤ fuel → S w → wpSeq P ops Q S l a w → wpAnyH P .any ops Q S fuel listed a w
  | [], l, listed, a, w, fuel, hp, hk, _, _, h => by
    simp only [pick, Option.some.injEq] at hp
    subst hp
    have hr : Region.ready .any ops listed = [] := by simpa [seqOk] using hk
    exact wpAnyH_done hr h fuel
  | (i, x) :: r, l, listed, a, w, 0, hp, hk, hf, _, h => by simp at hf
  | (i, x) :: r, l, listed, a, w, fuel + 1, hp, hk, hf, hS, h => by
    unfold pick at hp
    split at hp
    · rename_i o l' ho hl'
      cases hp
      have hf' : r.length ≤ fuel := by simp at hf; omega
      cases x with
      | true =>
        simp only [seqOk, Bool.and_eq_true, beq_iff_eq] at hk
        refine wpAnyH_all hk.1 (by simp) ?_
        intro j hj
        have : j = i := by simpa using hj
        subst this
        unfold wpOp
        simp only [ho]
        simp only [wpSeq] at h
        split at h
        · rename_i hw
          rw [if_pos hw]
          refine .inl (Oper.wp_mono ?_ h)
          rintro a' w' ⟨hS', h'⟩
          exact ⟨hS', wpAnyH_of_seq hs hQ r l' _ a' w' fuel hl' hk.2 hf' hS' h'⟩
        · rename_i hw
          rw [if_neg hw]
          exact ⟨hS, wpAnyH_of_seq hs hQ r l' _ _ w fuel hl' hk.2 hf' hS h⟩
      | false =>
        simp only [seqOk, Bool.and_eq_true] at hk
        obtain ⟨v, hy, h'⟩ := h
        exact wpAnyH_take ho hs hk.1.1 hk.1.2 (fun c a w => hQ c a _ _ w) hy hS (wpAnyH_of_seq hs hQ r l' _ _ w fuel hl' hk.2 hf' hS h')
    · cases hp
/-- Q, but nothing is said at a panic -/
def NoPan (Q : Exit → Act → World → Prop) : Exit → Act → World → Prop
  | .panic _, _, _ => False
  | .outgrown, _, _ => False
  | e, a, w => Q e a w
theorem wp_region_seq {id : Nat} {a : Act} {w : World} {l : List (Bool × Oper)} (L : List (Nat × Bool)) (hm : P.follows .mixedOrders = true) (hs : Region.noSelect ops = true) (hk : seqOk ops L (Array.replicate ops.size false) = true) (hn : L.length ≤ ops.size)
    (hp : pick ops L = some l) (hS : S w.drew) (h : wpSeq P ops (NoPan Q) S l a w.drew) : (Code.region id ops true).wp P Q a w := by
  refine Code.wp_mono (Q := NoPan Q) (fun e a w q => by cases e <;> first | exact q | exact q.elim) ?_
  exact wp_region_held hm (wpAnyH_of_seq hs (fun c a d v w q => q.elim) L l _ a _ _ hp hk hn hS h)
end

def WS (P : Program) (ops : Array Oper) (Q : Exit → Act → World → Prop) (S : World → Prop) (N : Nat) (D : List Deferred) (l : List (Bool × Oper)) (ρ : Env) (w : World) : Prop :=
  ∀ a, Ag N D ρ a → wpSeq P ops Q S l a w
section
variable {P : Program} {ops : Array Oper} {Q : Exit → Act → World → Prop} {S : World → Prop} {N : Nat} {D : List Deferred} {ρ ρ' : Env} {w : World} {rest : List (Bool × Oper)}
  {op : Op} {ty : TypeId} {pos : String} {af : Array Edge} {d : Nat} {v : Value}
/-- the way into a region that draws: S: what every world of it meets -/
theorem cdrw {id : Nat} {l : List (Bool × Oper)} (L : List (Nat × Bool)) (hm : P.follows .mixedOrders = true) (hk : (Region.noSelect ops && seqOk ops L (Array.replicate ops.size false) && decide (L.length ≤ ops.size)) = true)
    (hp : pick ops L = some l) (S : World → Prop) (hS : S w.drew) (h : ∀ w', Fr No w w' → S w' → WS P ops (NoPan Q) S N D l ρ w') : WC P Q N D (.region id ops true) ρ w := by
  intro a ha
  simp only [Bool.and_eq_true, decide_eq_true_eq] at hk
  exact wp_region_seq L hm hk.1.1 hk.1.2 hk.2 hp hS (h _ (Fr.drew w) hS a ha)
theorem sq (h : ∀ w', S w' → Yl P N D ρ w' op ty v) (k : WS P ops Q S N D rest ((d, v) :: ρ) w) (hd : d < N := by decide) : WS P ops Q S N D ((false, ⟨some d, op, ty, pos, af, none⟩) :: rest) ρ w := by
  intro a ha
  refine ⟨v, .inl ⟨by simp [Region.wanted], fun w' hS => h w' hS a _ pos af none ha⟩, k _ (ha.put hd)⟩
theorem sx (h : XW P Q N D ρ w op ty (fun v w' => S w' ∧ WS P ops Q S N D rest ((d, v) :: ρ) w')) (hd : d < N := by decide) : WS P ops Q S N D ((true, ⟨some d, op, ty, pos, af, none⟩) :: rest) ρ w := by
  intro a ha
  unfold wpSeq
  rw [if_pos (by simp [Region.wanted])]
  refine Oper.wp_mono ?_ (h a (some d) pos af none ha)
  rintro a' w' ⟨v, rfl, hS, hk⟩
  exact ⟨hS, hk _ (ha.put hd)⟩
theorem sx0 (h : XW P Q N D ρ w op ty (fun _ w' => S w' ∧ WS P ops Q S N D rest ρ w')) : WS P ops Q S N D ((true, ⟨none, op, ty, pos, af, none⟩) :: rest) ρ w := by
  intro a ha
  unfold wpSeq
  rw [if_pos (by simp [Region.wanted])]
  refine Oper.wp_mono ?_ (h a none pos af none ha)
  rintro a' w' ⟨v, rfl, hS, hk⟩
  exact ⟨hS, hk _ ha⟩
/-- an operation that comes alone: only the world at hand counts -/
theorem sy (hS : S w) (h : Yl P N D ρ w op ty v) (k : WS P ops Q S N D rest ((d, v) :: ρ) w) (hd : d < N := by decide) : WS P ops Q S N D ((true, ⟨some d, op, ty, pos, af, none⟩) :: rest) ρ w := by
  intro a ha
  unfold wpSeq
  rw [if_pos (by simp [Region.wanted])]
  unfold Oper.wp
  rw [h a _ pos af none ha]
  exact ⟨hS, k _ (ha.put hd)⟩
theorem syg {g gd : Nat} {want : Bool} {o : Oper} (ho : ops[g]? = some o) (hod : o.dst = some gd) (hb : get ρ gd = some (.bool want)) (hS : S w) (h : Yl P N D ρ w op ty v) (k : WS P ops Q S N D rest ((d, v) :: ρ) w) (hd : d < N := by decide) :
    WS P ops Q S N D ((true, ⟨some d, op, ty, pos, af, some (g, want)⟩) :: rest) ρ w := by
  intro a ha
  unfold wpSeq
  rw [if_pos (by simp [Region.wanted, yielded, ho, hod, ha.gt _ _ hb])]
  unfold Oper.wp
  rw [h a _ pos af _ ha]
  exact ⟨hS, k _ (ha.put hd)⟩
theorem send (h : WQ Q N D .normal ρ w) : WS P ops (NoPan Q) S N D [] ρ w := fun a ha => h a ha
/-- guarded, the guard holds -/
theorem sqg {g gd : Nat} {want : Bool} {o : Oper} (ho : ops[g]? = some o) (hod : o.dst = some gd) (hb : get ρ gd = some (.bool want)) (h : ∀ w', S w' → Yl P N D ρ w' op ty v) (k : WS P ops Q S N D rest ((d, v) :: ρ) w) (hd : d < N := by decide) :
    WS P ops Q S N D ((false, ⟨some d, op, ty, pos, af, some (g, want)⟩) :: rest) ρ w := by
  intro a ha
  refine ⟨v, .inl ⟨by simp [Region.wanted, yielded, ho, hod, ha.gt _ _ hb], fun w' hS => h w' hS a _ pos af _ ha⟩, k _ (ha.put hd)⟩
theorem sxg {g gd : Nat} {want : Bool} {o : Oper} (ho : ops[g]? = some o) (hod : o.dst = some gd) (hb : get ρ gd = some (.bool want)) (h : XW P Q N D ρ w op ty (fun v w' => S w' ∧ WS P ops Q S N D rest ((d, v) :: ρ) w')) (hd : d < N := by decide) :
    WS P ops Q S N D ((true, ⟨some d, op, ty, pos, af, some (g, want)⟩) :: rest) ρ w := by
  intro a ha
  unfold wpSeq
  rw [if_pos (by simp [Region.wanted, yielded, ho, hod, ha.gt _ _ hb])]
  refine Oper.wp_mono ?_ (h a (some d) pos af _ ha)
  rintro a' w' ⟨v, rfl, hS, hk⟩
  exact ⟨hS, hk _ (ha.put hd)⟩
/-- guarded, the guard does not hold: nothing is done -/
theorem sskip {x : Bool} {g gd : Nat} {want b : Bool} {o : Oper} (ho : ops[g]? = some o) (hod : o.dst = some gd) (hb : get ρ gd = some (.bool b)) (hne : b ≠ want) (k : WS P ops Q S N D rest ((d, undef) :: ρ) w) (hd : d < N := by decide) :
    WS P ops Q S N D ((x, ⟨some d, op, ty, pos, af, some (g, want)⟩) :: rest) ρ w := by
  intro a ha
  have hw : Region.wanted (⟨some d, op, ty, pos, af, some (g, want)⟩ : Oper) (yielded ops a.tmps) = false := by
    simp [Region.wanted, yielded, ho, hod, ha.gt _ _ hb, hne]
  cases x with
  | true =>
    unfold wpSeq
    rw [if_neg (by simp [hw])]
    exact k _ (ha.put hd)
  | false => exact ⟨undef, .inr ⟨hw, rfl⟩, k _ (ha.put hd)⟩
theorem ssub (hs : Sub ρ' ρ) (h : WS P ops Q S N D rest ρ' w) : WS P ops Q S N D rest ρ w := fun a ha => h a (ha.sub hs)
end
/-! guards where the order is fixed -/
section
variable {P : Program} {ops : Array Oper} {Q : Exit → Act → World → Prop} {N : Nat} {D : List Deferred} {ρ : Env} {w : World} {rest : List Oper} {op : Op} {ty : TypeId} {pos : String} {af : Array Edge} {d : Nat} {v : Value}
theorem nxg {g gd : Nat} {want : Bool} {o : Oper} (ho : ops[g]? = some o) (hod : o.dst = some gd) (hb : get ρ gd = some (.bool want)) (h : XW P Q N D ρ w op ty (fun v w' => WL P ops Q N D rest ((d, v) :: ρ) w')) (hd : d < N := by decide) :
    WL P ops Q N D (⟨some d, op, ty, pos, af, some (g, want)⟩ :: rest) ρ w := by
  intro a ha
  unfold wpList
  rw [if_pos (by simp [Region.wanted, yielded, ho, hod, ha.gt _ _ hb])]
  refine .inl (Oper.wp_mono ?_ (h a (some d) pos af _ ha))
  rintro a' w' ⟨v, rfl, hk⟩
  exact hk _ (ha.put hd)
theorem nskip {g gd : Nat} {want b : Bool} {o : Oper} (ho : ops[g]? = some o) (hod : o.dst = some gd) (hb : get ρ gd = some (.bool b)) (hne : b ≠ want) (k : WL P ops Q N D rest ((d, undef) :: ρ) w) (hd : d < N := by decide) :
    WL P ops Q N D (⟨some d, op, ty, pos, af, some (g, want)⟩ :: rest) ρ w := by
  intro a ha
  unfold wpList
  rw [if_neg (by simp [Region.wanted, yielded, ho, hod, ha.gt _ _ hb, hne])]
  exact k _ (ha.put hd)
end
/-! a guard that is not known: both ways -/
theorem Ag.more {N : Nat} {D : List Deferred} {ρ : Env} {a : Act} {t : Nat} {v : Value} (ha : Ag N D ρ a) (h : get ρ t = some v) : Ag N D ((t, v) :: ρ) a := ⟨ha.sz, ha.df, fun u x hu => by
  simp only [get] at hu
  cases hb : Nat.beq t u with
  | true =>
    have : t = u := Nat.eq_of_beq_eq_true hb
    subst this
    rw [hb] at hu
    simp only [cond_true, Option.some.injEq] at hu
    exact hu ▸ ha.gt _ _ h
  | false =>
    rw [hb] at hu
    exact ha.gt _ _ hu⟩
section
variable {P : Program} {ops : Array Oper} {Q : Exit → Act → World → Prop} {S : World → Prop} {N : Nat} {D : List Deferred} {ρ : Env} {w : World} {p : Prop} [Decidable p]
theorem nsplit {l : List Oper} (gd : Nat) (hg : get ρ gd = some (.bool (decide p))) (ht : p → WL P ops Q N D l ((gd, .bool true) :: ρ) w) (hf : ¬ p → WL P ops Q N D l ((gd, .bool false) :: ρ) w) : WL P ops Q N D l ρ w := by
  intro a ha
  by_cases h : p
  · exact ht h a (ha.more (by rw [hg]; simp [h]))
  · exact hf h a (ha.more (by rw [hg]; simp [h]))
theorem ssplit {l : List (Bool × Oper)} (gd : Nat) (hg : get ρ gd = some (.bool (decide p))) (ht : p → WS P ops Q S N D l ((gd, .bool true) :: ρ) w) (hf : ¬ p → WS P ops Q S N D l ((gd, .bool false) :: ρ) w) : WS P ops Q S N D l ρ w := by
  intro a ha
  by_cases h : p
  · exact ht h a (ha.more (by rw [hg]; simp [h]))
  · exact hf h a (ha.more (by rw [hg]; simp [h]))
end
/-! where the code goes on -/
section
variable {P : Program} {Q : Exit → Act → World → Prop} {N : Nat} {D : List Deferred} {ρ : Env} {w : World}
theorem qthen {c : Code} (h : WC P Q N D c ρ w) : WQ (Exit.then (c.wp P Q) Q) N D .normal ρ w := h
theorem qthen_exit {K : Act → World → Prop} {id : Nat} (h : WQ Q N D (.exit id) ρ w) : WQ (Exit.then K Q) N D (.exit id) ρ w := h
theorem qthen_ret {K : Act → World → Prop} (h : WQ Q N D .ret ρ w) : WQ (Exit.then K Q) N D .ret ρ w := h
theorem qblock {id : Nat} (h : WQ Q N D .normal ρ w) : WQ (Exit.inBlock id Q) N D .normal ρ w := h
theorem qblock_exit {id : Nat} (h : WQ Q N D .normal ρ w) : WQ (Exit.inBlock id Q) N D (.exit id) ρ w := fun a ha => by
  simp only [Exit.inBlock, if_true]; exact h a ha
theorem qblock_exit' {id id' : Nat} (hne : id' ≠ id) (h : WQ Q N D (.exit id') ρ w) : WQ (Exit.inBlock id Q) N D (.exit id') ρ w := fun a ha => by
  simp only [Exit.inBlock, hne, if_false]; exact h a ha
theorem qblock_ret {id : Nat} (h : WQ Q N D .ret ρ w) : WQ (Exit.inBlock id Q) N D .ret ρ w := h
theorem cloop1 {α : Type} {c : Code} (μ : α → Nat) (R : α → Env) (I : α → World → Prop) (a0 : α) (hi : I a0 w) (hs : Sub (R a0) ρ)
    (round : ∀ a w, I a w → WC P (Exit.then (fun a' w' => ∃ x, Ag N D (R x) a' ∧ I x w' ∧ μ x < μ a) Q) N D c (R a) w) : WC P Q N D (.loop c) ρ w := cloop μ R I a0 hi hs round
theorem qloop1 {α : Type} {M : Nat} {μ : α → Nat} {R : α → Env} {I : α → World → Prop} (x : α) (hs : Sub (R x) ρ) (hI : I x w) (hlt : μ x < M) : WQ (Exit.then (fun a' w' => ∃ x, Ag N D (R x) a' ∧ I x w' ∧ μ x < M) Q) N D .normal ρ w :=
  fun _ ha => ⟨x, ha.sub hs, hI, hlt⟩
theorem cloop2 {α β : Type} {c : Code} (μ : α → β → Nat) (R : α → β → Env) (I : α → β → World → Prop) (a0 : α) (b0 : β) (hi : I a0 b0 w) (hs : Sub (R a0 b0) ρ)
    (round : ∀ a b w, I a b w → WC P (Exit.then (fun a' w' => ∃ x y, Ag N D (R x y) a' ∧ I x y w' ∧ μ x y < μ a b) Q) N D c (R a b) w) : WC P Q N D (.loop c) ρ w :=
  cloop (ι := α × β) (fun i => μ i.1 i.2) (fun i => R i.1 i.2) (fun i => I i.1 i.2) (a0, b0) hi hs (fun i w h a ha => Code.wp_mono (fun e a' w' q => by
    cases e <;> first | exact q | (obtain ⟨x, y, h1, h2, h3⟩ := q; exact ⟨(x, y), h1, h2, h3⟩)) (round i.1 i.2 w h a ha))
theorem qloop2 {α β : Type} {M : Nat} {μ : α → β → Nat} {R : α → β → Env} {I : α → β → World → Prop} (x : α) (y : β) (hs : Sub (R x y) ρ) (hI : I x y w) (hlt : μ x y < M) :
    WQ (Exit.then (fun a' w' => ∃ x y, Ag N D (R x y) a' ∧ I x y w' ∧ μ x y < M) Q) N D .normal ρ w := fun _ ha => ⟨x, y, ha.sub hs, hI, hlt⟩
theorem cloop3 {α β γ : Type} {c : Code} (μ : α → β → γ → Nat) (R : α → β → γ → Env) (I : α → β → γ → World → Prop) (a0 : α) (b0 : β) (c_0 : γ) (hi : I a0 b0 c_0 w) (hs : Sub (R a0 b0 c_0) ρ)
    (round : ∀ a b c_ w, I a b c_ w → WC P (Exit.then (fun a' w' => ∃ x y z, Ag N D (R x y z) a' ∧ I x y z w' ∧ μ x y z < μ a b c_) Q) N D c (R a b c_) w) : WC P Q N D (.loop c) ρ w :=
  cloop (ι := α × β × γ) (fun i => μ i.1 i.2.1 i.2.2) (fun i => R i.1 i.2.1 i.2.2) (fun i => I i.1 i.2.1 i.2.2) (a0, b0, c_0) hi hs (fun i w h a ha => Code.wp_mono (fun e a' w' q => by
    cases e <;> first | exact q | (obtain ⟨x, y, z, h1, h2, h3⟩ := q; exact ⟨(x, y, z), h1, h2, h3⟩)) (round i.1 i.2.1 i.2.2 w h a ha))
theorem qloop3 {α β γ : Type} {M : Nat} {μ : α → β → γ → Nat} {R : α → β → γ → Env} {I : α → β → γ → World → Prop} (x : α) (y : β) (z : γ) (hs : Sub (R x y z) ρ) (hI : I x y z w) (hlt : μ x y z < M) :
    WQ (Exit.then (fun a' w' => ∃ x y z, Ag N D (R x y z) a' ∧ I x y z w' ∧ μ x y z < M) Q) N D .normal ρ w := fun _ ha => ⟨x, y, z, ha.sub hs, hI, hlt⟩
theorem cloop4 {α β γ δ : Type} {c : Code} (μ : α → β → γ → δ → Nat) (R : α → β → γ → δ → Env) (I : α → β → γ → δ → World → Prop) (a0 : α) (b0 : β) (c_0 : γ) (d0 : δ) (hi : I a0 b0 c_0 d0 w) (hs : Sub (R a0 b0 c_0 d0) ρ)
    (round : ∀ a b c_ d w, I a b c_ d w → WC P (Exit.then (fun a' w' => ∃ x y z u, Ag N D (R x y z u) a' ∧ I x y z u w' ∧ μ x y z u < μ a b c_ d) Q) N D c (R a b c_ d) w) : WC P Q N D (.loop c) ρ w :=
  cloop (ι := α × β × γ × δ) (fun i => μ i.1 i.2.1 i.2.2.1 i.2.2.2) (fun i => R i.1 i.2.1 i.2.2.1 i.2.2.2) (fun i => I i.1 i.2.1 i.2.2.1 i.2.2.2) (a0, b0, c_0, d0) hi hs (fun i w h a ha => Code.wp_mono (fun e a' w' q => by
    cases e <;> first | exact q | (obtain ⟨x, y, z, u, h1, h2, h3⟩ := q; exact ⟨(x, y, z, u), h1, h2, h3⟩)) (round i.1 i.2.1 i.2.2.1 i.2.2.2 w h a ha))
theorem qloop4 {α β γ δ : Type} {M : Nat} {μ : α → β → γ → δ → Nat} {R : α → β → γ → δ → Env} {I : α → β → γ → δ → World → Prop} (x : α) (y : β) (z : γ) (u : δ) (hs : Sub (R x y z u) ρ) (hI : I x y z u w) (hlt : μ x y z u < M) :
    WQ (Exit.then (fun a' w' => ∃ x y z u, Ag N D (R x y z u) a' ∧ I x y z u w' ∧ μ x y z u < M) Q) N D .normal ρ w := fun _ ha => ⟨x, y, z, u, ha.sub hs, hI, hlt⟩
theorem cloop5 {α β γ δ ε : Type} {c : Code} (μ : α → β → γ → δ → ε → Nat) (R : α → β → γ → δ → ε → Env) (I : α → β → γ → δ → ε → World → Prop) (a0 : α) (b0 : β) (c_0 : γ) (d0 : δ) (e0 : ε) (hi : I a0 b0 c_0 d0 e0 w) (hs : Sub (R a0 b0 c_0 d0 e0) ρ)
    (round : ∀ a b c_ d e w, I a b c_ d e w → WC P (Exit.then (fun a' w' => ∃ x y z u v, Ag N D (R x y z u v) a' ∧ I x y z u v w' ∧ μ x y z u v < μ a b c_ d e) Q) N D c (R a b c_ d e) w) : WC P Q N D (.loop c) ρ w :=
  cloop (ι := α × β × γ × δ × ε) (fun i => μ i.1 i.2.1 i.2.2.1 i.2.2.2.1 i.2.2.2.2) (fun i => R i.1 i.2.1 i.2.2.1 i.2.2.2.1 i.2.2.2.2) (fun i => I i.1 i.2.1 i.2.2.1 i.2.2.2.1 i.2.2.2.2) (a0, b0, c_0, d0, e0) hi hs (fun i w h a ha => Code.wp_mono (fun e a' w' q => by
    cases e <;> first | exact q | (obtain ⟨x, y, z, u, v, h1, h2, h3⟩ := q; exact ⟨(x, y, z, u, v), h1, h2, h3⟩)) (round i.1 i.2.1 i.2.2.1 i.2.2.2.1 i.2.2.2.2 w h a ha))
theorem qloop5 {α β γ δ ε : Type} {M : Nat} {μ : α → β → γ → δ → ε → Nat} {R : α → β → γ → δ → ε → Env} {I : α → β → γ → δ → ε → World → Prop} (x : α) (y : β) (z : γ) (u : δ) (v : ε) (hs : Sub (R x y z u v) ρ) (hI : I x y z u v w) (hlt : μ x y z u v < M) :
    WQ (Exit.then (fun a' w' => ∃ x y z u v, Ag N D (R x y z u v) a' ∧ I x y z u v w' ∧ μ x y z u v < M) Q) N D .normal ρ w := fun _ ha => ⟨x, y, z, u, v, ha.sub hs, hI, hlt⟩
end
end Go.Eng
