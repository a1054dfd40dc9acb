/- The engine: one lemma for each operation, over a state that lists the slots' values. No statement is proved here. -/
import Derived.WalkKit
import Derived.OrdersHeld
set_option linter.unusedVariables false
set_option linter.unusedSimpArgs false
namespace Go.Eng
open Go.RowKit

abbrev Env := List (Nat × Value)
def get : Env → Nat → Option Value
  | [], _ => none
  | (k, v) :: r, t => bif Nat.beq k t then some v else get r t
structure Ag (N : Nat) (D : List Deferred) (ρ : Env) (a : Act) : Prop where
  sz : a.tmps.size = N
  df : a.defers = D
  gt : ∀ t v, get ρ t = some v → a.tmps[t]? = some v
def ev (ρ : Env) : Operand → Option Value
  | .tmp t => get ρ t
  | .const v => some v
  | .global g => some (.pointer (some ⟨g, 0, none⟩))
  | .func f => some (.func (.func f) #[] #[])
def evs (ρ : Env) : List Operand → Option (List Value)
  | [] => some []
  | x :: r => match ev ρ x, evs ρ r with
    | some v, some vs => some (v :: vs)
    | _, _ => none

section
variable {P : Program} {N : Nat} {D : List Deferred} {ρ ρ' : Env} {a : Act} {w : World}
theorem Ag.eval {x : Operand} {v : Value} (h : Ag N D ρ a) (hx : ev ρ x = some v) : a.eval x = v := by
  cases x with
  | tmp t =>
    have := h.gt t v hx
    simp [Act.eval, this]
  | const c => simpa [ev, Act.eval] using hx
  | global g => simpa [ev, Act.eval] using hx
  | func f => simpa [ev, Act.eval] using hx
theorem Ag.evals (h : Ag N D ρ a) : ∀ {l : List Operand} {vs : List Value}, evs ρ l = some vs → l.map a.eval = vs
  | [], vs, hl => by simpa [evs] using hl
  | x :: r, vs, hl => by
    unfold evs at hl
    split at hl
    · rename_i v us hv hus
      cases hl
      simp [h.eval hv, h.evals hus]
    · cases hl
theorem Ag.put {d : Nat} {v : Value} (h : Ag N D ρ a) (hd : d < N) : Ag N D ((d, v) :: ρ) (a.put (some d) v) := by
  refine ⟨by simp [Act.put, h.sz], by simp [Act.put, h.df], fun t u ht => ?_⟩
  simp only [get] at ht
  cases hb : Nat.beq d t with
  | true =>
    have : d = t := Nat.eq_of_beq_eq_true hb
    subst this
    rw [hb] at ht
    simp only [cond_true, Option.some.injEq] at ht
    subst ht
    simp [Act.put, h.sz, hd]
  | false =>
    have hne : d ≠ t := Nat.ne_of_beq_eq_false hb
    rw [hb] at ht
    simp only [cond_false] at ht
    simp only [Act.put]
    rw [Array.getElem?_setIfInBounds_ne hne]
    exact h.gt t u ht
theorem Ag.put_none {v : Value} (h : Ag N D ρ a) : Ag N D ρ (a.put none v) := h

/-- ρ' says no more than ρ. -/
def Sub (ρ' ρ : Env) : Prop := ∀ t v, get ρ' t = some v → get ρ t = some v
theorem sub_nil : Sub [] ρ := fun t v h => by simp [get] at h
theorem sub_cons {t : Nat} {v : Value} (h : get ρ t = some v) (hs : Sub ρ' ρ) : Sub ((t, v) :: ρ') ρ := fun u x hu => by
  simp only [get] at hu
  cases hb : Nat.beq t u with
  | true =>
    have : t = u := Nat.eq_of_beq_eq_true hb
    subst this
    rw [hb] at hu
    simp only [cond_true, Option.some.injEq] at hu
    exact hu ▸ h
  | false =>
    rw [hb] at hu
    exact hs u x hu
theorem Ag.sub (h : Ag N D ρ a) (hs : Sub ρ' ρ) : Ag N D ρ' a := ⟨h.sz, h.df, fun t v ht => h.gt t v (hs t v ht)⟩
end

/-! ### The judgements -/
def WL (P : Program) (ops : Array Oper) (Q : Exit → Act → World → Prop) (N : Nat) (D : List Deferred) (l : List Oper) (ρ : Env) (w : World) : Prop :=
  ∀ a, Ag N D ρ a → wpList P ops Q l a w
def WC (P : Program) (Q : Exit → Act → World → Prop) (N : Nat) (D : List Deferred) (c : Code) (ρ : Env) (w : World) : Prop :=
  ∀ a, Ag N D ρ a → c.wp P Q a w
def WQ (Q : Exit → Act → World → Prop) (N : Nat) (D : List Deferred) (e : Exit) (ρ : Env) (w : World) : Prop :=
  ∀ a, Ag N D ρ a → Q e a w
/-- The operation yields v and leaves the world as it is. -/
def Yl (P : Program) (N : Nat) (D : List Deferred) (ρ : Env) (w : World) (op : Op) (ty : TypeId) (v : Value) : Prop :=
  ∀ a dst pos af g, Ag N D ρ a → (execOp a.eval ⟨dst, op, ty, pos, af, g⟩).run P w = .ok (.value v) w
/-- The operation may change the world; K: what follows. -/
def XW (P : Program) (Q : Exit → Act → World → Prop) (N : Nat) (D : List Deferred) (ρ : Env) (w : World) (op : Op) (ty : TypeId) (K : Value → World → Prop) : Prop :=
  ∀ a dst pos af g, Ag N D ρ a → (⟨dst, op, ty, pos, af, g⟩ : Oper).wp P a w (fun a' w' => ∃ v, a' = a.put dst v ∧ K v w') Q

section
variable {P : Program} {ops : Array Oper} {Q : Exit → Act → World → Prop} {N : Nat} {D : List Deferred} {ρ ρ' : Env} {w : World} {rest : List Oper}
  {op : Op} {ty : TypeId} {pos : String} {af : Array Edge} {d : Nat} {v : Value}

theorem nq (h : Yl P N D ρ w op ty v) (k : WL P ops Q N D rest ((d, v) :: ρ) w) (hd : d < N := by decide) : WL P ops Q N D (⟨some d, op, ty, pos, af, none⟩ :: rest) ρ w := by
  intro a ha
  unfold wpList
  rw [if_pos (by simp [Region.wanted])]
  refine .inl ?_
  unfold Oper.wp
  rw [h a _ pos af none ha]
  exact k _ (ha.put hd)
theorem nx (h : XW P Q N D ρ w op ty (fun v w' => WL P ops Q N D rest ((d, v) :: ρ) w')) (hd : d < N := by decide) : WL P ops Q N D (⟨some d, op, ty, pos, af, none⟩ :: rest) ρ w := by
  intro a ha
  unfold wpList
  rw [if_pos (by simp [Region.wanted])]
  refine .inl (Oper.wp_mono ?_ (h a (some d) pos af none ha))
  rintro a' w' ⟨v, rfl, hk⟩
  exact hk _ (ha.put hd)
theorem nx0 (h : XW P Q N D ρ w op ty (fun _ w' => WL P ops Q N D rest ρ w')) : WL P ops Q N D (⟨none, op, ty, pos, af, none⟩ :: rest) ρ w := by
  intro a ha
  unfold wpList
  rw [if_pos (by simp [Region.wanted])]
  refine .inl (Oper.wp_mono ?_ (h a none pos af none ha))
  rintro a' w' ⟨v, rfl, hk⟩
  exact hk _ ha
theorem nend (h : WQ Q N D .normal ρ w) : WL P ops Q N D [] ρ w := fun a ha => h a ha
/-- drop slots -/
theorem nsub (hs : Sub ρ' ρ) (h : WL P ops Q N D rest ρ' w) : WL P ops Q N D rest ρ w := fun a ha => h a (ha.sub hs)
theorem qsub {e : Exit} (hs : Sub ρ' ρ) (h : WQ Q N D e ρ' w) : WQ Q N D e ρ w := fun a ha => h a (ha.sub hs)
theorem csub {c : Code} (hs : Sub ρ' ρ) (h : WC P Q N D c ρ' w) : WC P Q N D c ρ w := fun a ha => h a (ha.sub hs)
/-- a guarded operation: the guard holds / does not hold -/
theorem ng {g : Nat} {want : Bool} {gd : Nat} {o : Oper} (ho : ops[g]? = some o) (hod : o.dst = some gd) (hb : get ρ gd = some (.bool want)) (h : Yl P N D ρ w op ty v)
    (k : WL P ops Q N D rest ((d, v) :: ρ) w) (hd : d < N := by decide) : WL P ops Q N D (⟨some d, op, ty, pos, af, some (g, want)⟩ :: rest) ρ w := by
  intro a ha
  unfold wpList
  rw [if_pos (by simp [Region.wanted, yielded, ho, hod, ha.gt _ _ hb])]
  refine .inl ?_
  unfold Oper.wp
  rw [h a _ pos af (some (g, want)) ha]
  exact k _ (ha.put hd)
end

/-! ### Code -/
section
variable {P : Program} {Q : Exit → Act → World → Prop} {N : Nat} {D : List Deferred} {ρ ρ' : Env} {w : World} {c c' : Code}
theorem cseq (h : WC P (Exit.then (c'.wp P Q) Q) N D c ρ w) : WC P Q N D (.seq c c') ρ w := fun a ha => wp_seq (h a ha)
theorem creg {id : Nat} {l : List Oper} (h : WL P l.toArray Q N D l ρ w) : WC P Q N D (.region id l.toArray false) ρ w := fun a ha => wp_region_lit (h a ha)
theorem cskip (h : WQ Q N D .normal ρ w) : WC P Q N D .skip ρ w := fun a ha => wp_skip (h a ha)
theorem cexit {id : Nat} (h : WQ Q N D (.exit id) ρ w) : WC P Q N D (.exit id) ρ w := fun a ha => wp_exit (h a ha)
theorem cret (h : WQ Q N D .ret ρ w) : WC P Q N D .ret ρ w := fun a ha => wp_ret (h a ha)
theorem cblock {id : Nat} (h : WC P (Exit.inBlock id Q) N D c ρ w) : WC P Q N D (.block id c) ρ w := fun a ha => wp_block (h a ha)
theorem cif {p : Prop} [Decidable p] {x : Operand} {t e : Code} (hc : ev ρ x = some (.bool (decide p))) (ht : p → WC P Q N D t ρ w) (he : ¬ p → WC P Q N D e ρ w) : WC P Q N D (.cond x t e) ρ w :=
  fun a ha => wp_cond_split (ha.eval hc) (fun h => ht (of_decide_eq_true h) a ha) (fun h => he (of_decide_eq_false h) a ha)
theorem cifb {b : Bool} {x : Operand} {t e : Code} (hc : ev ρ x = some (.bool b)) (ht : b = true → WC P Q N D t ρ w) (he : b = false → WC P Q N D e ρ w) : WC P Q N D (.cond x t e) ρ w :=
  fun a ha => wp_cond_split (ha.eval hc) (fun h => ht h a ha) (fun h => he h a ha)
theorem cift {x : Operand} {t e : Code} {b : Bool} (hc : ev ρ x = some (.bool b)) (hb : b = true) (ht : WC P Q N D t ρ w) : WC P Q N D (.cond x t e) ρ w :=
  fun a ha => wp_cond_true (hb ▸ ha.eval hc) (ht a ha)
theorem ciff {x : Operand} {t e : Code} {b : Bool} (hc : ev ρ x = some (.bool b)) (hb : b = false) (ht : WC P Q N D e ρ w) : WC P Q N D (.cond x t e) ρ w :=
  fun a ha => wp_cond_false (hb ▸ ha.eval hc) (ht a ha)
/-- a loop: ι: what a round's head is told by -/
theorem cloop {ι : Type} (μ : ι → Nat) (R : ι → Env) (I : ι → World → Prop) (i : ι) (hi : I i w) (hs : Sub (R i) ρ)
    (round : ∀ i w, I i w → WC P (Exit.then (fun a' w' => ∃ j, Ag N D (R j) a' ∧ I j w' ∧ μ j < μ i) Q) N D c (R i) w) : WC P Q N D (.loop c) ρ w := by
  intro a ha b k cs
  have key : ∀ n i a w, μ i = n → Ag N D (R i) a → I i w →
      ∃ e a' w', Q e a' w' ∧ Arrives P (lone (b.at a (.code c :: .inLoop c :: k)) cs w) b k cs e a' w' := by
    intro n
    induction n using Nat.strongRecOn with
    | _ n ih =>
      intro i a w hn hag hI
      obtain ⟨e, a₁, w₁, hq, harr⟩ := round i w hI a hag b (.inLoop c :: k) cs
      cases e with
      | normal =>
        obtain ⟨j, haj, hIj, hlt⟩ := hq
        obtain ⟨e₂, a₂, w₂, hq₂, harr₂⟩ := ih (μ j) (hn ▸ hlt) j a₁ w₁ rfl haj hIj
        exact ⟨e₂, a₂, w₂, hq₂, .of_steps (Steps.trans harr (.one step_inLoop)) harr₂⟩
      | exit id => exact ⟨_, a₁, w₁, hq, .pass (x := .inLoop c) rfl (fun _ _ => .inl (by simp)) harr⟩
      | goto l => exact ⟨_, a₁, w₁, hq, .pass (x := .inLoop c) rfl (fun _ _ => .inl (by simp)) harr⟩
      | ret => exact ⟨_, a₁, w₁, hq, .pass (x := .inLoop c) rfl (fun _ _ => .inl (by simp)) harr⟩
      | panic ch => exact ⟨_, a₁, w₁, hq, .pass (x := .inLoop c) rfl (fun _ _ => .inl (by simp)) harr⟩
      | outgrown => exact ⟨_, a₁, w₁, hq, .pass (x := .inLoop c) rfl (fun _ _ => .inl (by simp)) harr⟩
  obtain ⟨e, a', w', hq, harr⟩ := key _ i a w rfl (ha.sub hs) hi
  exact ⟨e, a', w', hq, .of_steps (.one step_loop) harr⟩
end

/-! ### Operations that yield a value -/
section
variable {P : Program} {N : Nat} {D : List Deferred} {ρ : Env} {w : World} {ty t t' : TypeId} {x y z : Operand} {v v' : Value} {k : IntKind} {m n r : Int}

theorem w64 {r : Int} (h1 : -9223372036854775808 ≤ r) (h2 : r ≤ 9223372036854775807) : IntKind.i64.wrap r = r := IntWalk.i64_in _ (by omega)

theorem y_move (h : ev ρ x = some v) : Yl P N D ρ w (.move x) ty v := fun a _ _ _ _ ha => by simp [execOp, ha.eval h]
theorem y_assign (h : ev ρ x = some v) : Yl P N D ρ w (.assign x) ty v := fun a _ _ _ _ ha => by simp [execOp, ha.eval h]
theorem y_pick {b : Bool} (hc : ev ρ z = some (.bool b)) (hx : ev ρ x = some v) (hy : ev ρ y = some v') : Yl P N D ρ w (.pick z x y) ty (if b then v else v') :=
  fun a _ _ _ _ ha => by simp [execOp, ha.eval hc, ha.eval hx, ha.eval hy, asBool]
theorem y_pickT (hc : ev ρ z = some (.bool true)) (hx : ev ρ x = some v) : Yl P N D ρ w (.pick z x y) ty v :=
  fun a _ _ _ _ ha => by simp [execOp, ha.eval hc, ha.eval hx, asBool]
theorem y_pickF (hc : ev ρ z = some (.bool false)) (hx : ev ρ y = some v) : Yl P N D ρ w (.pick z x y) ty v :=
  fun a _ _ _ _ ha => by simp [execOp, ha.eval hc, ha.eval hx, asBool]

theorem y_add (hx : ev ρ x = some (.int k m)) (hy : ev ρ y = some (.int k n)) (hb : k.wrap (m + n) = r) : Yl P N D ρ w (.binOp .add t x y t') ty (.int k r) :=
  fun a _ _ _ _ ha => by simp [execOp, ha.eval hx, ha.eval hy, eqGuard, binOp, Op.intArith, hb]
theorem y_sub (hx : ev ρ x = some (.int k m)) (hy : ev ρ y = some (.int k n)) (hb : k.wrap (m - n) = r) : Yl P N D ρ w (.binOp .sub t x y t') ty (.int k r) :=
  fun a _ _ _ _ ha => by simp [execOp, ha.eval hx, ha.eval hy, eqGuard, binOp, Op.intArith, hb]
theorem y_mul (hx : ev ρ x = some (.int k m)) (hy : ev ρ y = some (.int k n)) (hb : k.wrap (m * n) = r) : Yl P N D ρ w (.binOp .mul t x y t') ty (.int k r) :=
  fun a _ _ _ _ ha => by simp [execOp, ha.eval hx, ha.eval hy, eqGuard, binOp, Op.intArith, hb]
theorem y_quo (hx : ev ρ x = some (.int k m)) (hy : ev ρ y = some (.int k n)) (h0 : 0 ≤ m) (h1 : 0 < n) (hb : k.wrap (m / n) = r) : Yl P N D ρ w (.binOp .quo t x y t') ty (.int k r) :=
  fun a _ _ _ _ ha => by simp [execOp, ha.eval hx, ha.eval hy, eqGuard, binOp, Op.intDiv, Int.ne_of_gt h1, Int.tdiv_eq_ediv_of_nonneg h0, hb]
theorem y_rem (hx : ev ρ x = some (.int k m)) (hy : ev ρ y = some (.int k n)) (h0 : 0 ≤ m) (h1 : 0 < n) : Yl P N D ρ w (.binOp .rem t x y t') ty (.int k (m % n)) :=
  fun a _ _ _ _ ha => by simp [execOp, ha.eval hx, ha.eval hy, eqGuard, binOp, Op.intDiv, Int.ne_of_gt h1, Int.tmod_eq_emod_of_nonneg h0]
theorem y_quo' (hx : ev ρ x = some (.int k m)) (hy : ev ρ y = some (.int k n)) (h1 : n ≠ 0) (hb : k.wrap (m.tdiv n) = r) : Yl P N D ρ w (.binOp .quo t x y t') ty (.int k r) :=
  fun a _ _ _ _ ha => by simp [execOp, ha.eval hx, ha.eval hy, eqGuard, binOp, Op.intDiv, h1, hb]
theorem y_rem' (hx : ev ρ x = some (.int k m)) (hy : ev ρ y = some (.int k n)) (h1 : n ≠ 0) : Yl P N D ρ w (.binOp .rem t x y t') ty (.int k (m.tmod n)) :=
  fun a _ _ _ _ ha => by simp [execOp, ha.eval hx, ha.eval hy, eqGuard, binOp, Op.intDiv, h1]
theorem y_lss (hx : ev ρ x = some (.int k m)) (hy : ev ρ y = some (.int k n)) : Yl P N D ρ w (.binOp .lss t x y t') ty (.bool (decide (m < n))) :=
  fun a _ _ _ _ ha => by simp [execOp, ha.eval hx, ha.eval hy, eqGuard, binOp, Op.intCmp]
theorem y_leq (hx : ev ρ x = some (.int k m)) (hy : ev ρ y = some (.int k n)) : Yl P N D ρ w (.binOp .leq t x y t') ty (.bool (decide (m ≤ n))) :=
  fun a _ _ _ _ ha => by simp [execOp, ha.eval hx, ha.eval hy, eqGuard, binOp, Op.intCmp]
theorem y_gtr (hx : ev ρ x = some (.int k m)) (hy : ev ρ y = some (.int k n)) : Yl P N D ρ w (.binOp .gtr t x y t') ty (.bool (decide (n < m))) :=
  fun a _ _ _ _ ha => by simp [execOp, ha.eval hx, ha.eval hy, eqGuard, binOp, Op.intCmp]
theorem y_geq (hx : ev ρ x = some (.int k m)) (hy : ev ρ y = some (.int k n)) : Yl P N D ρ w (.binOp .geq t x y t') ty (.bool (decide (n ≤ m))) :=
  fun a _ _ _ _ ha => by simp [execOp, ha.eval hx, ha.eval hy, eqGuard, binOp, Op.intCmp]
theorem y_eql (hx : ev ρ x = some (.int k m)) (hy : ev ρ y = some (.int k n)) : Yl P N D ρ w (.binOp .eql t x y t') ty (.bool (decide (m = n))) :=
  fun a _ _ _ _ ha => by
    have : (m == n) = decide (m = n) := by by_cases h : m = n <;> simp [h]
    simp [execOp, ha.eval hx, ha.eval hy, eqGuard, binOp, Op.intCmp, this]
theorem y_neq (hx : ev ρ x = some (.int k m)) (hy : ev ρ y = some (.int k n)) : Yl P N D ρ w (.binOp .neq t x y t') ty (.bool (decide (m ≠ n))) :=
  fun a _ _ _ _ ha => by
    have : (m != n) = decide (m ≠ n) := by by_cases h : m = n <;> simp [h]
    simp [execOp, ha.eval hx, ha.eval hy, eqGuard, binOp, Op.intCmp, this]
theorem y_shl {k' : IntKind} {p : Int} (hx : ev ρ x = some (.int k m)) (hy : ev ρ y = some (.int k' n)) (h0 : 0 ≤ n) (h1 : n < k.bits) (hp : 2 ^ n.toNat = p) (hb : k.wrap (m * p) = r) : Yl P N D ρ w (.binOp .shl t x y t') ty (.int k r) :=
  fun a _ _ _ _ ha => by
    subst hp
    have h2 : ¬ n < 0 := by omega
    have h3 : min n.toNat k.bits = n.toNat := by omega
    simp [execOp, ha.eval hx, ha.eval hy, eqGuard, binOp, Op.shift, h2, h3, hb]
theorem y_shr {k' : IntKind} {p : Int} (hx : ev ρ x = some (.int k m)) (hy : ev ρ y = some (.int k' n)) (h0 : 0 ≤ n) (h1 : n < k.bits) (hp : 2 ^ n.toNat = p) : Yl P N D ρ w (.binOp .shr t x y t') ty (.int k (m / p)) :=
  fun a _ _ _ _ ha => by
    subst hp
    have h2 : ¬ n < 0 := by omega
    have h3 : min n.toNat k.bits = n.toNat := by omega
    have h4 : m.fdiv (2 ^ n.toNat) = m / 2 ^ n.toNat := Int.fdiv_eq_ediv_of_nonneg _ (Int.le_of_lt (Int.pow_pos (by decide)))
    simp [execOp, ha.eval hx, ha.eval hy, eqGuard, binOp, Op.shift, h2, h3, h4]
theorem y_bits {op : BinOp} (hop : op = .and ∨ op = .or ∨ op = .xor ∨ op = .andNot) (hx : ev ρ x = some (.int k m)) (hy : ev ρ y = some (.int k n)) (hr : bits op k m n = r) : Yl P N D ρ w (.binOp op t x y t') ty (.int k r) :=
  fun a _ _ _ _ ha => by
    subst hr
    rcases hop with rfl | rfl | rfl | rfl <;> simp [execOp, ha.eval hx, ha.eval hy, eqGuard, binOp, Op.intBits, bits]
theorem y_neg (hx : ev ρ x = some (.int k m)) (hb : k.wrap (-m) = r) : Yl P N D ρ w (.unOp .neg t x) ty (.int k r) :=
  fun a _ _ _ _ ha => by simp [execOp, ha.eval hx, Op.unary, Op.intArith, hb]
theorem y_not {b : Bool} (hx : ev ρ x = some (.bool b)) : Yl P N D ρ w (.unOp .not t x) ty (.bool (!b)) :=
  fun a _ _ _ _ ha => by simp [execOp, ha.eval hx, Op.unary]
theorem y_notp {p : Prop} [Decidable p] (hx : ev ρ x = some (.bool (decide p))) : Yl P N D ρ w (.unOp .not t x) ty (.bool (decide (¬ p))) :=
  fun a _ _ _ _ ha => by simp [execOp, ha.eval hx, Op.unary]
theorem y_conv {k' : IntKind} {td : TypeDesc} (hx : ev ρ x = some (.int k' m)) (ht : P.underlying t = some td) (ht' : P.underlying t' = some (.int k)) (hb : k.wrap m = r) : Yl P N D ρ w (.convert t t' x) ty (.int k r) :=
  fun a _ _ _ _ ha => by
    cases td <;> simp [execOp, ha.eval hx, convert, run_underlying ht, run_underlying ht', Conv.intToInt, hb]
theorem y_extract {vs : Array Value} {i : Nat} (hx : ev ρ x = some (.tuple vs)) (hv : vs[i]? = some v) : Yl P N D ρ w (.extract x i) ty v :=
  fun a _ _ _ _ ha => by simp [execOp, ha.eval hx, Instr.extract, hv]
theorem y_nilp {a : Addr} (hx : ev ρ x = some (.pointer (some a))) : Yl P N D ρ w (.nilCheck x) ty (.pointer (some a)) :=
  fun a _ _ _ _ ha => by simp [execOp, ha.eval hx]
theorem y_lenS {e : TypeId} {A : Option Addr} {n c : Nat} (hx : ev ρ x = some (.slice A n c)) (ht : P.underlying t = some (.slice e)) : Yl P N D ρ w (.call ⟨.builtin .len, #[x], #[t]⟩) ty (.int .i64 n) :=
  fun a _ _ _ _ ha => by simp [execOp, resolve, invoke, builtin, Builtin.len_, ha.eval hx, run_underlying ht, goInt]
end

/-! ### Memory -/
/-- From w to w' only blocks of S have changed, and new ones have come. -/
structure Fr (S : Nat → Prop) (w w' : World) : Prop where
  os : w'.os = w.os
  tape : w'.tape = w.tape
  output : w'.output = w.output
  size : w.heap.size ≤ w'.heap.size
  block : ∀ k, k < w.heap.size → ¬ S k → w'.heap[k]? = w.heap[k]?
def No : Nat → Prop := fun _ => False
theorem Fr.refl (S : Nat → Prop) (w : World) : Fr S w w := ⟨rfl, rfl, rfl, Nat.le_refl _, fun _ _ _ => rfl⟩
theorem Fr.trans {S T U : Nat → Prop} {a b c : World} (h : Fr S a b) (k : Fr T b c) (hs : ∀ i, S i → U i) (ht : ∀ i, i < a.heap.size → T i → U i) : Fr U a c :=
  ⟨k.os.trans h.os, k.tape.trans h.tape, k.output.trans h.output, Nat.le_trans h.size k.size, fun i hi hu =>
    (k.block i (Nat.lt_of_lt_of_le hi h.size) (fun e => hu (ht i hi e))).trans (h.block i hi (fun e => hu (hs i e)))⟩
theorem Fr.trans0 {S : Nat → Prop} {a b c : World} (h : Fr S a b) (k : Fr No b c) : Fr S a c := h.trans k (fun _ e => e) (fun _ _ e => e.elim)
theorem Fr.mono {S T : Nat → Prop} {a b : World} (h : Fr S a b) (hs : ∀ i, i < a.heap.size → S i → T i) : Fr T a b :=
  ⟨h.os, h.tape, h.output, h.size, fun i hi hu => h.block i hi (fun e => hu (hs i hi e))⟩
theorem Fr.new {S : Nat → Prop} {a b c : World} (h : Fr S a b) {T : Nat → Prop} (k : Fr T b c) (hs : ∀ i, T i → a.heap.size ≤ i) : Fr S a c :=
  h.trans k (fun _ e => e) (fun i hi e => absurd (hs i e) (by omega))
theorem Fr.below {w w' : World} (h : Fr No w w') : Below w.heap.size w w' := ⟨h.os, h.tape, h.output, h.size, fun k hk => h.block k hk (fun e => e)⟩
theorem Fr.of_below {w w' : World} (h : Below w.heap.size w w') : Fr No w w' := ⟨h.os, h.tape, h.output, h.size, fun k hk _ => h.block k hk⟩
theorem Fr.of_grown {w w' : World} {row : Option Nat} (h : w.grownBy w' row) : Fr (fun k => row = some k) w w' := ⟨h.os, h.tape, h.output, h.size, fun k hk hn => h.block k hk (fun e => hn e.symm)⟩
theorem Fr.of_grown0 {w w' : World} (h : w.grownBy w' none) : Fr No w w' := ⟨h.os, h.tape, h.output, h.size, fun k hk _ => h.block k hk (fun e => by cases e)⟩
theorem Fr.grown {w w' : World} (h : Fr No w w') (row : Option Nat) : w.grownBy w' row := ⟨h.os, h.tape, h.output, h.size, fun k hk _ => h.block k hk (fun e => e)⟩
theorem Fr.cell {S : Nat → Prop} {w w' : World} (h : Fr S w w') {p : Addr} (hp : p.block < w.heap.size) (hn : ¬ S p.block) : w'.cell? p = w.cell? p :=
  World.cell?_of_block (h.block _ hp hn)
theorem Fr.alloc (w : World) (o : Obj) : Fr No w (w.alloc o) := .of_grown0 (World.grownBy_alloc w o none)
theorem Fr.drew (w : World) : Fr No w w.drew := ⟨rfl, rfl, rfl, Nat.le_refl _, fun _ _ _ => rfl⟩

theorem lt_of_cell {w : World} {a : Addr} {v : Value} (h : w.cell? a = some v) : a.block < w.heap.size := World.block_lt_of_cell? w a h
theorem add_block (a : Addr) (n : Nat) : (a.add n).block = a.block := by unfold Addr.add; split <;> rfl
theorem add_add (a : Addr) (i j : Nat) : (a.add i).add j = a.add (i + j) := by
  unfold Addr.add
  by_cases hi : i = 0 <;> by_cases hj : j = 0 <;> simp [hi, hj, Nat.add_assoc]
theorem cell_fr {S : Nat → Prop} {w w' : World} {p : Addr} {v : Value} (h : w.cell? p = some v) (f : Fr S w w') (hn : ¬ S p.block) : w'.cell? p = some v :=
  (f.cell (lt_of_cell h) hn).trans h

/-- Block g is just these cells, of element type t; none of them is frozen. -/
def Blk (w : World) (g : Nat) (t : TypeId) (cs : List Value) : Prop :=
  ∃ f : Nat × Nat, w.heap[g]? = some (.cells cs.toArray t f) ∧ (∀ i, i < cs.length → (decide (f.1 ≤ i) && decide (i < f.2)) = false) ∧ f.1 ≤ f.2
section
variable {w w' : World} {g : Nat} {t : TypeId} {cs : List Value} {S : Nat → Prop}
theorem lt_of_heap {w : World} {g : Nat} {o : Obj} (h : w.heap[g]? = some o) : g < w.heap.size := by
  rcases Nat.lt_or_ge g w.heap.size with hlt | hge
  · exact hlt
  · rw [Array.getElem?_eq_none hge] at h; cases h
theorem Blk.lt (h : Blk w g t cs) : g < w.heap.size := by obtain ⟨f, h, _⟩ := h; exact lt_of_heap h
theorem addr_add (g o i : Nat) : (⟨g, o, none⟩ : Addr).add i = ⟨g, o + i, none⟩ := by unfold Addr.add; split <;> simp_all
theorem Blk.cell (h : Blk w g t cs) {i : Nat} {v : Value} (hv : cs[i]? = some v) : w.cell? ⟨g, i, none⟩ = some v := by
  obtain ⟨f, h, _⟩ := h
  simp [World.cell?, h, hv]
theorem Blk.cell_add (h : Blk w g t cs) {o i : Nat} {v : Value} (hv : cs[o + i]? = some v) : w.cell? ((⟨g, o, none⟩ : Addr).add i) = some v := by
  rw [addr_add]; exact h.cell hv
theorem Blk.frozen (h : Blk w g t cs) {i : Nat} (hi : i < cs.length) : w.frozen? ⟨g, i, none⟩ = false := by
  obtain ⟨f, h, hf⟩ := h
  simpa [World.frozen?, h] using hf.1 i hi
theorem Blk.fr (h : Blk w g t cs) (f : Fr S w w') (hn : ¬ S g) : Blk w' g t cs := by
  have hl := h.lt
  obtain ⟨x, h, hf⟩ := h
  exact ⟨x, (f.block g hl hn).trans h, hf⟩
theorem Blk.fr0 (h : Blk w g t cs) (f : Fr No w w') : Blk w' g t cs := h.fr f (fun e => e)
theorem Blk.new (w : World) (t : TypeId) (cs : List Value) : Blk (w.alloc (.cells cs.toArray t)) w.heap.size t cs := ⟨(0, 0), heap_alloc_new w _, fun i _ => by simp, Nat.le_refl _⟩
theorem Blk.set (h : Blk w g t cs) (i : Nat) (u : Value) : Blk (w.setCell ⟨g, i, none⟩ u) g t (cs.set i u) := by
  obtain ⟨f, h, hf⟩ := h
  refine ⟨f, ?_, fun j hj => hf.1 j (by simpa using hj), hf.2⟩
  simp [World.setCell, Array.getElem?_modify, h]
theorem Fr.setCell (w : World) (p : Addr) (u : Value) : Fr (fun k => k = p.block) w (w.setCell p u) :=
  ⟨rfl, rfl, rfl, by simp [World.setCell], fun k _ hn => by simp [World.setCell, Array.getElem?_modify]; intro e; exact absurd e.symm hn⟩
theorem size_setCell (w : World) (p : Addr) (u : Value) : (w.setCell p u).heap.size = w.heap.size := by simp [World.setCell]
theorem Blk.unique {t' : TypeId} {cs' : List Value} (h : Blk w g t cs) (h' : Blk w g t' cs') : t = t' ∧ cs = cs' := by
  obtain ⟨f, h, _⟩ := h
  obtain ⟨f', h', _⟩ := h'
  rw [h] at h'
  injection h' with h'
  injection h' with h1 h2 _
  exact ⟨h2, by simpa using h1⟩
theorem Blk.ne {g' : Nat} {t' : TypeId} {cs' : List Value} (h : Blk w g t cs) (h' : Blk w g' t' cs') (hne : t ≠ t') : g ≠ g' := by
  rintro rfl
  exact hne (h.unique h').1
end
/-- stores one behind the other -/
def splice (cs : List Value) (o : Nat) (vs : List Value) : List Value := cs.take o ++ vs ++ cs.drop (o + vs.length)
theorem splice_length {cs vs : List Value} {o : Nat} (h : o + vs.length ≤ cs.length) : (splice cs o vs).length = cs.length := by
  simp [splice]; omega
theorem splice_cons {cs rest : List Value} {o : Nat} {v : Value} (h : o < cs.length) : splice (cs.set o v) (o + 1) rest = splice cs o (v :: rest) := by
  unfold splice
  have h1 : (cs.set o v).take (o + 1) = cs.take o ++ [v] := by
    rw [List.set_eq_take_append_cons_drop, if_pos h, List.take_append]
    simp [List.length_take, Nat.min_eq_left (Nat.le_of_lt h), List.take_take]
  rw [h1, List.drop_set_of_lt (by omega)]
  simp [Nat.add_assoc, Nat.add_comm 1]
theorem splice_nil {cs : List Value} {o : Nat} : splice cs o [] = cs := by simp [splice]
theorem splice_one {cs : List Value} {o : Nat} {v : Value} (h : o < cs.length) : splice cs o [v] = cs.set o v := by
  rw [← splice_cons h, splice_nil]
theorem splice_get {cs vs : List Value} {o i : Nat} (h : o + vs.length ≤ cs.length) : (splice cs o vs)[i]? = if i < o then cs[i]? else if i < o + vs.length then vs[i - o]? else cs[i]? := by
  unfold splice
  have hl : (cs.take o).length = o := by simp; omega
  by_cases h1 : i < o
  · rw [if_pos h1, List.append_assoc, List.getElem?_append_left (by omega), List.getElem?_take, if_pos h1]
  · rw [if_neg h1, List.append_assoc, List.getElem?_append_right (by omega), hl]
    by_cases h2 : i < o + vs.length
    · rw [if_pos h2, List.getElem?_append_left (by omega)]
    · rw [if_neg h2, List.getElem?_append_right (by omega), List.getElem?_drop]
      congr 1
      omega
section
variable {P : Program} {w : World} {g : Nat} {t : TypeId} {cs : List Value}
theorem run_store1 {i : Nat} {u : Value} (h : Blk w g t cs) (hi : i < cs.length) (h1 : u.oneCell' = true) : (store ⟨g, i, none⟩ u).run P w = .ok () (w.setCell ⟨g, i, none⟩ u) := by
  have hc : w.cell? ⟨g, i, none⟩ = some cs[i] := h.cell (List.getElem?_eq_getElem hi)
  have hf := h.frozen hi
  cases u <;> simp [store, Sem.run, hc, hf, Value.oneCell'] at h1 ⊢
theorem run_stores : ∀ (vs : List Value) (o i : Nat) (cs : List Value) (w : World), Blk w g t cs → o + i + vs.length ≤ cs.length → (∀ v ∈ vs, v.oneCell' = true) →
    ∃ w', (storeCells ⟨g, o, none⟩ vs i).run P w = .ok () w' ∧ Blk w' g t (splice cs (o + i) vs) ∧ Fr (fun k => k = g) w w' ∧ w'.heap.size = w.heap.size
  | [], o, i, cs, w, h, _, _ => ⟨w, rfl, by rw [splice_nil]; exact h, .refl _ _, rfl⟩
  | v :: rest, o, i, cs, w, h, hl, h1 => by
    have hi : o + i < cs.length := by simp at hl; omega
    obtain ⟨w', hr, hb, hf, hs⟩ := run_stores rest o (i + 1) (cs.set (o + i) v) (w.setCell ⟨g, o + i, none⟩ v) (h.set _ _) (by simp at hl ⊢; omega) (fun u hu => h1 u (by simp [hu]))
    refine ⟨w', ?_, ?_, ?_, ?_⟩
    · simp only [storeCells, addr_add]
      simp [run_store1 (P := P) h hi (h1 v (by simp)), hr]
    · rw [← splice_cons hi]; exact hb
    · exact (Fr.setCell w ⟨g, o + i, none⟩ v).trans hf (fun _ e => e) (fun _ _ e => e)
    · rw [hs, size_setCell]
end
/-- A slice's address, where there is one. -/
def d0 : Addr := ⟨0, 0, none⟩
/-- A slice value '.slice A n c' of elements of sz cells reads as xs. -/
def Rd (w : World) (sz : Nat) (A : Option Addr) (n : Nat) (xs : List Value) : Prop :=
  xs.length = n * sz ∧ (0 < n → A ≠ none) ∧ ∀ j u, xs[j]? = some u → w.cell? ((A.getD d0).add j) = some u
/-- The block of a slice is none of S. -/
def Off (S : Nat → Prop) (A : Option Addr) : Prop := ∀ a, A = some a → ¬ S a.block
section
variable {w w' : World} {sz : Nat} {A : Option Addr} {n : Nat} {xs : List Value} {S : Nat → Prop}
theorem Rd.cell (h : Rd w sz A n xs) {j : Nat} {u : Value} (hj : xs[j]? = some u) : w.cell? ((A.getD d0).add j) = some u := h.2.2 j u hj
theorem Rd.some (h : Rd w sz A n xs) (hn : 0 < n) : A = some (A.getD d0) := by
  cases A with
  | none => exact absurd rfl (h.2.1 hn)
  | some a => rfl
theorem Rd.fr (h : Rd w sz A n xs) (f : Fr S w w') (ho : Off S A) : Rd w' sz A n xs := by
  refine ⟨h.1, h.2.1, fun j u hu => cell_fr (h.2.2 j u hu) f ?_⟩
  have hl := (List.getElem?_eq_some_iff.1 hu).1
  have hn : 0 < n := by
    rcases Nat.eq_zero_or_pos n with e | e
    · rw [h.1, e] at hl; omega
    · exact e
  rw [add_block]
  exact ho _ (h.some hn)
theorem Rd.fr0 (h : Rd w sz A n xs) (f : Fr No w w') : Rd w' sz A n xs := h.fr f (fun _ _ e => e)
theorem Rd.nil (w : World) (sz : Nat) (A : Option Addr) : Rd w sz A 0 [] := ⟨by simp, fun h => absurd h (by omega), fun j u h => by simp at h⟩
theorem Rd.take (h : Rd w sz A n xs) {k : Nat} (hk : k ≤ n) : Rd w sz A k (xs.take (k * sz)) := by
  refine ⟨by rw [List.length_take, h.1]; exact Nat.min_eq_left (Nat.mul_le_mul_right _ hk), fun h0 => h.2.1 (by omega), fun j u hu => ?_⟩
  rw [List.getElem?_take] at hu
  split at hu
  · exact h.2.2 j u hu
  · cases hu
theorem Rd.cut (h : Rd w sz A n xs) {k cap : Nat} (hk : k ≤ n) (hc : n ≤ cap) :
    Rd w sz (if cap = k then A else A.map (·.add (k * sz))) (n - k) (xs.drop (k * sz)) := by
  refine ⟨by rw [List.length_drop, h.1, Nat.sub_mul], fun hn => ?_, fun j u hu => ?_⟩
  · rw [if_neg (by omega)]
    have := h.2.1 (by omega)
    cases A with
    | none => exact absurd rfl this
    | some a => simp
  · have hl := (List.getElem?_eq_some_iff.1 hu).1
    rw [List.length_drop, h.1] at hl
    have hn : k < n := by
      rcases Nat.lt_or_ge k n with e | e
      · exact e
      · have := Nat.mul_le_mul_right sz e; omega
    rw [if_neg (by omega)]
    obtain ⟨a, rfl⟩ : ∃ a, A = Option.some a := ⟨_, h.some (by omega)⟩
    rw [List.getElem?_drop] at hu
    have := h.2.2 _ u hu
    simpa [add_add] using this

end
/-- A slice value that the call owns: nil, or cells of a block from base on. -/
def Own (w : World) (base : Nat) (e : TypeId) (sz : Nat) (v : Value) (n : Nat) (xs : List Value) : Prop :=
  xs.length = n * sz ∧ ((v = .slice none 0 0 ∧ n = 0) ∨
    ∃ g o cap cur, v = .slice (some ⟨g, o, none⟩) n cap ∧ base ≤ g ∧ Blk w g e cur ∧ n ≤ cap ∧ cap ≤ maxLen ∧ o + cap * sz ≤ cur.length ∧ (cur.drop o).take (n * sz) = xs)
def vblk : Value → Nat → Prop
  | .slice (some a) _ _, k => k = a.block
  | _, _ => False
section
variable {w w' : World} {base : Nat} {e : TypeId} {sz n : Nat} {v : Value} {xs : List Value} {S : Nat → Prop}
theorem Own.nil (w : World) (base : Nat) (e : TypeId) (sz : Nat) : Own w base e sz (.slice none 0 0) 0 [] := ⟨by simp, .inl ⟨rfl, rfl⟩⟩
theorem Own.slice (h : Own w base e sz v n xs) : ∃ A c, v = .slice A n c ∧ n ≤ c := by
  rcases h.2 with ⟨rfl, rfl⟩ | ⟨g, o, cap, cur, rfl, _, _, h, _⟩
  · exact ⟨_, _, rfl, Nat.le_refl _⟩
  · exact ⟨_, _, rfl, h⟩
theorem Own.from (h : Own w base e sz v n xs) {k : Nat} (hk : vblk v k) : base ≤ k ∧ k < w.heap.size := by
  rcases h.2 with ⟨rfl, rfl⟩ | ⟨g, o, cap, cur, rfl, hb, hg, _⟩
  · exact hk.elim
  · have : k = g := hk
    exact this ▸ ⟨hb, hg.lt⟩
theorem Own.fr (h : Own w base e sz v n xs) (f : Fr S w w') (ho : ∀ k, vblk v k → ¬ S k) : Own w' base e sz v n xs := by
  rcases h with ⟨hl, h | ⟨g, o, cap, cur, rfl, hb, hg, h⟩⟩
  · exact ⟨hl, .inl h⟩
  · exact ⟨hl, .inr ⟨g, o, cap, cur, rfl, hb, hg.fr f (ho g rfl), h⟩⟩
theorem Own.fr0 (h : Own w base e sz v n xs) (f : Fr No w w') : Own w' base e sz v n xs := h.fr f (fun _ _ e => e)
theorem Own.wide (h : Own w base e sz v n xs) {b : Nat} (hb : b ≤ base) : Own w b e sz v n xs := by
  rcases h with ⟨hl, h | ⟨g, o, cap, cur, rfl, hbb, h⟩⟩
  · exact ⟨hl, .inl h⟩
  · exact ⟨hl, .inr ⟨g, o, cap, cur, rfl, Nat.le_trans hb hbb, h⟩⟩
theorem Own.rd {A : Option Addr} {m c : Nat} (h : Own w base e sz (.slice A m c) n xs) : m = n ∧ n ≤ c ∧ Rd w sz A n xs := by
  rcases h with ⟨hl, ⟨h1, rfl⟩ | ⟨g, o, cap, cur, h1, hb, hg, hn, hm, hc, hx⟩⟩
  · injection h1 with h1 h2 h3
    subst h1; subst h2; subst h3
    obtain rfl : xs = [] := List.eq_nil_of_length_eq_zero (by simpa using hl)
    exact ⟨rfl, Nat.le_refl _, Rd.nil w sz none⟩
  · injection h1 with h1 h2 h3
    subst h1; subst h2; subst h3
    refine ⟨rfl, hn, hl, fun _ e => by simp at e, fun j u hu => ?_⟩
    rw [← hx, List.getElem?_take] at hu
    split at hu
    · rw [List.getElem?_drop] at hu
      exact hg.cell_add hu
    · cases hu
theorem Own.made {g : Nat} {cs : List Value} {n cap : Nat} (h : Blk w g e cs) (hb : base ≤ g) (hn : n ≤ cap) (hm : cap ≤ maxLen) (hc : cs.length = cap * sz) :
    Own w base e sz (.slice (some ⟨g, 0, none⟩) n cap) n (cs.take (n * sz)) := by
  refine ⟨?_, .inr ⟨g, 0, cap, cs, rfl, hb, h, hn, hm, by omega, by simp⟩⟩
  rw [List.length_take, hc]
  exact Nat.min_eq_left (Nat.mul_le_mul_right _ hn)
end
/-- What the type table says of an element type: its zero, its cells, its bytes. -/
def TI (P : Program) (e : TypeId) (z : Value) (sz bytes : Nat) : Prop := (P.info? e).map (fun i => (i.zero, i.size, i.bytes)) = some (some z, sz, bytes)
theorem TI.get {P : Program} {e : TypeId} {z : Value} {sz bytes : Nat} (h : TI P e z sz bytes) : ∃ i, P.info? e = some i ∧ i.zero = some z ∧ i.size = sz ∧ i.bytes = bytes := by
  unfold TI at h
  cases hi : P.info? e with
  | none => rw [hi] at h; cases h
  | some i =>
    rw [hi] at h
    simp only [Option.map_some, Option.some.injEq, Prod.mk.injEq] at h
    exact ⟨i, rfl, h.1, h.2.1, h.2.2⟩
/-- the cells that 'append(.., x)' takes of x -/
def Src (P : Program) (w : World) (sz m : Nat) (x : Value) (news : List Value) : Prop :=
  news.length = m * sz ∧ ∀ w', Fr No w w' → (Builtin.lenOf x).run P w' = .ok m w' ∧ (Builtin.firstCells sz m x).run P w' = .ok news.toArray w'
theorem Src.of_rd {P : Program} {w : World} {sz m c : Nat} {A : Option Addr} {news : List Value} (h : Rd w sz A m news) : Src P w sz m (.slice A m c) news := by
  refine ⟨h.1, fun w' f => ⟨by simp [Builtin.lenOf], ?_⟩⟩
  have h' := h.fr0 f
  cases A with
  | none =>
    have : m = 0 := by
      rcases Nat.eq_zero_or_pos m with e | e
      · exact e
      · exact absurd rfl (h.2.1 e)
    subst this
    obtain rfl : news = [] := List.eq_nil_of_length_eq_zero (by simpa using h.1)
    simp [Builtin.firstCells]
  | some a =>
    exact run_firstCells_some (P := P) w' sz m a m c news h.1 (fun j v hv => h'.2.2 j v hv)

theorem Src.of_string {P : Program} {w : World} (s : ByteArray) : Src P w 1 s.size (.string s) (s.data.toList.map fun b => Value.int .u8 b.toNat) := by
  refine ⟨by simp, fun w' _ => ⟨by simp [Builtin.lenOf], ?_⟩⟩
  simp [Builtin.firstCells, ← List.map_toArray]
theorem size_zeroCells' (z : Array Value) (n : Nat) : (Builtin.zeroCells z n).size = n * z.size := by simp [Builtin.zeroCells]
set_option maxHeartbeats 1000000 in
theorem run_append {P : Program} {w : World} {base t u e : Nat} {ty : TypeId} {du : TypeDesc} {sz bytes n m : Nat} {v x z : Value} {xs news : List Value}
    (ht : P.underlying t = some (.slice e)) (hu : P.underlying u = some du) (hnu : du = .slice e ∨ du = .string) (hT : TI P e z sz bytes) (hz : z.cells.size = sz)
    (h : Own w base e sz v n xs) (hx : Src P w sz m x news) (h1 : ∀ u ∈ news, u.oneCell' = true) (hm : n + m ≤ maxLen) (hb : (n + m) * bytes ≤ 140737488355328) (hbase : base ≤ w.heap.size) :
    ∃ v' w', (Builtin.append_ #[t, u] ty #[v, x]).run P w = .ok v' w' ∧ Own w' base e sz v' (n + m) (xs ++ news) ∧ Fr (vblk v) w w' ∧ (∀ k, vblk v' k → vblk v k ∨ w.heap.size ≤ k) := by
  obtain ⟨i, hi, hzero, hsize, hby⟩ := hT.get
  have hlen : (xs ++ news).length = (n + m) * sz := by rw [List.length_append, h.1, hx.1, Nat.add_mul]
  obtain ⟨hl0, hf0⟩ := hx.2 w (.refl _ _)
  -- what a new row gives
  have grow : ∀ (A : Option Addr) (cap : Nat), v = .slice A n cap → cap < n + m → (Builtin.firstCells sz n v).run P w.drew = .ok xs.toArray w.drew →
      ∃ v' w', (Builtin.append_ #[t, u] ty #[v, x]).run P w = .ok v' w' ∧ Own w' base e sz v' (n + m) (xs ++ news) ∧ Fr (vblk v) w w' ∧ (∀ k, vblk v' k → vblk v k ∨ w.heap.size ≤ k) := by
    intro A cap hv hcap hold
    subst hv
    obtain ⟨hl1, hf1⟩ := hx.2 w.drew (Fr.drew w)
    have hge := grownCap_ge w (n + m) cap e
    have hcm : grownCap w (n + m) cap e ≤ maxLen := grownCap_le_maxLen w (n + m) cap e hm
    have hfit := growslice_fits (bytes := bytes) hcap hb
    have e1 : ¬ (n + m ≤ cap) := by omega
    have e2 : ¬ (9223372036854775807 < ((n + m : Nat) : Int)) := by simp only [maxLen] at hm; omega
    have e2' : ¬ (9223372036854775807 < ((n : Int) + (m : Int))) := by omega
    have e3 : ¬ (281474976710656 < Builtin.nextslicecap (n + m) cap * bytes) := by omega
    refine ⟨.slice (some ⟨w.heap.size, 0, none⟩) (n + m) (grownCap w (n + m) cap e),
      w.drew.alloc (.cells (xs.toArray ++ news.toArray ++ Builtin.zeroCells z.cells (grownCap w (n + m) cap e - (n + m))) e), ?_, ?_, ?_, ?_⟩
    · rcases hnu with rfl | rfl <;> (simp [Builtin.append_, run_underlying ht, run_underlying hu, sizeOf, typeInfo, zeroValue, hi, hzero, hsize, hby, hl0, e1, e2', e3, Question.forced, hold, hf1, newRow, grownCap]; congr 2; apply Array.ext'; simp)
    · refine ⟨hlen, .inr ⟨w.heap.size, 0, _, (xs ++ news) ++ (Builtin.zeroCells z.cells (grownCap w (n + m) cap e - (n + m))).toList, rfl, hbase, ?_, hge, hcm, ?_, ?_⟩⟩
      · have := Blk.new w.drew e ((xs ++ news) ++ (Builtin.zeroCells z.cells (grownCap w (n + m) cap e - (n + m))).toList)
        have e4 : ((xs ++ news) ++ (Builtin.zeroCells z.cells (grownCap w (n + m) cap e - (n + m))).toList).toArray = xs.toArray ++ news.toArray ++ Builtin.zeroCells z.cells (grownCap w (n + m) cap e - (n + m)) := by
          apply Array.ext'
          simp
        rw [e4] at this
        exact this
      · rw [List.length_append, hlen, Array.length_toList, size_zeroCells', hz, ← Nat.add_mul]
        have : n + m + (grownCap w (n + m) cap e - (n + m)) = grownCap w (n + m) cap e := by omega
        rw [this]; omega
      · rw [List.drop_zero, ← hlen]
        exact List.take_left
    · exact ((Fr.drew w).trans0 (Fr.alloc w.drew _)).mono (fun _ _ e => e.elim)
    · intro k hk
      exact .inr (Nat.le_of_eq (Eq.symm hk))
  rcases h.2 with ⟨rfl, rfl⟩ | ⟨g, o, cap, cur, rfl, hbg, hg, hnc, hcm, hcs, htake⟩
  · obtain rfl : xs = [] := List.eq_nil_of_length_eq_zero (by simpa using h.1)
    by_cases hm0 : m = 0
    · subst hm0
      obtain rfl : news = [] := List.eq_nil_of_length_eq_zero (by simpa using hx.1)
      refine ⟨.slice none 0 0, w, ?_, Own.nil w base e sz, .refl _ _, fun k hk => hk.elim⟩
      rcases hnu with rfl | rfl <;> (simp [Builtin.append_, run_underlying ht, run_underlying hu, sizeOf, typeInfo, hi, hsize, hl0, hf0])
    · exact grow none 0 rfl (by omega) (by simp [Builtin.firstCells])
  · have hrd : Rd w sz (some ⟨g, o, none⟩) n xs := (Own.rd h).2.2
    by_cases hroom : n + m ≤ cap
    · have hfit : o + n * sz + news.length ≤ cur.length := by
        have := Nat.mul_le_mul_right sz hroom
        rw [Nat.add_mul] at this
        have := hx.1
        omega
      obtain ⟨w', hr, hb', hfr, hsz'⟩ := run_stores (P := P) news (o + n * sz) 0 cur w hg (by omega) h1
      refine ⟨.slice (some ⟨g, o, none⟩) (n + m) cap, w', ?_, ⟨hlen, .inr ⟨g, o, cap, _, rfl, hbg, hb', hroom, hcm, ?_, ?_⟩⟩, hfr, fun k hk => .inl hk⟩
      · rcases hnu with rfl | rfl <;> (simp [Builtin.append_, run_underlying ht, run_underlying hu, sizeOf, typeInfo, hi, hsize, hl0, hroom, hf0, addr_add, hr])
      · rw [splice_length (by omega)]; exact hcs
      · have hcl : (cur.take (o + n * sz)).length = o + n * sz := by simp; omega
        have e5 : splice cur (o + n * sz + 0) news = cur.take (o + n * sz) ++ (news ++ cur.drop (o + n * sz + news.length)) := by simp [splice]
        rw [e5, List.drop_append_of_le_length (by omega)]
        have e6 : (cur.take (o + n * sz)).drop o = xs := by
          rw [List.drop_take, ← htake]
          congr 1
          omega
        rw [e6, ← List.append_assoc, ← hlen]
        exact List.take_left
    · refine grow (some ⟨g, o, none⟩) cap rfl (by omega) ?_
      have := run_firstCells_some (P := P) w.drew sz n ⟨g, o, none⟩ n cap xs h.1 (fun j v hv => hrd.2.2 j v hv)
      exact this
end Go.Eng
