/- What the claim leans on, part 1. -/
import Derived.WalkKit
import Derived.OrdersHeld
import Derived.Laws.IdiomStrings
import Derived.WalkLawsBesides
import Derived.DeepKeys
import Derived.ChangeSlices
import Derived.Laws.Tables
import Derived.Stop.Asserts
import Derived.Stop.IfaceNil
import Derived.LaidEql
import Derived.Lib.IfaceEq
import Derived.Lib.SliceRun
import Derived.Laws.BitsAllLaws
import Derived.Lib.AppendZerosOnto
import Derived.Lib.Overlaps
import Derived.Laws.Pointers
import Derived.Maps.RangeRun
import Derived.Conc.MuLone
import Derived.Defers
import Derived.WalkSpells
import Derived.Laws.MakeOwn
import Derived.Test.YtfikjheicjamhaaDoorProg
import Derived.KernelRfl
import Derived.Lib.Bytealg
section
/- The engine: one lemma for each operation, over a state that lists the slots' values. No statement is proved here. -/
set_option linter.unusedVariables false
set_option linter.unusedSimpArgs false
namespace Go.Eng
open Go.RowKit
abbrev Env := List (Nat × Value)
def get : Env → Nat → Option Value
  | [], _ => none
  | (k, v) :: r, t => bif Nat.beq k t then some v else get r t
structure Ag (N : Nat) (D : List Deferred) (ρ : Env) (a : Act) : Prop where
  sz : a.tmps.size = N
  df : a.defers = D
  gt : ∀ t v, get ρ t = some v → a.tmps[t]? = some v
def ev (ρ : Env) : Operand → Option Value
  | .tmp t => get ρ t
  | .const v => some v
  | .global g => some (.pointer (some ⟨g, 0, none⟩))
  | .func f => some (.func (.func f) #[] #[])
def evs (ρ : Env) : List Operand → Option (List Value)
  | [] => some []
  | x :: r => match ev ρ x, evs ρ r with
    | some v, some vs => some (v :: vs)
    | _, _ => none
section
variable {P : Program} {N : Nat} {D : List Deferred} {ρ ρ' : Env} {a : Act} {w : World}
theorem Ag.eval {x : Operand} {v : Value} (h : Ag N D ρ a) (hx : ev ρ x = some v) : a.eval x = v := by
  cases x with
  | tmp t =>
    have := h.gt t v hx
    simp [Act.eval, this]
  | const c => simpa [ev, Act.eval] using hx
  | global g => simpa [ev, Act.eval] using hx
  | func f => simpa [ev, Act.eval] using hx
theorem Ag.evals (h : Ag N D ρ a) : ∀ {l : List Operand} {vs : List Value}, evs ρ l = some vs → l.map a.eval = vs
  | [], vs, hl => by simpa [evs] using hl
  | x :: r, vs, hl => by
    unfold evs at hl
    split at hl
    · rename_i v us hv hus
      cases hl
      simp [h.eval hv, h.evals hus]
    · cases hl
theorem Ag.put {d : Nat} {v : Value} (h : Ag N D ρ a) (hd : d < N) : Ag N D ((d, v) :: ρ) (a.put (some d) v) := by
  refine ⟨by simp [Act.put, h.sz], by simp [Act.put, h.df], fun t u ht => ?_⟩
  simp only [get] at ht
  cases hb : Nat.beq d t with
  | true =>
    have : d = t := Nat.eq_of_beq_eq_true hb
    subst this
    rw [hb] at ht
    simp only [cond_true, Option.some.injEq] at ht
    subst ht
    simp [Act.put, h.sz, hd]
  | false =>
    have hne : d ≠ t := Nat.ne_of_beq_eq_false hb
    rw [hb] at ht
    simp only [cond_false] at ht
    simp only [Act.put]
    rw [Array.getElem?_setIfInBounds_ne hne]
    exact h.gt t u ht
/-- ρ' says no more than ρ. -/
def Sub (ρ' ρ : Env) : Prop := ∀ t v, get ρ' t = some v → get ρ t = some v
theorem sub_nil : Sub [] ρ := fun t v h => by simp [get] at h
theorem sub_cons {t : Nat} {v : Value} (h : get ρ t = some v) (hs : Sub ρ' ρ) : Sub ((t, v) :: ρ') ρ := fun u x hu => by
  simp only [get] at hu
  cases hb : Nat.beq t u with
  | true =>
    have : t = u := Nat.eq_of_beq_eq_true hb
    subst this
    rw [hb] at hu
    simp only [cond_true, Option.some.injEq] at hu
    exact hu ▸ h
  | false =>
    rw [hb] at hu
    exact hs u x hu
theorem Ag.sub (h : Ag N D ρ a) (hs : Sub ρ' ρ) : Ag N D ρ' a := ⟨h.sz, h.df, fun t v ht => h.gt t v (hs t v ht)⟩
end
/-! ### The judgements -/
def WL (P : Program) (ops : Array Oper) (Q : Exit → Act → World → Prop) (N : Nat) (D : List Deferred) (l : List Oper) (ρ : Env) (w : World) : Prop :=
  ∀ a, Ag N D ρ a → wpList P ops Q l a w
def WC (P : Program) (Q : Exit → Act → World → Prop) (N : Nat) (D : List Deferred) (c : Code) (ρ : Env) (w : World) : Prop :=
  ∀ a, Ag N D ρ a → c.wp P Q a w
def WQ (Q : Exit → Act → World → Prop) (N : Nat) (D : List Deferred) (e : Exit) (ρ : Env) (w : World) : Prop :=
  ∀ a, Ag N D ρ a → Q e a w
/-- The operation yields v and leaves the world as it is. -/
def Yl (P : Program) (N : Nat) (D : List Deferred) (ρ : Env) (w : World) (op : Op) (ty : TypeId) (v : Value) : Prop :=
  ∀ a dst pos af g, Ag N D ρ a → (execOp a.eval ⟨dst, op, ty, pos, af, g⟩).run P w = .ok (.value v) w
/-- The operation may change the world; K: what follows. -/
def XW (P : Program) (Q : Exit → Act → World → Prop) (N : Nat) (D : List Deferred) (ρ : Env) (w : World) (op : Op) (ty : TypeId) (K : Value → World → Prop) : Prop :=
  ∀ a dst pos af g, Ag N D ρ a → (⟨dst, op, ty, pos, af, g⟩ : Oper).wp P a w (fun a' w' => ∃ v, a' = a.put dst v ∧ K v w') Q
section
variable {P : Program} {ops : Array Oper} {Q : Exit → Act → World → Prop} {N : Nat} {D : List Deferred} {ρ ρ' : Env} {w : World} {rest : List Oper}
  {op : Op} {ty : TypeId} {pos : String} {af : Array Edge} {d : Nat} {v : Value}
theorem nq (h : Yl P N D ρ w op ty v) (k : WL P ops Q N D rest ((d, v) :: ρ) w) (hd : d < N := by decide) : WL P ops Q N D (⟨some d, op, ty, pos, af, none⟩ :: rest) ρ w := by
  intro a ha
  unfold wpList
  rw [if_pos (by simp [Region.wanted])]
  refine .inl ?_
  unfold Oper.wp
  rw [h a _ pos af none ha]
  exact k _ (ha.put hd)
theorem nx (h : XW P Q N D ρ w op ty (fun v w' => WL P ops Q N D rest ((d, v) :: ρ) w')) (hd : d < N := by decide) : WL P ops Q N D (⟨some d, op, ty, pos, af, none⟩ :: rest) ρ w := by
  intro a ha
  unfold wpList
  rw [if_pos (by simp [Region.wanted])]
  refine .inl (Oper.wp_mono ?_ (h a (some d) pos af none ha))
  rintro a' w' ⟨v, rfl, hk⟩
  exact hk _ (ha.put hd)
theorem nx0 (h : XW P Q N D ρ w op ty (fun _ w' => WL P ops Q N D rest ρ w')) : WL P ops Q N D (⟨none, op, ty, pos, af, none⟩ :: rest) ρ w := by
  intro a ha
  unfold wpList
  rw [if_pos (by simp [Region.wanted])]
  refine .inl (Oper.wp_mono ?_ (h a none pos af none ha))
  rintro a' w' ⟨v, rfl, hk⟩
  exact hk _ ha
theorem nend (h : WQ Q N D .normal ρ w) : WL P ops Q N D [] ρ w := fun a ha => h a ha
theorem qsub {e : Exit} (hs : Sub ρ' ρ) (h : WQ Q N D e ρ' w) : WQ Q N D e ρ w := fun a ha => h a (ha.sub hs)
/-- a guarded operation: the guard holds / does not hold -/
theorem ng {g : Nat} {want : Bool} {gd : Nat} {o : Oper} (ho : ops[g]? = some o) (hod : o.dst = some gd) (hb : get ρ gd = some (.bool want)) (h : Yl P N D ρ w op ty v)
    (k : WL P ops Q N D rest ((d, v) :: ρ) w) (hd : d < N := by decide) : WL P ops Q N D (⟨some d, op, ty, pos, af, some (g, want)⟩ :: rest) ρ w := by
  intro a ha
  unfold wpList
  rw [if_pos (by simp [Region.wanted, yielded, ho, hod, ha.gt _ _ hb])]
  refine .inl ?_
  unfold Oper.wp
  rw [h a _ pos af (some (g, want)) ha]
  exact k _ (ha.put hd)
end
/-! ### Code -/
section
variable {P : Program} {Q : Exit → Act → World → Prop} {N : Nat} {D : List Deferred} {ρ ρ' : Env} {w : World} {c c' : Code}
theorem cseq (h : WC P (Exit.then (c'.wp P Q) Q) N D c ρ w) : WC P Q N D (.seq c c') ρ w := fun a ha => wp_seq (h a ha)
theorem creg {id : Nat} {l : List Oper} (h : WL P l.toArray Q N D l ρ w) : WC P Q N D (.region id l.toArray false) ρ w := fun a ha => wp_region_lit (h a ha)
theorem cskip (h : WQ Q N D .normal ρ w) : WC P Q N D .skip ρ w := fun a ha => wp_skip (h a ha)
theorem cexit {id : Nat} (h : WQ Q N D (.exit id) ρ w) : WC P Q N D (.exit id) ρ w := fun a ha => wp_exit (h a ha)
theorem cret (h : WQ Q N D .ret ρ w) : WC P Q N D .ret ρ w := fun a ha => wp_ret (h a ha)
theorem cblock {id : Nat} (h : WC P (Exit.inBlock id Q) N D c ρ w) : WC P Q N D (.block id c) ρ w := fun a ha => wp_block (h a ha)
theorem cif {p : Prop} [Decidable p] {x : Operand} {t e : Code} (hc : ev ρ x = some (.bool (decide p))) (ht : p → WC P Q N D t ρ w) (he : ¬ p → WC P Q N D e ρ w) : WC P Q N D (.cond x t e) ρ w :=
  fun a ha => wp_cond_split (ha.eval hc) (fun h => ht (of_decide_eq_true h) a ha) (fun h => he (of_decide_eq_false h) a ha)
theorem cifb {b : Bool} {x : Operand} {t e : Code} (hc : ev ρ x = some (.bool b)) (ht : b = true → WC P Q N D t ρ w) (he : b = false → WC P Q N D e ρ w) : WC P Q N D (.cond x t e) ρ w :=
  fun a ha => wp_cond_split (ha.eval hc) (fun h => ht h a ha) (fun h => he h a ha)
theorem cift {x : Operand} {t e : Code} {b : Bool} (hc : ev ρ x = some (.bool b)) (hb : b = true) (ht : WC P Q N D t ρ w) : WC P Q N D (.cond x t e) ρ w :=
  fun a ha => wp_cond_true (hb ▸ ha.eval hc) (ht a ha)
theorem ciff {x : Operand} {t e : Code} {b : Bool} (hc : ev ρ x = some (.bool b)) (hb : b = false) (ht : WC P Q N D e ρ w) : WC P Q N D (.cond x t e) ρ w :=
  fun a ha => wp_cond_false (hb ▸ ha.eval hc) (ht a ha)
/-- a loop: ι: what a round's head is told by -/
theorem cloop {ι : Type} (μ : ι → Nat) (R : ι → Env) (I : ι → World → Prop) (i : ι) (hi : I i w) (hs : Sub (R i) ρ)
    (round : ∀ i w, I i w → WC P (Exit.then (fun a' w' => ∃ j, Ag N D (R j) a' ∧ I j w' ∧ μ j < μ i) Q) N D c (R i) w) : WC P Q N D (.loop c) ρ w := by
  intro a ha b k cs
  have key : ∀ n i a w, μ i = n → Ag N D (R i) a → I i w →
      ∃ e a' w', Q e a' w' ∧ Arrives P (lone (b.at a (.code c :: .inLoop c :: k)) cs w) b k cs e a' w' := by
    intro n
    induction n using Nat.strongRecOn with
    | _ n ih =>
      intro i a w hn hag hI
      obtain ⟨e, a₁, w₁, hq, harr⟩ := round i w hI a hag b (.inLoop c :: k) cs
      cases e with
      | normal =>
        obtain ⟨j, haj, hIj, hlt⟩ := hq
        obtain ⟨e₂, a₂, w₂, hq₂, harr₂⟩ := ih (μ j) (hn ▸ hlt) j a₁ w₁ rfl haj hIj
        exact ⟨e₂, a₂, w₂, hq₂, .of_steps (Steps.trans harr (.one step_inLoop)) harr₂⟩
      | exit id => exact ⟨_, a₁, w₁, hq, .pass (x := .inLoop c) rfl (fun _ _ => .inl (by simp)) harr⟩
      | goto l => exact ⟨_, a₁, w₁, hq, .pass (x := .inLoop c) rfl (fun _ _ => .inl (by simp)) harr⟩
      | ret => exact ⟨_, a₁, w₁, hq, .pass (x := .inLoop c) rfl (fun _ _ => .inl (by simp)) harr⟩
      | panic ch => exact ⟨_, a₁, w₁, hq, .pass (x := .inLoop c) rfl (fun _ _ => .inl (by simp)) harr⟩
      | outgrown => exact ⟨_, a₁, w₁, hq, .pass (x := .inLoop c) rfl (fun _ _ => .inl (by simp)) harr⟩
  obtain ⟨e, a', w', hq, harr⟩ := key _ i a w rfl (ha.sub hs) hi
  exact ⟨e, a', w', hq, .of_steps (.one step_loop) harr⟩
end
/-! ### Operations that yield a value -/
section
variable {P : Program} {N : Nat} {D : List Deferred} {ρ : Env} {w : World} {ty t t' : TypeId} {x y z : Operand} {v v' : Value} {k : IntKind} {m n r : Int}
theorem w64 {r : Int} (h1 : -9223372036854775808 ≤ r) (h2 : r ≤ 9223372036854775807) : IntKind.i64.wrap r = r := IntWalk.i64_in _ (by omega)
theorem y_move (h : ev ρ x = some v) : Yl P N D ρ w (.move x) ty v := fun a _ _ _ _ ha => by simp [execOp, ha.eval h]
theorem y_assign (h : ev ρ x = some v) : Yl P N D ρ w (.assign x) ty v := fun a _ _ _ _ ha => by simp [execOp, ha.eval h]
theorem y_pickT (hc : ev ρ z = some (.bool true)) (hx : ev ρ x = some v) : Yl P N D ρ w (.pick z x y) ty v :=
  fun a _ _ _ _ ha => by simp [execOp, ha.eval hc, ha.eval hx, asBool]
theorem y_pickF (hc : ev ρ z = some (.bool false)) (hx : ev ρ y = some v) : Yl P N D ρ w (.pick z x y) ty v :=
  fun a _ _ _ _ ha => by simp [execOp, ha.eval hc, ha.eval hx, asBool]
theorem y_add (hx : ev ρ x = some (.int k m)) (hy : ev ρ y = some (.int k n)) (hb : k.wrap (m + n) = r) : Yl P N D ρ w (.binOp .add t x y t') ty (.int k r) :=
  fun a _ _ _ _ ha => by simp [execOp, ha.eval hx, ha.eval hy, eqGuard, binOp, Op.intArith, hb]
theorem y_sub (hx : ev ρ x = some (.int k m)) (hy : ev ρ y = some (.int k n)) (hb : k.wrap (m - n) = r) : Yl P N D ρ w (.binOp .sub t x y t') ty (.int k r) :=
  fun a _ _ _ _ ha => by simp [execOp, ha.eval hx, ha.eval hy, eqGuard, binOp, Op.intArith, hb]
theorem y_mul (hx : ev ρ x = some (.int k m)) (hy : ev ρ y = some (.int k n)) (hb : k.wrap (m * n) = r) : Yl P N D ρ w (.binOp .mul t x y t') ty (.int k r) :=
  fun a _ _ _ _ ha => by simp [execOp, ha.eval hx, ha.eval hy, eqGuard, binOp, Op.intArith, hb]
theorem y_quo (hx : ev ρ x = some (.int k m)) (hy : ev ρ y = some (.int k n)) (h0 : 0 ≤ m) (h1 : 0 < n) (hb : k.wrap (m / n) = r) : Yl P N D ρ w (.binOp .quo t x y t') ty (.int k r) :=
  fun a _ _ _ _ ha => by simp [execOp, ha.eval hx, ha.eval hy, eqGuard, binOp, Op.intDiv, Int.ne_of_gt h1, Int.tdiv_eq_ediv_of_nonneg h0, hb]
theorem y_rem (hx : ev ρ x = some (.int k m)) (hy : ev ρ y = some (.int k n)) (h0 : 0 ≤ m) (h1 : 0 < n) : Yl P N D ρ w (.binOp .rem t x y t') ty (.int k (m % n)) :=
  fun a _ _ _ _ ha => by simp [execOp, ha.eval hx, ha.eval hy, eqGuard, binOp, Op.intDiv, Int.ne_of_gt h1, Int.tmod_eq_emod_of_nonneg h0]
theorem y_lss (hx : ev ρ x = some (.int k m)) (hy : ev ρ y = some (.int k n)) : Yl P N D ρ w (.binOp .lss t x y t') ty (.bool (decide (m < n))) :=
  fun a _ _ _ _ ha => by simp [execOp, ha.eval hx, ha.eval hy, eqGuard, binOp, Op.intCmp]
theorem y_leq (hx : ev ρ x = some (.int k m)) (hy : ev ρ y = some (.int k n)) : Yl P N D ρ w (.binOp .leq t x y t') ty (.bool (decide (m ≤ n))) :=
  fun a _ _ _ _ ha => by simp [execOp, ha.eval hx, ha.eval hy, eqGuard, binOp, Op.intCmp]
theorem y_gtr (hx : ev ρ x = some (.int k m)) (hy : ev ρ y = some (.int k n)) : Yl P N D ρ w (.binOp .gtr t x y t') ty (.bool (decide (n < m))) :=
  fun a _ _ _ _ ha => by simp [execOp, ha.eval hx, ha.eval hy, eqGuard, binOp, Op.intCmp]
theorem y_geq (hx : ev ρ x = some (.int k m)) (hy : ev ρ y = some (.int k n)) : Yl P N D ρ w (.binOp .geq t x y t') ty (.bool (decide (n ≤ m))) :=
  fun a _ _ _ _ ha => by simp [execOp, ha.eval hx, ha.eval hy, eqGuard, binOp, Op.intCmp]
theorem y_eql (hx : ev ρ x = some (.int k m)) (hy : ev ρ y = some (.int k n)) : Yl P N D ρ w (.binOp .eql t x y t') ty (.bool (decide (m = n))) :=
  fun a _ _ _ _ ha => by
    have : (m == n) = decide (m = n) := by by_cases h : m = n <;> simp [h]
    simp [execOp, ha.eval hx, ha.eval hy, eqGuard, binOp, Op.intCmp, this]
theorem y_neq (hx : ev ρ x = some (.int k m)) (hy : ev ρ y = some (.int k n)) : Yl P N D ρ w (.binOp .neq t x y t') ty (.bool (decide (m ≠ n))) :=
  fun a _ _ _ _ ha => by
    have : (m != n) = decide (m ≠ n) := by by_cases h : m = n <;> simp [h]
    simp [execOp, ha.eval hx, ha.eval hy, eqGuard, binOp, Op.intCmp, this]
theorem y_shl {k' : IntKind} {p : Int} (hx : ev ρ x = some (.int k m)) (hy : ev ρ y = some (.int k' n)) (h0 : 0 ≤ n) (h1 : n < k.bits) (hp : 2 ^ n.toNat = p) (hb : k.wrap (m * p) = r) : Yl P N D ρ w (.binOp .shl t x y t') ty (.int k r) :=
  fun a _ _ _ _ ha => by
    subst hp
    have h2 : ¬ n < 0 := by omega
    have h3 : min n.toNat k.bits = n.toNat := by omega
    simp [execOp, ha.eval hx, ha.eval hy, eqGuard, binOp, Op.shift, h2, h3, hb]
theorem y_shr {k' : IntKind} {p : Int} (hx : ev ρ x = some (.int k m)) (hy : ev ρ y = some (.int k' n)) (h0 : 0 ≤ n) (h1 : n < k.bits) (hp : 2 ^ n.toNat = p) : Yl P N D ρ w (.binOp .shr t x y t') ty (.int k (m / p)) :=
  fun a _ _ _ _ ha => by
    subst hp
    have h2 : ¬ n < 0 := by omega
    have h3 : min n.toNat k.bits = n.toNat := by omega
    have h4 : m.fdiv (2 ^ n.toNat) = m / 2 ^ n.toNat := Int.fdiv_eq_ediv_of_nonneg _ (Int.le_of_lt (Int.pow_pos (by decide)))
    simp [execOp, ha.eval hx, ha.eval hy, eqGuard, binOp, Op.shift, h2, h3, h4]
theorem y_bits {op : BinOp} (hop : op = .and ∨ op = .or ∨ op = .xor ∨ op = .andNot) (hx : ev ρ x = some (.int k m)) (hy : ev ρ y = some (.int k n)) (hr : bits op k m n = r) : Yl P N D ρ w (.binOp op t x y t') ty (.int k r) :=
  fun a _ _ _ _ ha => by
    subst hr
    rcases hop with rfl | rfl | rfl | rfl <;> simp [execOp, ha.eval hx, ha.eval hy, eqGuard, binOp, Op.intBits, bits]
theorem y_neg (hx : ev ρ x = some (.int k m)) (hb : k.wrap (-m) = r) : Yl P N D ρ w (.unOp .neg t x) ty (.int k r) :=
  fun a _ _ _ _ ha => by simp [execOp, ha.eval hx, Op.unary, Op.intArith, hb]
theorem y_notp {p : Prop} [Decidable p] (hx : ev ρ x = some (.bool (decide p))) : Yl P N D ρ w (.unOp .not t x) ty (.bool (decide (¬ p))) :=
  fun a _ _ _ _ ha => by simp [execOp, ha.eval hx, Op.unary]
theorem y_conv {k' : IntKind} {td : TypeDesc} (hx : ev ρ x = some (.int k' m)) (ht : P.underlying t = some td) (ht' : P.underlying t' = some (.int k)) (hb : k.wrap m = r) : Yl P N D ρ w (.convert t t' x) ty (.int k r) :=
  fun a _ _ _ _ ha => by
    cases td <;> simp [execOp, ha.eval hx, convert, run_underlying ht, run_underlying ht', Conv.intToInt, hb]
theorem y_extract {vs : Array Value} {i : Nat} (hx : ev ρ x = some (.tuple vs)) (hv : vs[i]? = some v) : Yl P N D ρ w (.extract x i) ty v :=
  fun a _ _ _ _ ha => by simp [execOp, ha.eval hx, Instr.extract, hv]
theorem y_nilp {a : Addr} (hx : ev ρ x = some (.pointer (some a))) : Yl P N D ρ w (.nilCheck x) ty (.pointer (some a)) :=
  fun a _ _ _ _ ha => by simp [execOp, ha.eval hx]
theorem y_lenS {e : TypeId} {A : Option Addr} {n c : Nat} (hx : ev ρ x = some (.slice A n c)) (ht : P.underlying t = some (.slice e)) : Yl P N D ρ w (.call ⟨.builtin .len, #[x], #[t]⟩) ty (.int .i64 n) :=
  fun a _ _ _ _ ha => by simp [execOp, resolve, invoke, builtin, Builtin.len_, ha.eval hx, run_underlying ht, goInt]
end
/-! ### Memory -/
/-- From w to w' only blocks of S have changed, and new ones have come. -/
structure Fr (S : Nat → Prop) (w w' : World) : Prop where
  os : w'.os = w.os
  tape : w'.tape = w.tape
  output : w'.output = w.output
  size : w.heap.size ≤ w'.heap.size
  block : ∀ k, k < w.heap.size → ¬ S k → w'.heap[k]? = w.heap[k]?
def No : Nat → Prop := fun _ => False
theorem Fr.refl (S : Nat → Prop) (w : World) : Fr S w w := ⟨rfl, rfl, rfl, Nat.le_refl _, fun _ _ _ => rfl⟩
theorem Fr.trans {S T U : Nat → Prop} {a b c : World} (h : Fr S a b) (k : Fr T b c) (hs : ∀ i, S i → U i) (ht : ∀ i, i < a.heap.size → T i → U i) : Fr U a c :=
  ⟨k.os.trans h.os, k.tape.trans h.tape, k.output.trans h.output, Nat.le_trans h.size k.size, fun i hi hu =>
    (k.block i (Nat.lt_of_lt_of_le hi h.size) (fun e => hu (ht i hi e))).trans (h.block i hi (fun e => hu (hs i e)))⟩
theorem Fr.trans0 {S : Nat → Prop} {a b c : World} (h : Fr S a b) (k : Fr No b c) : Fr S a c := h.trans k (fun _ e => e) (fun _ _ e => e.elim)
theorem Fr.mono {S T : Nat → Prop} {a b : World} (h : Fr S a b) (hs : ∀ i, i < a.heap.size → S i → T i) : Fr T a b :=
  ⟨h.os, h.tape, h.output, h.size, fun i hi hu => h.block i hi (fun e => hu (hs i hi e))⟩
theorem Fr.new {S : Nat → Prop} {a b c : World} (h : Fr S a b) {T : Nat → Prop} (k : Fr T b c) (hs : ∀ i, T i → a.heap.size ≤ i) : Fr S a c :=
  h.trans k (fun _ e => e) (fun i hi e => absurd (hs i e) (by omega))
theorem Fr.below {w w' : World} (h : Fr No w w') : Below w.heap.size w w' := ⟨h.os, h.tape, h.output, h.size, fun k hk => h.block k hk (fun e => e)⟩
theorem Fr.of_grown0 {w w' : World} (h : w.grownBy w' none) : Fr No w w' := ⟨h.os, h.tape, h.output, h.size, fun k hk _ => h.block k hk (fun e => by cases e)⟩
theorem Fr.grown {w w' : World} (h : Fr No w w') (row : Option Nat) : w.grownBy w' row := ⟨h.os, h.tape, h.output, h.size, fun k hk _ => h.block k hk (fun e => e)⟩
theorem Fr.cell {S : Nat → Prop} {w w' : World} (h : Fr S w w') {p : Addr} (hp : p.block < w.heap.size) (hn : ¬ S p.block) : w'.cell? p = w.cell? p :=
  World.cell?_of_block (h.block _ hp hn)
theorem Fr.alloc (w : World) (o : Obj) : Fr No w (w.alloc o) := .of_grown0 (World.grownBy_alloc w o none)
theorem Fr.drew (w : World) : Fr No w w.drew := ⟨rfl, rfl, rfl, Nat.le_refl _, fun _ _ _ => rfl⟩
theorem lt_of_cell {w : World} {a : Addr} {v : Value} (h : w.cell? a = some v) : a.block < w.heap.size := World.block_lt_of_cell? w a h
theorem add_block (a : Addr) (n : Nat) : (a.add n).block = a.block := by unfold Addr.add; split <;> rfl
theorem add_add (a : Addr) (i j : Nat) : (a.add i).add j = a.add (i + j) := by
  unfold Addr.add
  by_cases hi : i = 0 <;> by_cases hj : j = 0 <;> simp [hi, hj, Nat.add_assoc]
theorem cell_fr {S : Nat → Prop} {w w' : World} {p : Addr} {v : Value} (h : w.cell? p = some v) (f : Fr S w w') (hn : ¬ S p.block) : w'.cell? p = some v :=
  (f.cell (lt_of_cell h) hn).trans h
/-- Block g is just these cells, of element type t; none of them is frozen. -/
def Blk (w : World) (g : Nat) (t : TypeId) (cs : List Value) : Prop :=
  ∃ f : Nat × Nat, w.heap[g]? = some (.cells cs.toArray t f) ∧ (∀ i, i < cs.length → (decide (f.1 ≤ i) && decide (i < f.2)) = false) ∧ f.1 ≤ f.2
section
variable {w w' : World} {g : Nat} {t : TypeId} {cs : List Value} {S : Nat → Prop}
theorem lt_of_heap {w : World} {g : Nat} {o : Obj} (h : w.heap[g]? = some o) : g < w.heap.size := by
  rcases Nat.lt_or_ge g w.heap.size with hlt | hge
  · exact hlt
  · rw [Array.getElem?_eq_none hge] at h; cases h
theorem Blk.lt (h : Blk w g t cs) : g < w.heap.size := by obtain ⟨f, h, _⟩ := h; exact lt_of_heap h
theorem addr_add (g o i : Nat) : (⟨g, o, none⟩ : Addr).add i = ⟨g, o + i, none⟩ := by unfold Addr.add; split <;> simp_all
theorem Blk.cell (h : Blk w g t cs) {i : Nat} {v : Value} (hv : cs[i]? = some v) : w.cell? ⟨g, i, none⟩ = some v := by
  obtain ⟨f, h, _⟩ := h
  simp [World.cell?, h, hv]
theorem Blk.cell_add (h : Blk w g t cs) {o i : Nat} {v : Value} (hv : cs[o + i]? = some v) : w.cell? ((⟨g, o, none⟩ : Addr).add i) = some v := by
  rw [addr_add]; exact h.cell hv
theorem Blk.frozen (h : Blk w g t cs) {i : Nat} (hi : i < cs.length) : w.frozen? ⟨g, i, none⟩ = false := by
  obtain ⟨f, h, hf⟩ := h
  simpa [World.frozen?, h] using hf.1 i hi
theorem Blk.fr (h : Blk w g t cs) (f : Fr S w w') (hn : ¬ S g) : Blk w' g t cs := by
  have hl := h.lt
  obtain ⟨x, h, hf⟩ := h
  exact ⟨x, (f.block g hl hn).trans h, hf⟩
theorem Blk.fr0 (h : Blk w g t cs) (f : Fr No w w') : Blk w' g t cs := h.fr f (fun e => e)
theorem Blk.new (w : World) (t : TypeId) (cs : List Value) : Blk (w.alloc (.cells cs.toArray t)) w.heap.size t cs := ⟨(0, 0), heap_alloc_new w _, fun i _ => by simp, Nat.le_refl _⟩
theorem Blk.set (h : Blk w g t cs) (i : Nat) (u : Value) : Blk (w.setCell ⟨g, i, none⟩ u) g t (cs.set i u) := by
  obtain ⟨f, h, hf⟩ := h
  refine ⟨f, ?_, fun j hj => hf.1 j (by simpa using hj), hf.2⟩
  simp [World.setCell, Array.getElem?_modify, h]
theorem Fr.setCell (w : World) (p : Addr) (u : Value) : Fr (fun k => k = p.block) w (w.setCell p u) :=
  ⟨rfl, rfl, rfl, by simp [World.setCell], fun k _ hn => by simp [World.setCell, Array.getElem?_modify]; intro e; exact absurd e.symm hn⟩
theorem size_setCell (w : World) (p : Addr) (u : Value) : (w.setCell p u).heap.size = w.heap.size := by simp [World.setCell]
end
/-- stores one behind the other -/
def splice (cs : List Value) (o : Nat) (vs : List Value) : List Value := cs.take o ++ vs ++ cs.drop (o + vs.length)
theorem splice_length {cs vs : List Value} {o : Nat} (h : o + vs.length ≤ cs.length) : (splice cs o vs).length = cs.length := by
  simp [splice]; omega
theorem splice_cons {cs rest : List Value} {o : Nat} {v : Value} (h : o < cs.length) : splice (cs.set o v) (o + 1) rest = splice cs o (v :: rest) := by
  unfold splice
  have h1 : (cs.set o v).take (o + 1) = cs.take o ++ [v] := by
    rw [List.set_eq_take_append_cons_drop, if_pos h, List.take_append]
    simp [List.length_take, Nat.min_eq_left (Nat.le_of_lt h), List.take_take]
  rw [h1, List.drop_set_of_lt (by omega)]
  simp [Nat.add_assoc, Nat.add_comm 1]
theorem splice_nil {cs : List Value} {o : Nat} : splice cs o [] = cs := by simp [splice]
section
variable {P : Program} {w : World} {g : Nat} {t : TypeId} {cs : List Value}
theorem run_store1 {i : Nat} {u : Value} (h : Blk w g t cs) (hi : i < cs.length) (h1 : u.oneCell' = true) : (store ⟨g, i, none⟩ u).run P w = .ok () (w.setCell ⟨g, i, none⟩ u) := by
  have hc : w.cell? ⟨g, i, none⟩ = some cs[i] := h.cell (List.getElem?_eq_getElem hi)
  have hf := h.frozen hi
  cases u <;> simp [store, Sem.run, hc, hf, Value.oneCell'] at h1 ⊢
theorem run_stores : ∀ (vs : List Value) (o i : Nat) (cs : List Value) (w : World), Blk w g t cs → o + i + vs.length ≤ cs.length → (∀ v ∈ vs, v.oneCell' = true) →
    ∃ w', (storeCells ⟨g, o, none⟩ vs i).run P w = .ok () w' ∧ Blk w' g t (splice cs (o + i) vs) ∧ Fr (fun k => k = g) w w' ∧ w'.heap.size = w.heap.size
  | [], o, i, cs, w, h, _, _ => ⟨w, rfl, by rw [splice_nil]; exact h, .refl _ _, rfl⟩
  | v :: rest, o, i, cs, w, h, hl, h1 => by
    have hi : o + i < cs.length := by simp at hl; omega
    obtain ⟨w', hr, hb, hf, hs⟩ := run_stores rest o (i + 1) (cs.set (o + i) v) (w.setCell ⟨g, o + i, none⟩ v) (h.set _ _) (by simp at hl ⊢; omega) (fun u hu => h1 u (by simp [hu]))
    refine ⟨w', ?_, ?_, ?_, ?_⟩
    · simp only [storeCells, addr_add]
      simp [run_store1 (P := P) h hi (h1 v (by simp)), hr]
    · rw [← splice_cons hi]; exact hb
    · exact (Fr.setCell w ⟨g, o + i, none⟩ v).trans hf (fun _ e => e) (fun _ _ e => e)
    · rw [hs, size_setCell]
end
/-- A slice's address, where there is one. -/
def d0 : Addr := ⟨0, 0, none⟩
/-- A slice value '.slice A n c' of elements of sz cells reads as xs. -/
def Rd (w : World) (sz : Nat) (A : Option Addr) (n : Nat) (xs : List Value) : Prop :=
  xs.length = n * sz ∧ (0 < n → A ≠ none) ∧ ∀ j u, xs[j]? = some u → w.cell? ((A.getD d0).add j) = some u
/-- The block of a slice is none of S. -/
def Off (S : Nat → Prop) (A : Option Addr) : Prop := ∀ a, A = some a → ¬ S a.block
section
variable {w w' : World} {sz : Nat} {A : Option Addr} {n : Nat} {xs : List Value} {S : Nat → Prop}
theorem Rd.cell (h : Rd w sz A n xs) {j : Nat} {u : Value} (hj : xs[j]? = some u) : w.cell? ((A.getD d0).add j) = some u := h.2.2 j u hj
theorem Rd.some (h : Rd w sz A n xs) (hn : 0 < n) : A = some (A.getD d0) := by
  cases A with
  | none => exact absurd rfl (h.2.1 hn)
  | some a => rfl
theorem Rd.fr (h : Rd w sz A n xs) (f : Fr S w w') (ho : Off S A) : Rd w' sz A n xs := by
  refine ⟨h.1, h.2.1, fun j u hu => cell_fr (h.2.2 j u hu) f ?_⟩
  have hl := (List.getElem?_eq_some_iff.1 hu).1
  have hn : 0 < n := by
    rcases Nat.eq_zero_or_pos n with e | e
    · rw [h.1, e] at hl; omega
    · exact e
  rw [add_block]
  exact ho _ (h.some hn)
theorem Rd.fr0 (h : Rd w sz A n xs) (f : Fr No w w') : Rd w' sz A n xs := h.fr f (fun _ _ e => e)
theorem Rd.nil (w : World) (sz : Nat) (A : Option Addr) : Rd w sz A 0 [] := ⟨by simp, fun h => absurd h (by omega), fun j u h => by simp at h⟩
theorem Rd.take (h : Rd w sz A n xs) {k : Nat} (hk : k ≤ n) : Rd w sz A k (xs.take (k * sz)) := by
  refine ⟨by rw [List.length_take, h.1]; exact Nat.min_eq_left (Nat.mul_le_mul_right _ hk), fun h0 => h.2.1 (by omega), fun j u hu => ?_⟩
  rw [List.getElem?_take] at hu
  split at hu
  · exact h.2.2 j u hu
  · cases hu
theorem Rd.cut (h : Rd w sz A n xs) {k cap : Nat} (hk : k ≤ n) (hc : n ≤ cap) :
    Rd w sz (if cap = k then A else A.map (·.add (k * sz))) (n - k) (xs.drop (k * sz)) := by
  refine ⟨by rw [List.length_drop, h.1, Nat.sub_mul], fun hn => ?_, fun j u hu => ?_⟩
  · rw [if_neg (by omega)]
    have := h.2.1 (by omega)
    cases A with
    | none => exact absurd rfl this
    | some a => simp
  · have hl := (List.getElem?_eq_some_iff.1 hu).1
    rw [List.length_drop, h.1] at hl
    have hn : k < n := by
      rcases Nat.lt_or_ge k n with e | e
      · exact e
      · have := Nat.mul_le_mul_right sz e; omega
    rw [if_neg (by omega)]
    obtain ⟨a, rfl⟩ : ∃ a, A = Option.some a := ⟨_, h.some (by omega)⟩
    rw [List.getElem?_drop] at hu
    have := h.2.2 _ u hu
    simpa [add_add] using this
end
/-- A slice value that the call owns: nil, or cells of a block from base on. -/
def Own (w : World) (base : Nat) (e : TypeId) (sz : Nat) (v : Value) (n : Nat) (xs : List Value) : Prop :=
  xs.length = n * sz ∧ ((v = .slice none 0 0 ∧ n = 0) ∨
    ∃ g o cap cur, v = .slice (some ⟨g, o, none⟩) n cap ∧ base ≤ g ∧ Blk w g e cur ∧ n ≤ cap ∧ cap ≤ maxLen ∧ o + cap * sz ≤ cur.length ∧ (cur.drop o).take (n * sz) = xs)
def vblk : Value → Nat → Prop
  | .slice (some a) _ _, k => k = a.block
  | _, _ => False
section
variable {w w' : World} {base : Nat} {e : TypeId} {sz n : Nat} {v : Value} {xs : List Value} {S : Nat → Prop}
theorem Own.nil (w : World) (base : Nat) (e : TypeId) (sz : Nat) : Own w base e sz (.slice none 0 0) 0 [] := ⟨by simp, .inl ⟨rfl, rfl⟩⟩
theorem Own.slice (h : Own w base e sz v n xs) : ∃ A c, v = .slice A n c ∧ n ≤ c := by
  rcases h.2 with ⟨rfl, rfl⟩ | ⟨g, o, cap, cur, rfl, _, _, h, _⟩
  · exact ⟨_, _, rfl, Nat.le_refl _⟩
  · exact ⟨_, _, rfl, h⟩
theorem Own.from (h : Own w base e sz v n xs) {k : Nat} (hk : vblk v k) : base ≤ k ∧ k < w.heap.size := by
  rcases h.2 with ⟨rfl, rfl⟩ | ⟨g, o, cap, cur, rfl, hb, hg, _⟩
  · exact hk.elim
  · have : k = g := hk
    exact this ▸ ⟨hb, hg.lt⟩
theorem Own.fr (h : Own w base e sz v n xs) (f : Fr S w w') (ho : ∀ k, vblk v k → ¬ S k) : Own w' base e sz v n xs := by
  rcases h with ⟨hl, h | ⟨g, o, cap, cur, rfl, hb, hg, h⟩⟩
  · exact ⟨hl, .inl h⟩
  · exact ⟨hl, .inr ⟨g, o, cap, cur, rfl, hb, hg.fr f (ho g rfl), h⟩⟩
theorem Own.fr0 (h : Own w base e sz v n xs) (f : Fr No w w') : Own w' base e sz v n xs := h.fr f (fun _ _ e => e)
theorem Own.wide (h : Own w base e sz v n xs) {b : Nat} (hb : b ≤ base) : Own w b e sz v n xs := by
  rcases h with ⟨hl, h | ⟨g, o, cap, cur, rfl, hbb, h⟩⟩
  · exact ⟨hl, .inl h⟩
  · exact ⟨hl, .inr ⟨g, o, cap, cur, rfl, Nat.le_trans hb hbb, h⟩⟩
theorem Own.rd {A : Option Addr} {m c : Nat} (h : Own w base e sz (.slice A m c) n xs) : m = n ∧ n ≤ c ∧ Rd w sz A n xs := by
  rcases h with ⟨hl, ⟨h1, rfl⟩ | ⟨g, o, cap, cur, h1, hb, hg, hn, hm, hc, hx⟩⟩
  · injection h1 with h1 h2 h3
    subst h1; subst h2; subst h3
    obtain rfl : xs = [] := List.eq_nil_of_length_eq_zero (by simpa using hl)
    exact ⟨rfl, Nat.le_refl _, Rd.nil w sz none⟩
  · injection h1 with h1 h2 h3
    subst h1; subst h2; subst h3
    refine ⟨rfl, hn, hl, fun _ e => by simp at e, fun j u hu => ?_⟩
    rw [← hx, List.getElem?_take] at hu
    split at hu
    · rw [List.getElem?_drop] at hu
      exact hg.cell_add hu
    · cases hu
theorem Own.made {g : Nat} {cs : List Value} {n cap : Nat} (h : Blk w g e cs) (hb : base ≤ g) (hn : n ≤ cap) (hm : cap ≤ maxLen) (hc : cs.length = cap * sz) :
    Own w base e sz (.slice (some ⟨g, 0, none⟩) n cap) n (cs.take (n * sz)) := by
  refine ⟨?_, .inr ⟨g, 0, cap, cs, rfl, hb, h, hn, hm, by omega, by simp⟩⟩
  rw [List.length_take, hc]
  exact Nat.min_eq_left (Nat.mul_le_mul_right _ hn)
end
/-- What the type table says of an element type: its zero, its cells, its bytes. -/
def TI (P : Program) (e : TypeId) (z : Value) (sz bytes : Nat) : Prop := (P.info? e).map (fun i => (i.zero, i.size, i.bytes)) = some (some z, sz, bytes)
theorem TI.get {P : Program} {e : TypeId} {z : Value} {sz bytes : Nat} (h : TI P e z sz bytes) : ∃ i, P.info? e = some i ∧ i.zero = some z ∧ i.size = sz ∧ i.bytes = bytes := by
  unfold TI at h
  cases hi : P.info? e with
  | none => rw [hi] at h; cases h
  | some i =>
    rw [hi] at h
    simp only [Option.map_some, Option.some.injEq, Prod.mk.injEq] at h
    exact ⟨i, rfl, h.1, h.2.1, h.2.2⟩
/-- the cells that 'append(.., x)' takes of x -/
def Src (P : Program) (w : World) (sz m : Nat) (x : Value) (news : List Value) : Prop :=
  news.length = m * sz ∧ ∀ w', Fr No w w' → (Builtin.lenOf x).run P w' = .ok m w' ∧ (Builtin.firstCells sz m x).run P w' = .ok news.toArray w'
theorem Src.of_rd {P : Program} {w : World} {sz m c : Nat} {A : Option Addr} {news : List Value} (h : Rd w sz A m news) : Src P w sz m (.slice A m c) news := by
  refine ⟨h.1, fun w' f => ⟨by simp [Builtin.lenOf], ?_⟩⟩
  have h' := h.fr0 f
  cases A with
  | none =>
    have : m = 0 := by
      rcases Nat.eq_zero_or_pos m with e | e
      · exact e
      · exact absurd rfl (h.2.1 e)
    subst this
    obtain rfl : news = [] := List.eq_nil_of_length_eq_zero (by simpa using h.1)
    simp [Builtin.firstCells]
  | some a =>
    exact run_firstCells_some (P := P) w' sz m a m c news h.1 (fun j v hv => h'.2.2 j v hv)
theorem size_zeroCells' (z : Array Value) (n : Nat) : (Builtin.zeroCells z n).size = n * z.size := by simp [Builtin.zeroCells]
set_option maxHeartbeats 1000000 in
theorem run_append {P : Program} {w : World} {base t u e : Nat} {ty : TypeId} {du : TypeDesc} {sz bytes n m : Nat} {v x z : Value} {xs news : List Value}
    (ht : P.underlying t = some (.slice e)) (hu : P.underlying u = some du) (hnu : du = .slice e ∨ du = .string) (hT : TI P e z sz bytes) (hz : z.cells.size = sz)
    (h : Own w base e sz v n xs) (hx : Src P w sz m x news) (h1 : ∀ u ∈ news, u.oneCell' = true) (hm : n + m ≤ maxLen) (hb : (n + m) * bytes ≤ 140737488355328) (hbase : base ≤ w.heap.size) :
    ∃ v' w', (Builtin.append_ #[t, u] ty #[v, x]).run P w = .ok v' w' ∧ Own w' base e sz v' (n + m) (xs ++ news) ∧ Fr (vblk v) w w' ∧ (∀ k, vblk v' k → vblk v k ∨ w.heap.size ≤ k) := by
  obtain ⟨i, hi, hzero, hsize, hby⟩ := hT.get
  have hlen : (xs ++ news).length = (n + m) * sz := by rw [List.length_append, h.1, hx.1, Nat.add_mul]
  obtain ⟨hl0, hf0⟩ := hx.2 w (.refl _ _)
  -- what a new row gives
  have grow : ∀ (A : Option Addr) (cap : Nat), v = .slice A n cap → cap < n + m → (Builtin.firstCells sz n v).run P w.drew = .ok xs.toArray w.drew →
      ∃ v' w', (Builtin.append_ #[t, u] ty #[v, x]).run P w = .ok v' w' ∧ Own w' base e sz v' (n + m) (xs ++ news) ∧ Fr (vblk v) w w' ∧ (∀ k, vblk v' k → vblk v k ∨ w.heap.size ≤ k) := by
    intro A cap hv hcap hold
    subst hv
    obtain ⟨hl1, hf1⟩ := hx.2 w.drew (Fr.drew w)
    have hge := grownCap_ge w (n + m) cap e
    have hcm : grownCap w (n + m) cap e ≤ maxLen := grownCap_le_maxLen w (n + m) cap e hm
    have hfit := growslice_fits (bytes := bytes) hcap hb
    have e1 : ¬ (n + m ≤ cap) := by omega
    have e2 : ¬ (9223372036854775807 < ((n + m : Nat) : Int)) := by simp only [maxLen] at hm; omega
    have e2' : ¬ (9223372036854775807 < ((n : Int) + (m : Int))) := by omega
    have e3 : ¬ (281474976710656 < Builtin.nextslicecap (n + m) cap * bytes) := by omega
    refine ⟨.slice (some ⟨w.heap.size, 0, none⟩) (n + m) (grownCap w (n + m) cap e),
      w.drew.alloc (.cells (xs.toArray ++ news.toArray ++ Builtin.zeroCells z.cells (grownCap w (n + m) cap e - (n + m))) e), ?_, ?_, ?_, ?_⟩
    · rcases hnu with rfl | rfl <;> (simp [Builtin.append_, run_underlying ht, run_underlying hu, sizeOf, typeInfo, zeroValue, hi, hzero, hsize, hby, hl0, e1, e2', e3, Question.forced, hold, hf1, newRow, grownCap]; congr 2; apply Array.ext'; simp)
    · refine ⟨hlen, .inr ⟨w.heap.size, 0, _, (xs ++ news) ++ (Builtin.zeroCells z.cells (grownCap w (n + m) cap e - (n + m))).toList, rfl, hbase, ?_, hge, hcm, ?_, ?_⟩⟩
      · have := Blk.new w.drew e ((xs ++ news) ++ (Builtin.zeroCells z.cells (grownCap w (n + m) cap e - (n + m))).toList)
        have e4 : ((xs ++ news) ++ (Builtin.zeroCells z.cells (grownCap w (n + m) cap e - (n + m))).toList).toArray = xs.toArray ++ news.toArray ++ Builtin.zeroCells z.cells (grownCap w (n + m) cap e - (n + m)) := by
          apply Array.ext'
          simp
        rw [e4] at this
        exact this
      · rw [List.length_append, hlen, Array.length_toList, size_zeroCells', hz, ← Nat.add_mul]
        have : n + m + (grownCap w (n + m) cap e - (n + m)) = grownCap w (n + m) cap e := by omega
        rw [this]; omega
      · rw [List.drop_zero, ← hlen]
        exact List.take_left
    · exact ((Fr.drew w).trans0 (Fr.alloc w.drew _)).mono (fun _ _ e => e.elim)
    · intro k hk
      exact .inr (Nat.le_of_eq (Eq.symm hk))
  rcases h.2 with ⟨rfl, rfl⟩ | ⟨g, o, cap, cur, rfl, hbg, hg, hnc, hcm, hcs, htake⟩
  · obtain rfl : xs = [] := List.eq_nil_of_length_eq_zero (by simpa using h.1)
    by_cases hm0 : m = 0
    · subst hm0
      obtain rfl : news = [] := List.eq_nil_of_length_eq_zero (by simpa using hx.1)
      refine ⟨.slice none 0 0, w, ?_, Own.nil w base e sz, .refl _ _, fun k hk => hk.elim⟩
      rcases hnu with rfl | rfl <;> (simp [Builtin.append_, run_underlying ht, run_underlying hu, sizeOf, typeInfo, hi, hsize, hl0, hf0])
    · exact grow none 0 rfl (by omega) (by simp [Builtin.firstCells])
  · have hrd : Rd w sz (some ⟨g, o, none⟩) n xs := (Own.rd h).2.2
    by_cases hroom : n + m ≤ cap
    · have hfit : o + n * sz + news.length ≤ cur.length := by
        have := Nat.mul_le_mul_right sz hroom
        rw [Nat.add_mul] at this
        have := hx.1
        omega
      obtain ⟨w', hr, hb', hfr, hsz'⟩ := run_stores (P := P) news (o + n * sz) 0 cur w hg (by omega) h1
      refine ⟨.slice (some ⟨g, o, none⟩) (n + m) cap, w', ?_, ⟨hlen, .inr ⟨g, o, cap, _, rfl, hbg, hb', hroom, hcm, ?_, ?_⟩⟩, hfr, fun k hk => .inl hk⟩
      · rcases hnu with rfl | rfl <;> (simp [Builtin.append_, run_underlying ht, run_underlying hu, sizeOf, typeInfo, hi, hsize, hl0, hroom, hf0, addr_add, hr])
      · rw [splice_length (by omega)]; exact hcs
      · have hcl : (cur.take (o + n * sz)).length = o + n * sz := by simp; omega
        have e5 : splice cur (o + n * sz + 0) news = cur.take (o + n * sz) ++ (news ++ cur.drop (o + n * sz + news.length)) := by simp [splice]
        rw [e5, List.drop_append_of_le_length (by omega)]
        have e6 : (cur.take (o + n * sz)).drop o = xs := by
          rw [List.drop_take, ← htake]
          congr 1
          omega
        rw [e6, ← List.append_assoc, ← hlen]
        exact List.take_left
    · refine grow (some ⟨g, o, none⟩) cap rfl (by omega) ?_
      have := run_firstCells_some (P := P) w.drew sz n ⟨g, o, none⟩ n cap xs h.1 (fun j v hv => hrd.2.2 j v hv)
      exact this
end Go.Eng
end
section
/- The engine, second part: operations that read memory, that make memory, that write it, and calls. No statement is proved here. -/
set_option linter.unusedVariables false
set_option linter.unusedSimpArgs false
namespace Go.Eng
open Go.RowKit
def aggB (P : Program) (t : TypeId) : Option Bool :=
  match P.underlying t with
  | some (.struct _) | some (.array _ _) => some true
  | some _ => some false
  | none => none
def szB (P : Program) (t : TypeId) : Option Nat := (P.info? t).map (·.size)
/-- where a field begins, and how many cells it has -/
def faB (P : Program) (s : TypeId) (i : Nat) : Option (Nat × Nat × TypeId) :=
  match P.underlying s with
  | some (.struct fs) => match fs[i]? with
    | some f => (szB P f.type).map fun n => (f.offset, n, f.type)
    | none => none
  | _ => none
section
variable {P : Program} {w : World} {t : TypeId}
theorem run_isAgg {b : Bool} (h : aggB P t = some b) : (isAgg t).run P w = .ok b w := by
  unfold aggB at h
  unfold isAgg
  cases hu : P.underlying t with
  | none => rw [hu] at h; cases h
  | some d =>
    rw [hu] at h
    cases d <;> simp at h <;> subst h <;> simp [run_underlying hu]
theorem run_sizeOf {n : Nat} (h : szB P t = some n) : (sizeOf t).run P w = .ok n w := by
  unfold szB at h
  cases hi : P.info? t with
  | none => rw [hi] at h; cases h
  | some i =>
    rw [hi] at h
    simp at h
    simp [sizeOf, typeInfo, hi, h]
end
section
variable {P : Program} {N : Nat} {D : List Deferred} {ρ : Env} {w : World} {ty t t' e : TypeId} {x y z : Operand} {v : Value} {k : IntKind} {m n r i : Int}
theorem yT {op : Op} {b : Bool} (h : Yl P N D ρ w op ty (.bool b)) (hb : b = true) : Yl P N D ρ w op ty (.bool true) := hb ▸ h
theorem yF {op : Op} {b : Bool} (h : Yl P N D ρ w op ty (.bool b)) (hb : b = false) : Yl P N D ρ w op ty (.bool false) := hb ▸ h
theorem yV {op : Op} {v' : Value} (h : Yl P N D ρ w op ty v) (hb : v = v') : Yl P N D ρ w op ty v' := hb ▸ h
theorem y_idxS {A : Option Addr} {n c sz j : Nat} (hx : ev ρ x = some (.slice A n c)) (hy : ev ρ y = some (.int k i)) (ht : P.underlying t = some (.slice e)) (hs : szB P e = some sz) (hA : 0 < n → A ≠ none) (hj : ((j : Nat) : Int) = i) (h1 : j < n) :
    Yl P N D ρ w (.indexAddr t x y) ty (.pointer (some ((A.getD d0).add (j * sz)))) := fun a _ _ _ _ ha => by
  subst hj
  have hn : 0 < n := by omega
  have h0 : (0 : Int) ≤ (j : Int) := by omega
  have h1' : (j : Int) < (n : Int) := by omega
  cases A with
  | none => exact absurd rfl (hA hn)
  | some ad => simp [execOp, ha.eval hx, ha.eval hy, Instr.indexAt, asIntOf, run_underlying ht, h0, h1, run_sizeOf hs]
theorem y_idxA {ad : Addr} {n sz j : Nat} (hx : ev ρ x = some (.pointer (some ad))) (hy : ev ρ y = some (.int k i)) (ht : P.underlying t = some (.array n e)) (hs : szB P e = some sz) (hj : ((j : Nat) : Int) = i) (h1 : j < n) :
    Yl P N D ρ w (.indexAddr t x y) ty (.pointer (some (ad.add (j * sz)))) := fun a _ _ _ _ ha => by
  subst hj
  have h0 : (0 : Int) ≤ (j : Int) := by omega
  simp [execOp, ha.eval hx, ha.eval hy, Instr.indexAt, Instr.sureAddr, asIntOf, run_underlying ht, h0, h1, run_sizeOf hs]
theorem y_idxS1 {A : Option Addr} {n c j : Nat} (hx : ev ρ x = some (.slice A n c)) (hy : ev ρ y = some (.int k i)) (ht : P.underlying t = some (.slice e)) (hs : szB P e = some 1) (hA : 0 < n → A ≠ none) (hj : ((j : Nat) : Int) = i) (h1 : j < n) :
    Yl P N D ρ w (.indexAddr t x y) ty (.pointer (some ((A.getD d0).add j))) := by
  have := y_idxS (N := N) (D := D) (w := w) (ty := ty) hx hy ht hs hA hj h1
  rwa [Nat.mul_one] at this
theorem y_idxA1 {ad : Addr} {n j : Nat} (hx : ev ρ x = some (.pointer (some ad))) (hy : ev ρ y = some (.int k i)) (ht : P.underlying t = some (.array n e)) (hs : szB P e = some 1) (hj : ((j : Nat) : Int) = i) (h1 : j < n) :
    Yl P N D ρ w (.indexAddr t x y) ty (.pointer (some (ad.add j))) := by
  have := y_idxA (N := N) (D := D) (w := w) (ty := ty) hx hy ht hs hj h1
  rwa [Nat.mul_one] at this
theorem y_fld {ad : Addr} {i o sz : Nat} {ft : TypeId} (hx : ev ρ x = some (.pointer (some ad))) (hf : faB P t i = some (o, sz, ft)) (hs : sz ≠ 0) : Yl P N D ρ w (.fieldAddr t x i) ty (.pointer (some (ad.add o))) := fun a _ _ _ _ ha => by
  unfold faB at hf
  cases hu : P.underlying t with
  | none => rw [hu] at hf; cases hf
  | some d =>
    rw [hu] at hf
    cases d <;> try (cases hf; done)
    rename_i fs
    cases hfi : fs[i]? with
    | none => simp [hfi] at hf
    | some f =>
      cases hz : szB P f.type with
      | none => simp [hfi, hz] at hf
      | some n =>
        simp [hfi, hz] at hf
        obtain ⟨rfl, rfl, rfl⟩ := hf
        simp [execOp, ha.eval hx, Instr.fieldAt, run_underlying hu, hfi, Instr.sureAddr, fieldPlace, run_sizeOf hz, hs]
theorem y_ld1 {p : Addr} (hx : ev ρ x = some (.pointer (some p))) (ha : aggB P t = some false) (hc : w.cell? p = some v) : Yl P N D ρ w (.load t x) ty v := fun a _ _ _ _ hA => by
  simp [execOp, hA.eval hx, Instr.loadAt, Instr.sureAddr, loadVar, run_isAgg ha, hc]
theorem y_ldN {p : Addr} {sz : Nat} {cs : List Value} (hx : ev ρ x = some (.pointer (some p))) (ha : aggB P t = some true) (hs : szB P t = some sz) (hl : cs.length = sz) (hc : ∀ j u, cs[j]? = some u → w.cell? (p.add j) = some u) :
    Yl P N D ρ w (.load t x) ty (.agg cs.toArray) := fun a _ _ _ _ hA => by
  have := run_loadCells_list (P := P) w p cs hc
  rw [hl] at this
  simp [execOp, hA.eval hx, Instr.loadAt, Instr.sureAddr, loadVar, run_isAgg ha, run_sizeOf hs, this]
theorem y_idxV {cs : List Value} {n j : Nat} (hx : ev ρ x = some (.agg cs.toArray)) (hy : ev ρ y = some (.int k i)) (ht : P.underlying t = some (.array n e)) (hs : szB P e = some 1) (ha : aggB P e = some false) (hj : ((j : Nat) : Int) = i) (h1 : j < n) (hv : cs[j]? = some v) :
    Yl P N D ρ w (.index t x y) ty v := fun a _ _ _ _ hA => by
  subst hj
  have h0 : (0 : Int) ≤ (j : Int) := by omega
  simp [execOp, hA.eval hx, hA.eval hy, Instr.index, asIntOf, run_underlying ht, h0, h1, part, run_isAgg ha, run_sizeOf hs, hv]
theorem y_idxStr {s : ByteArray} {b : UInt8} {j : Nat} (hx : ev ρ x = some (.string s)) (hy : ev ρ y = some (.int k i)) (ht : P.underlying t = some .string) (hj : ((j : Nat) : Int) = i) (hv : s.data[j]? = some b) :
    Yl P N D ρ w (.index t x y) ty (.int .u8 (b.toNat : Int)) := fun a _ _ _ _ hA => by
  subst hj
  have h0 : (0 : Int) ≤ (j : Int) := by omega
  have h2 : s[j]? = some b := by
    have hl := (Array.getElem?_eq_some_iff.1 hv).1
    have : j < s.size := hl
    rw [getElem?_pos s j this]
    have h3 := (Array.getElem?_eq_some_iff.1 hv).2
    exact congrArg some h3
  simp [execOp, hA.eval hx, hA.eval hy, Instr.index, asIntOf, run_underlying ht, h0, h2]
theorem y_lenStr {s : ByteArray} (hx : ev ρ x = some (.string s)) (ht : P.underlying t = some .string) : Yl P N D ρ w (.call ⟨.builtin .len, #[x], #[t]⟩) ty (.int .i64 s.size) :=
  fun a _ _ _ _ ha => by simp [execOp, resolve, invoke, builtin, Builtin.len_, ha.eval hx, run_underlying ht, goInt]
theorem y_min {cs : Array TypeId} (hx : ev ρ x = some (.int k m)) (hy : ev ρ y = some (.int k n)) : Yl P N D ρ w (.call ⟨.builtin .min, #[x, y], cs⟩) ty (.int k (min m n)) :=
  fun a _ _ _ _ ha => by
    have : (if n < m then n else m) = min m n := by omega
    simp [execOp, resolve, invoke, builtin, Builtin.min_, Builtin.min2, ha.eval hx, ha.eval hy, this]
theorem wb8 (x : UInt8) : IntKind.i64.wrap (x.toNat : Int) = (x.toNat : Int) := by have := x.toNat_lt; exact w64 (by omega) (by omega)
theorem toList_inj {a b : ByteArray} : (a.toList == b.toList) = decide (a = b) := by
  by_cases h : a = b
  · simp [h]
  · have : a.toList ≠ b.toList := fun e => h (by
      have := congrArg List.toArray e
      rw [ByteArray.toList_eq, ByteArray.toList_eq] at this
      cases a; cases b; simpa using this)
    simp [h, this]
theorem y_seq {a b : ByteArray} (hx : ev ρ x = some (.string a)) (hy : ev ρ y = some (.string b)) : Yl P N D ρ w (.binOp .eql t x y t') ty (.bool (decide (a = b))) :=
  fun _ _ _ _ _ ha => by simp [execOp, ha.eval hx, ha.eval hy, eqGuard, binOp, Op.stringOp, toList_inj]
theorem y_sne {a b : ByteArray} (hx : ev ρ x = some (.string a)) (hy : ev ρ y = some (.string b)) : Yl P N D ρ w (.binOp .neq t x y t') ty (.bool (decide (a ≠ b))) :=
  fun _ _ _ _ _ ha => by simp [execOp, ha.eval hx, ha.eval hy, eqGuard, binOp, Op.stringOp, toList_inj]
theorem y_bne {a b : Bool} (ht : P.underlying t = some .bool) (hx : ev ρ x = some (.bool a)) (hy : ev ρ y = some (.bool b)) : Yl P N D ρ w (.binOp .neq t x y t') ty (.bool (!(a == b))) :=
  fun _ _ _ _ _ ha => by simp only [execOp, ha.eval hx, ha.eval hy]; simp [eqGuard, run_neq_bool w t a b ht]
/-- '==' of arrays and structs of bools, integers, strings -/
theorem run_eqlK {m : Nat} {xs ys : List Value} {D1 D2 : Nat} {la lb : List Lit} {p : Prop} [Decidable p] (hm : m ≤ 10000) (hk : P.keyTypeAt m t = true) (ha : aggB P t = some true) (hlx : xs.length = P.cellsOf t) (hly : ys.length = P.cellsOf t)
    (hx : P.keyLits D1 t xs = some la) (hy : P.keyLits D2 t ys = some lb) (hp : la = lb ↔ p) : (Op.equal t (.agg xs.toArray) (.agg ys.toArray)).run P w = .ok (decide p) w := by
  have hf : ∀ zs : List Value, zs.length = P.cellsOf t → (Value.agg zs.toArray).formed P t = true := fun zs hz => by
    unfold aggB at ha
    cases hu : P.underlying t with
    | none => rw [hu] at ha; cases ha
    | some d => rw [hu] at ha; cases d <;> simp at ha <;> simp [Value.formed, hu, hz]
  obtain ⟨r, hr, hiff⟩ := run_equalIn_deep (P := P) (10000 - m) m t hk w D1 D2 (.agg xs.toArray) (.agg ys.toArray) la lb (hf xs hlx) (hf ys hly) hx hy
  have e1 : 10000 - m + m = 10000 := by omega
  rw [e1] at hr
  have e2 : r = decide p := by
    by_cases h : p
    · simp [h, hiff.2 (hp.2 h)]
    · cases r
      · simp [h]
      · exact absurd (hp.1 (hiff.1 rfl)) h
  rw [← e2]
  exact hr
theorem y_eqK {m : Nat} {xs ys : List Value} {D1 D2 : Nat} {la lb : List Lit} {p : Prop} [Decidable p] (hx : ev ρ x = some (.agg xs.toArray)) (hy : ev ρ y = some (.agg ys.toArray)) (hm : m ≤ 10000) (hk : P.keyTypeAt m t = true) (hg : P.eqGuardType P.depth t = false)
    (ha : aggB P t = some true) (hlx : xs.length = P.cellsOf t) (hly : ys.length = P.cellsOf t) (hla : P.keyLits D1 t xs = some la) (hlb : P.keyLits D2 t ys = some lb) (hp : la = lb ↔ p) : Yl P N D ρ w (.binOp .eql t x y t') ty (.bool (decide p)) :=
  fun _ _ _ _ _ hA => by
    have e : binOp .eql t (.agg xs.toArray) (.agg ys.toArray) = (do pure (.bool (← Op.equal t (.agg xs.toArray) (.agg ys.toArray)))) := rfl
    simp only [execOp, hA.eval hx, hA.eval hy, e]
    simp [eqGuard, hg, run_eqlK (w := w) hm hk ha hlx hly hla hlb hp]
theorem y_neK {m : Nat} {xs ys : List Value} {D1 D2 : Nat} {la lb : List Lit} {p : Prop} [Decidable p] (hx : ev ρ x = some (.agg xs.toArray)) (hy : ev ρ y = some (.agg ys.toArray)) (hm : m ≤ 10000) (hk : P.keyTypeAt m t = true) (hg : P.eqGuardType P.depth t = false)
    (ha : aggB P t = some true) (hlx : xs.length = P.cellsOf t) (hly : ys.length = P.cellsOf t) (hla : P.keyLits D1 t xs = some la) (hlb : P.keyLits D2 t ys = some lb) (hp : la = lb ↔ p) : Yl P N D ρ w (.binOp .neq t x y t') ty (.bool (decide (¬ p))) :=
  fun _ _ _ _ _ hA => by
    have e : binOp .neq t (.agg xs.toArray) (.agg ys.toArray) = (do pure (.bool (!(← Op.equal t (.agg xs.toArray) (.agg ys.toArray))))) := rfl
    simp only [execOp, hA.eval hx, hA.eval hy, e]
    simp [eqGuard, hg, run_eqlK (w := w) hm hk ha hlx hly hla hlb hp]
theorem y_mkf {fn : Fn} {f c : List Operand} {fs cs : List Value} (hf : evs ρ f = some fs) (hc : evs ρ c = some cs) : Yl P N D ρ w (.makeFunc fn f.toArray c.toArray) ty (.func fn fs.toArray cs.toArray) :=
  fun a _ _ _ _ ha => by simp [execOp, Instr.makeFunc, ha.evals hf, ha.evals hc]
end
/-! ### Bytes and digests -/
def B8 (x : UInt8) : Value := .int .u8 (x.toNat : Int)
def b8s (l : List UInt8) : List Value := l.map B8
theorem b8s_length (l : List UInt8) : (b8s l).length = l.length := by simp [b8s]
theorem b8s_get {l : List UInt8} {i : Nat} (h : i < l.length) : (b8s l)[i]? = some (B8 (l.getD i 0)) := by
  simp [b8s, List.getElem?_map, List.getElem?_eq_getElem h, List.getD]
theorem b8s_take (l : List UInt8) (k : Nat) : b8s (l.take k) = (b8s l).take k := by simp [b8s]
theorem b8s_drop (l : List UInt8) (k : Nat) : b8s (l.drop k) = (b8s l).drop k := by simp [b8s]
theorem b8s_set (l : List UInt8) (k : Nat) (c : UInt8) : b8s (l.set k c) = (b8s l).set k (B8 c) := by simp [b8s]
theorem b8s_append (l m : List UInt8) : b8s (l ++ m) = b8s l ++ b8s m := by simp [b8s]
theorem b8s_inj {l m : List UInt8} (h : b8s l = b8s m) : l = m := by
  apply List.map_inj_right ?_ |>.1 h
  intro x y hxy
  injection hxy with _ h
  exact UInt8.toNat_inj.1 (by omega)
theorem b8s_one {l : List UInt8} : ∀ u ∈ b8s l, u.oneCell' = true := by
  intro u hu
  simp only [b8s, List.mem_map] at hu
  obtain ⟨x, _, rfl⟩ := hu
  rfl
def bytesOf (s : ByteArray) : List UInt8 := s.data.toList
def strOf (l : List UInt8) : ByteArray := ⟨l.toArray⟩
theorem bytesOf_strOf (l : List UInt8) : bytesOf (strOf l) = l := rfl
theorem strOf_inj {l m : List UInt8} : strOf l = strOf m ↔ l = m := ⟨fun h => by have := congrArg bytesOf h; exact this, fun h => by rw [h]⟩
theorem strOf_size (l : List UInt8) : (strOf l).size = l.length := by simp [strOf, ByteArray.size]
theorem mapM_all {α β : Type} {f : α → Option β} {g : α → β} : ∀ (l : List α), (∀ i ∈ l, f i = some (g i)) → l.mapM f = some (l.map g)
  | [], _ => rfl
  | a :: r, h => by
    rw [List.mapM_cons, h a (by simp), mapM_all r (fun i hi => h i (by simp [hi]))]
    rfl
theorem flat_one {α β : Type} (f : α → β) : ∀ (l : List α), (l.map fun i => [f i]).flatten = l.map f
  | [] => rfl
  | a :: r => by simp [flat_one f r]
theorem map_getD {α β : Type} (f : α → β) (d : α) (l : List α) : ((List.range l.length).map fun i => f (l.getD i d)) = l.map f := by
  apply List.ext_getElem
  · simp
  · intro i h1 h2
    have : i < l.length := by simpa using h2
    simp [List.getD, List.getElem?_eq_getElem this]
/-- the key literals of an array of bytes -/
theorem keyLits_b8 {P : Program} {t e : TypeId} {n D : Nat} {l : List UInt8} (ht : P.underlying t = some (.array n e)) (he : P.underlying e = some (.int .u8)) (hs : P.cellsOf t = n) (hse : P.cellsOf e = 1) (hl : l.length = n) :
    P.keyLits (D + 2) t (b8s l) = some (l.map fun b => Lit.int .u8 (b.toNat : Int)) := by
  unfold Program.keyLits
  simp only [ht]
  rw [if_pos (by rw [b8s_length, hs, hl])]
  have h1 : ∀ i ∈ List.range n, P.keyLits (D + 1) e (((b8s l).drop (i * P.cellsOf e)).take (P.cellsOf e)) = some [Lit.int .u8 ((l.getD i 0).toNat : Int)] := by
    intro i hi
    have hi' : i < l.length := by have := List.mem_range.1 hi; omega
    rw [hse, Nat.mul_one]
    have h2 : ((b8s l).drop i).take 1 = [B8 (l.getD i 0)] := by
      have := b8s_get hi'
      rw [List.take_one, List.head?_drop, this]; rfl
    rw [h2]
    have hlt := (l.getD i 0).toNat_lt
    unfold Program.keyLits
    simp only [he, B8]
    have hwf : (Lit.int .u8 ((l.getD i 0).toNat : Int)).wf = true := WalkArith.wf_u8 (by omega)
    simp
    exact hwf
  rw [mapM_all (List.range n) h1, Option.map_some, Option.some.injEq, flat_one, ← hl]
  exact map_getD (fun b : UInt8 => Lit.int .u8 (b.toNat : Int)) 0 l
theorem lits_b8_inj {l m : List UInt8} : (l.map fun b => Lit.int .u8 (b.toNat : Int)) = (m.map fun b => Lit.int .u8 (b.toNat : Int)) ↔ l = m := by
  refine ⟨fun h => ?_, fun h => by rw [h]⟩
  refine (List.map_inj_right ?_).1 h
  intro x y hxy
  injection hxy with _ h
  exact UInt8.toNat_inj.1 (by omega)
end Go.Eng
end
section
/- The engine, third part: operations that make and write memory, calls, the way in and out of a function. No statement is proved here. -/
set_option linter.unusedVariables false
set_option linter.unusedSimpArgs false
namespace Go.Eng
open Go.RowKit
section
variable {P : Program} {Q : Exit → Act → World → Prop} {N : Nat} {D : List Deferred} {ρ : Env} {w : World} {ty t u e : TypeId} {x y : Operand} {v : Value} {K : Value → World → Prop}
theorem xw_of_run {op : Op} {v' : Value} {w' : World} (h : ∀ a dst pos af g, Ag N D ρ a → (execOp a.eval ⟨dst, op, ty, pos, af, g⟩).run P w = .ok (.value v') w') (k : K v' w') : XW P Q N D ρ w op ty K := by
  intro a dst pos af g ha
  unfold Oper.wp
  rw [h a dst pos af g ha]
  exact ⟨v', rfl, k⟩
theorem xw_of_run0 {op : Op} {w' : World} (h : ∀ a dst pos af g, Ag N D ρ a → (execOp a.eval ⟨dst, op, ty, pos, af, g⟩).run P w = .ok .skip w') (k : K undef w') : XW P Q N D ρ w op ty K := by
  intro a dst pos af g ha
  unfold Oper.wp
  rw [h a dst pos af g ha]
  exact ⟨undef, rfl, k⟩
theorem x_call {f : Nat} {l : List Operand} {vs : List Value} {tys : Array TypeId} {R : Ending → World → Prop} (hv : evs ρ l = some vs) (hf : ∀ args w, (callFunc f args).run P w = .ok (.enter f args) w)
    (hc : Calls P f vs.toArray w R) (hR : ∀ e w', R e w' → ∃ v, e = .returned v ∧ K v w') : XW P Q N D ρ w (.call ⟨.value (.func f), l.toArray, tys⟩) ty K := by
  intro a dst pos af g ha
  unfold Oper.wp
  have : (execOp a.eval ⟨dst, .call ⟨.value (.func f), l.toArray, tys⟩, ty, pos, af, g⟩).run P w = .ok (.enter f vs.toArray) w := by
    simp [execOp, resolve, Deferred.ofValue, Act.eval, invoke, ha.evals hv, hf]
  rw [this]
  refine Calls.mono hc ?_
  intro e w' he
  obtain ⟨v, rfl, hk⟩ := hR e w' he
  exact ⟨v, rfl, hk⟩
theorem x_callv {f : Nat} {l : List Operand} {vs first cap : List Value} {tys : Array TypeId} {R : Ending → World → Prop} (hx : ev ρ x = some (.func (.func f) first.toArray cap.toArray)) (hv : evs ρ l = some vs) (hf : ∀ args w, (callFunc f args).run P w = .ok (.enter f args) w)
    (hc : Calls P f (first ++ vs ++ cap).toArray w R) (hR : ∀ e w', R e w' → ∃ v, e = .returned v ∧ K v w') : XW P Q N D ρ w (.call ⟨.value x, l.toArray, tys⟩) ty K := by
  intro a dst pos af g ha
  unfold Oper.wp
  have : (execOp a.eval ⟨dst, .call ⟨.value x, l.toArray, tys⟩, ty, pos, af, g⟩).run P w = .ok (.enter f (first ++ vs ++ cap).toArray) w := by
    simp [execOp, resolve, Deferred.ofValue, ha.eval hx, invoke, ha.evals hv, hf]
  rw [this]
  refine Calls.mono hc ?_
  intro e w' he
  obtain ⟨v, rfl, hk⟩ := hR e w' he
  exact ⟨v, rfl, hk⟩
theorem x_box (hx : ev ρ x = some v) (k : ∀ g w', w.heap.size ≤ g → Fr No w w' → Blk w' g t v.cells.toList → K (.pointer (some ⟨g, 0, none⟩)) w') : XW P Q N D ρ w (.box t x) ty K :=
  xw_of_run (w' := w.alloc (.cells v.cells t)) (fun a _ _ _ _ ha => by simp [execOp, ha.eval hx, Instr.box, newVar, newRow])
    (k _ _ (Nat.le_refl _) (Fr.alloc w _) (by have := Blk.new w t v.cells.toList; simpa using this))
theorem x_alloc {z : Value} {sz bytes : Nat} (hT : TI P t z sz bytes) (k : ∀ g w', w.heap.size ≤ g → Fr No w w' → Blk w' g t z.cells.toList → K (.pointer (some ⟨g, 0, none⟩)) w') : XW P Q N D ρ w (.alloc t) ty K := by
  obtain ⟨i, hi, hz, _, _⟩ := hT.get
  exact xw_of_run (w' := w.alloc (.cells z.cells t)) (fun a _ _ _ _ _ => by simp [execOp, Instr.alloc, zeroValue, typeInfo, hi, hz, newVar, newRow])
    (k _ _ (Nat.le_refl _) (Fr.alloc w _) (by have := Blk.new w t z.cells.toList; simpa using this))
theorem x_app {base sz bytes n m : Nat} {src z : Value} {xs news : List Value} {du : TypeDesc} (hx : ev ρ x = some v) (hy : ev ρ y = some src) (ht : P.underlying t = some (.slice e)) (hu : P.underlying u = some du) (hnu : du = .slice e ∨ du = .string)
    (hT : TI P e z sz bytes) (hz : z.cells.size = sz) (h : Own w base e sz v n xs) (hs : Src P w sz m src news) (h1 : ∀ u ∈ news, u.oneCell' = true) (hm : n + m ≤ maxLen) (hb : (n + m) * bytes ≤ 140737488355328) (hbase : base ≤ w.heap.size)
    (k : ∀ v' w', Own w' base e sz v' (n + m) (xs ++ news) → Fr (vblk v) w w' → (∀ k, vblk v' k → vblk v k ∨ w.heap.size ≤ k) → K v' w') : XW P Q N D ρ w (.call ⟨.builtin .append, #[x, y], #[t, u]⟩) ty K := by
  obtain ⟨v', w', hr, ho, hf, hk⟩ := run_append (P := P) (ty := ty) ht hu hnu hT hz h hs h1 hm hb hbase
  exact xw_of_run (v' := v') (w' := w') (fun a _ _ _ _ ha => by simp [execOp, resolve, invoke, builtin, ha.eval hx, ha.eval hy, hr]) (k v' w' ho hf hk)
theorem x_st1 {g o : Nat} {bt : TypeId} {cs : List Value} (hx : ev ρ x = some (.pointer (some ⟨g, o, none⟩))) (hy : ev ρ y = some v) (hs : szB P t = some 1) (hv : v.oneCell' = true) (hb : Blk w g bt cs) (ho : o < cs.length)
    (k : ∀ w', Fr (fun i => i = g) w w' → Blk w' g bt (cs.set o v) → w'.heap.size = w.heap.size → K undef w') : XW P Q N D ρ w (.store t x y) ty K := by
  have hc : v.cells = #[v] := by cases v <;> simp [Value.oneCell'] at hv <;> rfl
  refine xw_of_run0 (w' := w.setCell ⟨g, o, none⟩ v) (fun a _ _ _ _ ha => ?_) (k _ (Fr.setCell w ⟨g, o, none⟩ v) (hb.set o v) (size_setCell _ _ _))
  have := run_store1 (P := P) hb ho hv
  simp [execOp, ha.eval hx, ha.eval hy, Instr.storeAt, Instr.sureAddr, storeVar, hc, run_sizeOf hs, storeCells, addr_add, this]
theorem x_stN {g o sz : Nat} {bt : TypeId} {cs vs : List Value} (hx : ev ρ x = some (.pointer (some ⟨g, o, none⟩))) (hy : ev ρ y = some (.agg vs.toArray)) (hs : szB P t = some sz) (hl : vs.length = sz) (hv : ∀ v ∈ vs, v.oneCell' = true) (hb : Blk w g bt cs) (ho : o + sz ≤ cs.length)
    (k : ∀ w', Fr (fun i => i = g) w w' → Blk w' g bt (splice cs o vs) → w'.heap.size = w.heap.size → K undef w') : XW P Q N D ρ w (.store t x y) ty K := by
  obtain ⟨w', hr, hb', hf, hsz⟩ := run_stores (P := P) vs o 0 cs w hb (by omega) hv
  refine xw_of_run0 (w' := w') (fun a _ _ _ _ ha => ?_) (k _ hf (by simpa using hb') hsz)
  simp [execOp, ha.eval hx, ha.eval hy, Instr.storeAt, Instr.sureAddr, storeVar, Value.cells, run_sizeOf hs, hl, hr]
end
/-! ### In and out -/
def argsEnv : List Value → Nat → Env
  | [], _ => []
  | v :: r, i => (i, v) :: argsEnv r (i + 1)
theorem get_argsEnv : ∀ (vs : List Value) (i t : Nat) (v : Value), get (argsEnv vs i) t = some v → i ≤ t ∧ vs[t - i]? = some v
  | [], _, _, _, h => by simp [argsEnv, get] at h
  | u :: r, i, t, v, h => by
    simp only [argsEnv, get] at h
    cases hb : Nat.beq i t with
    | true =>
      have : i = t := Nat.eq_of_beq_eq_true hb
      subst this
      rw [hb] at h
      simp at h
      simp [h]
    | false =>
      have hne : i ≠ t := Nat.ne_of_beq_eq_false hb
      rw [hb] at h
      simp only [cond_false] at h
      obtain ⟨h1, h2⟩ := get_argsEnv r (i + 1) t v h
      refine ⟨by omega, ?_⟩
      have : t - i = (t - (i + 1)) + 1 := by omega
      rw [this, List.getElem?_cons_succ]
      exact h2
theorem enter {P : Program} {f : Nat} {fn : Func} {c : Code} {vs : List Value} {w : World} {R : Ending → World → Prop} {N : Nat} (hf : P.funcs[f]? = some fn) (hb : fn.body = some c) (hN : fn.ntmps = N) (hl : vs.length ≤ N)
    (h : WC P (bodyPost P fn R) N [] c (argsEnv vs 0) w) : Calls P f vs.toArray w R := by
  refine calls_of_wp hf hb (h _ ⟨?_, rfl, fun t v ht => ?_⟩)
  · simp [hN]; omega
  · obtain ⟨_, h2⟩ := get_argsEnv vs 0 t v ht
    have hlt := (List.getElem?_eq_some_iff.1 h2).1
    rw [Array.getElem?_append_left (by simpa using hlt)]
    simpa using h2
section
variable {P : Program} {fn : Func} {R : Ending → World → Prop} {N : Nat} {ρ : Env} {w : World} {e : Exit}
def Leaves : Exit → Prop
  | .normal | .ret => True
  | _ => False
theorem wq_leave {v : Value} (he : Leaves e) (h : ∀ a, Ag N [] ρ a → (results fn a.tmps).run P w = .ok v w) (hR : R (.returned v) w) : WQ (bodyPost P fn R) N [] e ρ w := by
  intro a ha
  cases e <;> first | exact he.elim | exact ⟨ha.df, v, h a ha, hR⟩
theorem Ag.getD {D : List Deferred} {a : Act} {t : Nat} {v : Value} (ha : Ag N D ρ a) (h : get ρ t = some v) : a.tmps.getD t undef = v := by
  have := ha.gt t v h
  simp [this]
theorem ret0 (he : Leaves e) (hr : fn.results = #[]) (hR : R (.returned (.tuple #[])) w) : WQ (bodyPost P fn R) N [] e ρ w := wq_leave he (fun a _ => by simp [results, hr]) hR
theorem ret1 {t : Nat} {v : Value} (he : Leaves e) (hr : fn.results = #[.tmp t]) (hv : get ρ t = some v) (hR : R (.returned v) w) : WQ (bodyPost P fn R) N [] e ρ w :=
  wq_leave he (fun a ha => by have := ha.getD hv; simp at this; simp [results, hr, this]) hR
theorem ret2 {t t' : Nat} {v v' : Value} (he : Leaves e) (hr : fn.results = #[.tmp t, .tmp t']) (hv : get ρ t = some v) (hv' : get ρ t' = some v') (hR : R (.returned (.tuple #[v, v'])) w) : WQ (bodyPost P fn R) N [] e ρ w :=
  wq_leave he (fun a ha => by have h1 := ha.getD hv; have h2 := ha.getD hv'; simp at h1 h2; simp [results, hr, h1, h2]) hR
/-- one result that lies in memory, an array or a struct -/
theorem run_loadN {t : TypeId} {p : Addr} {sz : Nat} {cs : List Value} (ha : aggB P t = some true) (hs : szB P t = some sz) (hl : cs.length = sz) (hc : ∀ j u, cs[j]? = some u → w.cell? (p.add j) = some u) : (loadVar t p).run P w = .ok (.agg cs.toArray) w := by
  have := run_loadCells_list (P := P) w p cs hc
  rw [hl] at this
  simp [loadVar, run_isAgg ha, run_sizeOf hs, this]
theorem retN {t sz : Nat} {ty : TypeId} {p : Addr} {cs : List Value} (he : Leaves e) (hr : fn.results = #[.cell t ty]) (hv : get ρ t = some (.pointer (some p))) (ha : aggB P ty = some true) (hs : szB P ty = some sz) (hl : cs.length = sz)
    (hc : ∀ j u, cs[j]? = some u → w.cell? (p.add j) = some u) (hR : R (.returned (.agg cs.toArray)) w) : WQ (bodyPost P fn R) N [] e ρ w :=
  wq_leave he (fun a hA => by have h1 := hA.getD hv; simp at h1; simp [results, hr, h1, asAddr, run_loadN ha hs hl hc]) hR
theorem retN1 {t t' sz : Nat} {ty : TypeId} {p : Addr} {cs : List Value} {v' : Value} (he : Leaves e) (hr : fn.results = #[.cell t ty, .tmp t']) (hv : get ρ t = some (.pointer (some p))) (hv' : get ρ t' = some v') (ha : aggB P ty = some true) (hs : szB P ty = some sz) (hl : cs.length = sz)
    (hc : ∀ j u, cs[j]? = some u → w.cell? (p.add j) = some u) (hR : R (.returned (.tuple #[.agg cs.toArray, v'])) w) : WQ (bodyPost P fn R) N [] e ρ w :=
  wq_leave he (fun a hA => by have h1 := hA.getD hv; have h2 := hA.getD hv'; simp at h1 h2; simp [results, hr, h1, h2, asAddr, run_loadN ha hs hl hc]) hR
end
end Go.Eng
end
section
/- The engine, fourth part: a statement whose order is open is walked in one order. No statement is proved here. -/
set_option linter.unusedVariables false
set_option linter.unusedSimpArgs false
namespace Go.Eng
open Go.RowKit
section
variable {P : Program} {ops : Array Oper} {Q : Exit → Act → World → Prop} {S : World → Prop}
/-- the order L may be taken: an operation with the mark is the only one that may come up; any other one is apart from all that may come before it -/
def seqOk (ops : Array Oper) : List (Nat × Bool) → Array Bool → Bool
  | [], listed => (Region.ready .any ops listed).isEmpty
  | (i, true) :: r, listed => (Region.ready .any ops listed == [i]) && seqOk ops r (listed.setIfInBounds i true)
  | (i, false) :: r, listed => Region.free .any ops listed i && (Region.ready .any ops listed).contains i && seqOk ops r (listed.setIfInBounds i true)
def pick (ops : Array Oper) : List (Nat × Bool) → Option (List (Bool × Oper))
  | [] => some []
  | (i, x) :: r => match ops[i]?, pick ops r with
    | some o, some l => some ((x, o) :: l)
    | _, _ => none
def wpSeq (P : Program) (ops : Array Oper) (Q : Exit → Act → World → Prop) (S : World → Prop) : List (Bool × Oper) → Act → World → Prop
  | [], a, w => Q .normal a w
  | (true, o) :: r, a, w => if Region.wanted o (yielded ops a.tmps) = true then o.wp P a w (fun a' w' => S w' ∧ wpSeq P ops Q S r a' w') Q else wpSeq P ops Q S r (a.put o.dst undef) w
  | (false, o) :: r, a, w => ∃ v, YieldsIf P ops S o v a ∧ wpSeq P ops Q S r (a.put o.dst v) w
theorem wpAnyH_of_seq (hs : Region.noSelect ops = true) (hQ : ∀ c a d v w, Q (.panic c) (a.put d v) w → Q (.panic c) a w) : ∀ (L : List (Nat × Bool)) (l : List (Bool × Oper)) (listed : Array Bool) (a : Act) (w : World) (fuel : Nat),
    pick ops L = some l → seqOk ops L listed = true → L.length ≤ fuel → S w → wpSeq P ops Q S l a w → wpAnyH P .any ops Q S fuel listed a w
  | [], l, listed, a, w, fuel, hp, hk, _, _, h => by
    simp only [pick, Option.some.injEq] at hp
    subst hp
    have hr : Region.ready .any ops listed = [] := by simpa [seqOk] using hk
    exact wpAnyH_done hr h fuel
  | (i, x) :: r, l, listed, a, w, 0, hp, hk, hf, _, h => by simp at hf
  | (i, x) :: r, l, listed, a, w, fuel + 1, hp, hk, hf, hS, h => by
    unfold pick at hp
    split at hp
    · rename_i o l' ho hl'
      cases hp
      have hf' : r.length ≤ fuel := by simp at hf; omega
      cases x with
      | true =>
        simp only [seqOk, Bool.and_eq_true, beq_iff_eq] at hk
        refine wpAnyH_all hk.1 (by simp) ?_
        intro j hj
        have : j = i := by simpa using hj
        subst this
        unfold wpOp
        simp only [ho]
        simp only [wpSeq] at h
        split at h
        · rename_i hw
          rw [if_pos hw]
          refine .inl (Oper.wp_mono ?_ h)
          rintro a' w' ⟨hS', h'⟩
          exact ⟨hS', wpAnyH_of_seq hs hQ r l' _ a' w' fuel hl' hk.2 hf' hS' h'⟩
        · rename_i hw
          rw [if_neg hw]
          exact ⟨hS, wpAnyH_of_seq hs hQ r l' _ _ w fuel hl' hk.2 hf' hS h⟩
      | false =>
        simp only [seqOk, Bool.and_eq_true] at hk
        obtain ⟨v, hy, h'⟩ := h
        exact wpAnyH_take ho hs hk.1.1 hk.1.2 (fun c a w => hQ c a _ _ w) hy hS (wpAnyH_of_seq hs hQ r l' _ _ w fuel hl' hk.2 hf' hS h')
    · cases hp
/-- Q, but nothing is said at a panic -/
def NoPan (Q : Exit → Act → World → Prop) : Exit → Act → World → Prop
  | .panic _, _, _ => False
  | .outgrown, _, _ => False
  | e, a, w => Q e a w
theorem wp_region_seq {id : Nat} {a : Act} {w : World} {l : List (Bool × Oper)} (L : List (Nat × Bool)) (hm : P.follows .mixedOrders = true) (hs : Region.noSelect ops = true) (hk : seqOk ops L (Array.replicate ops.size false) = true) (hn : L.length ≤ ops.size)
    (hp : pick ops L = some l) (hS : S w.drew) (h : wpSeq P ops (NoPan Q) S l a w.drew) : (Code.region id ops true).wp P Q a w := by
  refine Code.wp_mono (Q := NoPan Q) (fun e a w q => by cases e <;> first | exact q | exact q.elim) ?_
  exact wp_region_held hm (wpAnyH_of_seq hs (fun c a d v w q => q.elim) L l _ a _ _ hp hk hn hS h)
end
def WS (P : Program) (ops : Array Oper) (Q : Exit → Act → World → Prop) (S : World → Prop) (N : Nat) (D : List Deferred) (l : List (Bool × Oper)) (ρ : Env) (w : World) : Prop :=
  ∀ a, Ag N D ρ a → wpSeq P ops Q S l a w
section
variable {P : Program} {ops : Array Oper} {Q : Exit → Act → World → Prop} {S : World → Prop} {N : Nat} {D : List Deferred} {ρ ρ' : Env} {w : World} {rest : List (Bool × Oper)}
  {op : Op} {ty : TypeId} {pos : String} {af : Array Edge} {d : Nat} {v : Value}
/-- the way into a region that draws: S: what every world of it meets -/
theorem cdrw {id : Nat} {l : List (Bool × Oper)} (L : List (Nat × Bool)) (hm : P.follows .mixedOrders = true) (hk : (Region.noSelect ops && seqOk ops L (Array.replicate ops.size false) && decide (L.length ≤ ops.size)) = true)
    (hp : pick ops L = some l) (S : World → Prop) (hS : S w.drew) (h : ∀ w', Fr No w w' → S w' → WS P ops (NoPan Q) S N D l ρ w') : WC P Q N D (.region id ops true) ρ w := by
  intro a ha
  simp only [Bool.and_eq_true, decide_eq_true_eq] at hk
  exact wp_region_seq L hm hk.1.1 hk.1.2 hk.2 hp hS (h _ (Fr.drew w) hS a ha)
theorem sq (h : ∀ w', S w' → Yl P N D ρ w' op ty v) (k : WS P ops Q S N D rest ((d, v) :: ρ) w) (hd : d < N := by decide) : WS P ops Q S N D ((false, ⟨some d, op, ty, pos, af, none⟩) :: rest) ρ w := by
  intro a ha
  refine ⟨v, .inl ⟨by simp [Region.wanted], fun w' hS => h w' hS a _ pos af none ha⟩, k _ (ha.put hd)⟩
theorem sx (h : XW P Q N D ρ w op ty (fun v w' => S w' ∧ WS P ops Q S N D rest ((d, v) :: ρ) w')) (hd : d < N := by decide) : WS P ops Q S N D ((true, ⟨some d, op, ty, pos, af, none⟩) :: rest) ρ w := by
  intro a ha
  unfold wpSeq
  rw [if_pos (by simp [Region.wanted])]
  refine Oper.wp_mono ?_ (h a (some d) pos af none ha)
  rintro a' w' ⟨v, rfl, hS, hk⟩
  exact ⟨hS, hk _ (ha.put hd)⟩
/-- an operation that comes alone: only the world at hand counts -/
theorem sy (hS : S w) (h : Yl P N D ρ w op ty v) (k : WS P ops Q S N D rest ((d, v) :: ρ) w) (hd : d < N := by decide) : WS P ops Q S N D ((true, ⟨some d, op, ty, pos, af, none⟩) :: rest) ρ w := by
  intro a ha
  unfold wpSeq
  rw [if_pos (by simp [Region.wanted])]
  unfold Oper.wp
  rw [h a _ pos af none ha]
  exact ⟨hS, k _ (ha.put hd)⟩
theorem send (h : WQ Q N D .normal ρ w) : WS P ops (NoPan Q) S N D [] ρ w := fun a ha => h a ha
end
/-! guards where the order is fixed -/
section
variable {P : Program} {ops : Array Oper} {Q : Exit → Act → World → Prop} {N : Nat} {D : List Deferred} {ρ : Env} {w : World} {rest : List Oper} {op : Op} {ty : TypeId} {pos : String} {af : Array Edge} {d : Nat} {v : Value}
theorem nxg {g gd : Nat} {want : Bool} {o : Oper} (ho : ops[g]? = some o) (hod : o.dst = some gd) (hb : get ρ gd = some (.bool want)) (h : XW P Q N D ρ w op ty (fun v w' => WL P ops Q N D rest ((d, v) :: ρ) w')) (hd : d < N := by decide) :
    WL P ops Q N D (⟨some d, op, ty, pos, af, some (g, want)⟩ :: rest) ρ w := by
  intro a ha
  unfold wpList
  rw [if_pos (by simp [Region.wanted, yielded, ho, hod, ha.gt _ _ hb])]
  refine .inl (Oper.wp_mono ?_ (h a (some d) pos af _ ha))
  rintro a' w' ⟨v, rfl, hk⟩
  exact hk _ (ha.put hd)
theorem nskip {g gd : Nat} {want b : Bool} {o : Oper} (ho : ops[g]? = some o) (hod : o.dst = some gd) (hb : get ρ gd = some (.bool b)) (hne : b ≠ want) (k : WL P ops Q N D rest ((d, undef) :: ρ) w) (hd : d < N := by decide) :
    WL P ops Q N D (⟨some d, op, ty, pos, af, some (g, want)⟩ :: rest) ρ w := by
  intro a ha
  unfold wpList
  rw [if_neg (by simp [Region.wanted, yielded, ho, hod, ha.gt _ _ hb, hne])]
  exact k _ (ha.put hd)
end
/-! a guard that is not known: both ways -/
theorem Ag.more {N : Nat} {D : List Deferred} {ρ : Env} {a : Act} {t : Nat} {v : Value} (ha : Ag N D ρ a) (h : get ρ t = some v) : Ag N D ((t, v) :: ρ) a := ⟨ha.sz, ha.df, fun u x hu => by
  simp only [get] at hu
  cases hb : Nat.beq t u with
  | true =>
    have : t = u := Nat.eq_of_beq_eq_true hb
    subst this
    rw [hb] at hu
    simp only [cond_true, Option.some.injEq] at hu
    exact hu ▸ ha.gt _ _ h
  | false =>
    rw [hb] at hu
    exact ha.gt _ _ hu⟩
section
variable {P : Program} {ops : Array Oper} {Q : Exit → Act → World → Prop} {S : World → Prop} {N : Nat} {D : List Deferred} {ρ : Env} {w : World} {p : Prop} [Decidable p]
theorem nsplit {l : List Oper} (gd : Nat) (hg : get ρ gd = some (.bool (decide p))) (ht : p → WL P ops Q N D l ((gd, .bool true) :: ρ) w) (hf : ¬ p → WL P ops Q N D l ((gd, .bool false) :: ρ) w) : WL P ops Q N D l ρ w := by
  intro a ha
  by_cases h : p
  · exact ht h a (ha.more (by rw [hg]; simp [h]))
  · exact hf h a (ha.more (by rw [hg]; simp [h]))
end
/-! where the code goes on -/
section
variable {P : Program} {Q : Exit → Act → World → Prop} {N : Nat} {D : List Deferred} {ρ : Env} {w : World}
theorem qthen {c : Code} (h : WC P Q N D c ρ w) : WQ (Exit.then (c.wp P Q) Q) N D .normal ρ w := h
theorem qthen_exit {K : Act → World → Prop} {id : Nat} (h : WQ Q N D (.exit id) ρ w) : WQ (Exit.then K Q) N D (.exit id) ρ w := h
theorem qthen_ret {K : Act → World → Prop} (h : WQ Q N D .ret ρ w) : WQ (Exit.then K Q) N D .ret ρ w := h
theorem qblock {id : Nat} (h : WQ Q N D .normal ρ w) : WQ (Exit.inBlock id Q) N D .normal ρ w := h
theorem qblock_exit {id : Nat} (h : WQ Q N D .normal ρ w) : WQ (Exit.inBlock id Q) N D (.exit id) ρ w := fun a ha => by
  simp only [Exit.inBlock, if_true]; exact h a ha
theorem qblock_exit' {id id' : Nat} (hne : id' ≠ id) (h : WQ Q N D (.exit id') ρ w) : WQ (Exit.inBlock id Q) N D (.exit id') ρ w := fun a ha => by
  simp only [Exit.inBlock, hne, if_false]; exact h a ha
theorem cloop1 {α : Type} {c : Code} (μ : α → Nat) (R : α → Env) (I : α → World → Prop) (a0 : α) (hi : I a0 w) (hs : Sub (R a0) ρ)
    (round : ∀ a w, I a w → WC P (Exit.then (fun a' w' => ∃ x, Ag N D (R x) a' ∧ I x w' ∧ μ x < μ a) Q) N D c (R a) w) : WC P Q N D (.loop c) ρ w := cloop μ R I a0 hi hs round
theorem qloop1 {α : Type} {M : Nat} {μ : α → Nat} {R : α → Env} {I : α → World → Prop} (x : α) (hs : Sub (R x) ρ) (hI : I x w) (hlt : μ x < M) : WQ (Exit.then (fun a' w' => ∃ x, Ag N D (R x) a' ∧ I x w' ∧ μ x < M) Q) N D .normal ρ w :=
  fun _ ha => ⟨x, ha.sub hs, hI, hlt⟩
theorem cloop2 {α β : Type} {c : Code} (μ : α → β → Nat) (R : α → β → Env) (I : α → β → World → Prop) (a0 : α) (b0 : β) (hi : I a0 b0 w) (hs : Sub (R a0 b0) ρ)
    (round : ∀ a b w, I a b w → WC P (Exit.then (fun a' w' => ∃ x y, Ag N D (R x y) a' ∧ I x y w' ∧ μ x y < μ a b) Q) N D c (R a b) w) : WC P Q N D (.loop c) ρ w :=
  cloop (ι := α × β) (fun i => μ i.1 i.2) (fun i => R i.1 i.2) (fun i => I i.1 i.2) (a0, b0) hi hs (fun i w h a ha => Code.wp_mono (fun e a' w' q => by
    cases e <;> first | exact q | (obtain ⟨x, y, h1, h2, h3⟩ := q; exact ⟨(x, y), h1, h2, h3⟩)) (round i.1 i.2 w h a ha))
theorem qloop2 {α β : Type} {M : Nat} {μ : α → β → Nat} {R : α → β → Env} {I : α → β → World → Prop} (x : α) (y : β) (hs : Sub (R x y) ρ) (hI : I x y w) (hlt : μ x y < M) :
    WQ (Exit.then (fun a' w' => ∃ x y, Ag N D (R x y) a' ∧ I x y w' ∧ μ x y < M) Q) N D .normal ρ w := fun _ ha => ⟨x, y, ha.sub hs, hI, hlt⟩
end
end Go.Eng
end
section
/- The engine, fifth part: slices, strings, composite values. No statement is proved here. -/
set_option linter.unusedVariables false
set_option linter.unusedSimpArgs false
namespace Go.Eng
open Go.RowKit
theorem Rd.of_blk {w : World} {g e sz n : Nat} {cs : List Value} (h : Blk w g e cs) (hl : cs.length = n * sz) : Rd w sz (Option.some ⟨g, 0, none⟩) n cs :=
  ⟨hl, fun _ e => (by cases e), fun j u hu => by rw [Option.getD_some, addr_add, Nat.zero_add]; exact h.cell hu⟩
theorem Src.of_blk {P : Program} {w : World} {g e sz n c : Nat} {cs : List Value} (h : Blk w g e cs) (hl : cs.length = n * sz) : Src P w sz n (.slice (some ⟨g, 0, none⟩) n c) cs := Src.of_rd (Rd.of_blk h hl)
theorem add_zero (a : Addr) : a.add 0 = a := by simp [Addr.add]
theorem map_add_zero (A : Option Addr) : A.map (·.add 0) = A := by cases A <;> simp [add_zero]
section
variable {P : Program} {N : Nat} {D : List Deferred} {ρ : Env} {w : World} {ty t t' e : TypeId} {x y z : Operand} {v : Value} {k k' : IntKind} {i j : Int} {A : Option Addr} {n c sz : Nat}
theorem run_bound {j m : Nat} {code : BoundsCode} (h1 : j ≤ m) : (Instr.sliceBound (.int k (j : Int)) m code).run P w = .ok j w := by
  have h0 : (0 : Int) ≤ (j : Int) := by omega
  simp [Instr.sliceBound, asIntOf, h0, h1]
theorem y_slTo {a : Nat} (hx : ev ρ x = some (.slice A n c)) (hy : ev ρ y = some (.int k i)) (ht : P.underlying t = some (.slice e)) (hs : szB P e = some sz) (hj : ((a : Nat) : Int) = i) (h1 : a ≤ c) :
    Yl P N D ρ w (.slice t x none (some y) none) ty (.slice A a c) := fun ac _ _ _ _ ha => by
  subst hj
  have : (if c = 0 then A else A.map (·.add (0 * sz))) = A := by split <;> simp [map_add_zero]
  simp [execOp, ha.eval hx, ha.eval hy, Instr.sliceAt, Instr.slice, Instr.sliceBounds, run_underlying ht, run_sizeOf hs, run_bound h1] at this ⊢
  exact this
theorem y_slFrom {a : Nat} (hx : ev ρ x = some (.slice A n c)) (hy : ev ρ y = some (.int k i)) (ht : P.underlying t = some (.slice e)) (hs : szB P e = some sz) (hj : ((a : Nat) : Int) = i) (h1 : a ≤ n) :
    Yl P N D ρ w (.slice t x (some y) none none) ty (.slice (if c = a then A else A.map (·.add (a * sz))) (n - a) (c - a)) := fun ac _ _ _ _ ha => by
  subst hj
  simp [execOp, ha.eval hx, ha.eval hy, Instr.sliceAt, Instr.slice, Instr.sliceBounds, run_underlying ht, run_sizeOf hs, run_bound h1]
theorem y_slBoth {a b : Nat} (hx : ev ρ x = some (.slice A n c)) (hy : ev ρ y = some (.int k i)) (hz : ev ρ z = some (.int k' j)) (ht : P.underlying t = some (.slice e)) (hs : szB P e = some sz) (hi : ((a : Nat) : Int) = i) (hj : ((b : Nat) : Int) = j) (h1 : a ≤ b) (h2 : b ≤ c) :
    Yl P N D ρ w (.slice t x (some y) (some z) none) ty (.slice (if c = a then A else A.map (·.add (a * sz))) (b - a) (c - a)) := fun ac _ _ _ _ ha => by
  subst hi
  subst hj
  simp [execOp, ha.eval hx, ha.eval hy, ha.eval hz, Instr.sliceAt, Instr.slice, Instr.sliceBounds, run_underlying ht, run_sizeOf hs, run_bound h2, run_bound h1]
theorem y_slArr {p : Addr} (hx : ev ρ x = some (.pointer (some p))) (ht : P.underlying t = some (.array n e)) (hs : szB P e = some sz) : Yl P N D ρ w (.slice t x none none none) ty (.slice (some p) n n) := fun a _ _ _ _ ha => by
  simp [execOp, ha.eval hx, Instr.sliceAt, Instr.sureAddr, Instr.sliceBounds, run_underlying ht, run_sizeOf hs, add_zero]
theorem extract_str (s : ByteArray) (l h : Nat) : s.extract l h = strOf (((bytesOf s).take h).drop l) := by
  apply ByteArray.ext
  rw [ByteArray.data_extract]
  apply Array.ext'
  simp [strOf, bytesOf, List.drop_take]
theorem y_strTo {s : ByteArray} {a : Nat} (hx : ev ρ x = some (.string s)) (hy : ev ρ y = some (.int k i)) (ht : P.underlying t = some .string) (hi : ((a : Nat) : Int) = i) (h1 : a ≤ (bytesOf s).length) :
    Yl P N D ρ w (.slice t x none (some y) none) ty (.string (strOf ((bytesOf s).take a))) := fun ac _ _ _ _ ha => by
  subst hi
  have h4 : a ≤ s.size := by simpa [bytesOf] using h1
  simp [execOp, ha.eval hx, ha.eval hy, Instr.sliceAt, Instr.slice, Instr.sliceBounds, run_underlying ht, run_bound h4, extract_str]
theorem y_arrAt {m : Nat} (hx : ev ρ x = some (.slice A n c)) (ht : P.underlying t = some (.array m e)) (hm : m ≤ n) : Yl P N D ρ w (.sliceToArrayPointer t x) ty (.pointer A) := fun a _ _ _ _ ha => by
  have : ¬ n < m := by omega
  simp [execOp, ha.eval hx, Instr.arrayAt, run_underlying ht, this]
theorem run_b2s {l : List UInt8} (hr : Rd w 1 A n (b8s l)) (ht : P.underlying t = some (.slice e)) (he : P.underlying e = some (.int .u8)) (ht' : P.underlying t' = some .string) : (convert t t' (.slice A n c)).run P w = .ok (.string (strOf l)) w := by
  have hn : l.length = n := by have := hr.1; rw [b8s_length] at this; omega
  cases A with
  | none =>
    have h0 : n = 0 := by
      rcases Nat.eq_zero_or_pos n with h | h
      · exact h
      · exact absurd rfl (hr.2.1 h)
    have hl : l = [] := List.eq_nil_of_length_eq_zero (by omega)
    rw [run_convert_bytes_string w t t' e none n c ht he ht', hl]
    simp [Conv.bytesToString]
    rfl
  | some ad =>
    subst hn
    exact run_convert_bytes_back w t t' e ad c l ht he ht' (fun j hj => by
      have := hr.cell (b8s_get hj)
      simpa [B8, List.getD, List.getElem?_eq_getElem hj] using this)
theorem y_b2s {l : List UInt8} (hx : ev ρ x = some (.slice A n c)) (ht : P.underlying t = some (.slice e)) (he : P.underlying e = some (.int .u8)) (ht' : P.underlying t' = some .string) (hr : Rd w 1 A n (b8s l)) : Yl P N D ρ w (.convert t t' x) ty (.string (strOf l)) := fun a _ _ _ _ ha => by
  simp [execOp, ha.eval hx, run_b2s hr ht he ht']
/-- composite values -/
inductive Bld (P : Program) (pl : Nat → Option (Nat × Nat)) : List Value → List (Nat × Value) → List Value → Prop
  | nil {cs : List Value} : Bld P pl cs [] cs
  | cons {cs cs' vs : List Value} {i o sz : Nat} {v : Value} {rest : List (Nat × Value)} (hp : pl i = some (o, sz)) (hv : v.cells.toList = vs) (hl : vs.length = sz) (ho : o + sz ≤ cs.length) (h : Bld P pl (splice cs o vs) rest cs') : Bld P pl cs ((i, v) :: rest) cs'
theorem foldl_splice : ∀ (vs cs : List Value) (o k : Nat), o + k + vs.length ≤ cs.length → (vs.zipIdx k).foldl (fun cs (c, j) => cs.setIfInBounds (o + j) c) cs.toArray = (splice cs (o + k) vs).toArray
  | [], cs, o, k, _ => by simp [splice_nil]
  | v :: r, cs, o, k, h => by
    have hk : o + k < cs.length := by simp at h; omega
    rw [List.zipIdx_cons, List.foldl_cons]
    have := foldl_splice r (cs.set (o + k) v) o (k + 1) (by simp at h ⊢; omega)
    simp only [List.setIfInBounds_toArray] at this ⊢
    rw [this, ← Nat.add_assoc, splice_cons hk]
theorem run_fill {pl : Nat → Option (Nat × Nat)} : ∀ {parts : List (Nat × Value)} {cs cs' : List Value}, Bld P pl cs parts cs' → Instr.fill pl cs.toArray parts = some cs'.toArray
  | [], _, _, h => by cases h; rfl
  | (i, v) :: rest, cs, cs', h => by
    cases h with
    | cons hp hv hl ho h =>
      rename_i vs o sz
      have h1 : v.cells = vs.toArray := by rw [← hv]
      have h2 : ¬ (cs.length < o + vs.length) := by omega
      have hz : vs.toArray.zipIdx = (vs.zipIdx).toArray := by simp
      have hf := foldl_splice vs cs o 0 (by omega)
      simp only [Nat.add_zero] at hf
      unfold Instr.fill
      simp only [hp, h1]
      rw [if_neg (by simp; omega), hz, List.foldl_toArray, hf]
      exact run_fill h
/-- where the parts of a composite lie -/
def plB (P : Program) (t : TypeId) (i : Nat) : Option (Nat × Nat) :=
  match P.underlying t with
  | some (.array _ e) => match P.info? e with
    | some ie => some (i * ie.size, ie.size)
    | none => none
  | some (.struct fields) => match fields.toList.mapM (fun f => (P.info? f.type).map fun i => (f.offset, i.size)) with
    | some places => places.toArray[i]?
    | none => none
  | _ => none
theorem built_of {parts : List (Nat × Value)} {zs cs : List Value} {z : Value} {sz bytes : Nat} (hT : TI P t z sz bytes) (hz : z.cells.toList = zs) (hp : (plB P t 0).isSome = true) (hb : Bld P (plB P t) zs parts cs) : P.built t parts = some cs.toArray := by
  obtain ⟨i, hi, hzero, _, _⟩ := hT.get
  have hzc : z.cells = zs.toArray := by rw [← hz]
  have hfill := run_fill hb
  unfold Program.built
  cases hu : P.underlying t with
  | none => simp [plB, hu] at hp
  | some d =>
    cases d <;> try (simp [plB, hu] at hp; done)
    case array n e =>
      cases he : P.info? e with
      | none => simp [plB, hu, he] at hp
      | some ie =>
        have e3 : plB P t = fun i => some (i * ie.size, ie.size) := by funext i; simp [plB, hu, he]
        rw [e3] at hfill
        simp only [hi, hzero, he, hzc]
        exact hfill
    case struct fs =>
      cases hm : fs.toList.mapM (fun f => (P.info? f.type).map fun i => (f.offset, i.size)) with
      | none => simp [plB, hu, hm] at hp
      | some places =>
        have e3 : plB P t = fun i => places.toArray[i]? := by funext i; simp [plB, hu, hm]
        rw [e3] at hfill
        simp only [hi, hzero, hm, hzc]
        exact hfill
theorem y_build {zs cs : List Value} {parts : List (Nat × Operand)} {vs : List Value} {z : Value} {sz bytes : Nat} (hT : TI P t z sz bytes) (hz : z.cells.toList = zs) (hv : evs ρ (parts.map (·.2)) = some vs) (hp : (plB P t 0).isSome = true)
    (hb : Bld P (plB P t) zs ((parts.map (·.1)).zip vs) cs) : Yl P N D ρ w (.build t parts.toArray) ty (.agg cs.toArray) := fun a _ _ _ _ ha => by
  have e1 := ha.evals hv
  have e2 : ∀ q : List (Nat × Operand), q.map (fun p => (p.1, a.eval p.2)) = (q.map (·.1)).zip ((q.map (·.2)).map a.eval) := by
    intro q
    induction q with
    | nil => rfl
    | cons p r ih => simp [ih]
  have hbt := built_of hT hz hp hb
  have := run_build (P := P) w t ((parts.map fun p => (p.1, a.eval p.2)).toArray) cs.toArray (by rw [e2 parts, e1]; exact hbt)
  simp [execOp, this]
/-- zero value -/
theorem y_build0 {z : Value} {sz bytes : Nat} {cs : List Value} (hT : TI P t z sz bytes) (hz : z.cells.toList = cs) (hp : (plB P t 0).isSome = true) : Yl P N D ρ w (.build t #[]) ty (.agg cs.toArray) :=
  y_build (parts := []) hT hz rfl hp .nil
end
section
variable {P : Program} {Q : Exit → Act → World → Prop} {N : Nat} {D : List Deferred} {ρ : Env} {w : World} {ty t t' e : TypeId} {x y : Operand} {v : Value} {K : Value → World → Prop}
/-- a slice literal, every element written -/
theorem fill_seq (sz : Nat) : ∀ (vs : List Value) (k : Nat) (cs : List Value), (∀ v ∈ vs, v.cells.size = sz) → (k + vs.length) * sz = cs.length →
    Instr.fill (fun i => some (i * sz, sz)) cs.toArray ((List.range' k vs.length).zip vs) = some (cs.take (k * sz) ++ vs.flatMap (·.cells.toList)).toArray
  | [], k, cs, _, hl => by simp at hl; simp [Instr.fill, hl]
  | v :: r, k, cs, hv, hl => by
    have h1 := hv v (by simp)
    have h2 : k * sz + sz ≤ cs.length := by
      rw [← hl]
      have : (k + (v :: r).length) * sz = k * sz + sz + r.length * sz := by simp [Nat.add_mul]; omega
      omega
    have hlv : v.cells.toList.length = sz := by simpa using h1
    have hf := foldl_splice v.cells.toList cs (k * sz) 0 (by omega)
    simp only [Nat.add_zero] at hf
    have hz : v.cells.zipIdx = (v.cells.toList.zipIdx).toArray := by apply Array.ext'; simp
    rw [List.length_cons, List.range'_succ, List.zip_cons_cons]
    unfold Instr.fill
    simp only []
    rw [if_neg (by simp; omega), hz, List.foldl_toArray, hf, fill_seq sz r (k + 1) _ (fun u hu => hv u (by simp [hu])) (by rw [splice_length (by omega), ← hl]; congr 1; simp only [List.length_cons]; omega)]
    congr 2
    simp only [List.flatMap_cons, ← List.append_assoc]
    congr 1
    have e1 : (k + 1) * sz = k * sz + sz := by simp [Nat.add_mul]
    rw [e1]
    unfold splice
    have h3 : (cs.take (k * sz) ++ v.cells.toList).length = k * sz + sz := by simp; omega
    rw [← h3, List.take_left]
theorem x_bslR {z : Value} {sz bytes n : Nat} {parts : List (Nat × Operand)} {vs : List Value} (ht : P.underlying t = some (.slice e)) (hT : TI P e z sz bytes) (hv : evs ρ (parts.map (·.2)) = some vs) (hi : parts.map (·.1) = List.range' 0 n) (hl : vs.length = n)
    (hc : ∀ v ∈ vs, v.cells.size = sz) (h0 : n * sz ≠ 0) (hsm : n * sz ≤ 16777216)
    (k : ∀ g w', w.heap.size ≤ g → Fr No w w' → w'.heap[g]? = some (.cells (vs.flatMap (·.cells.toList)).toArray e (0, 0)) → K (.slice (some ⟨g, 0, none⟩) n n) w') : XW P Q N D ρ w (.buildSlice t n parts.toArray) ty K := by
  obtain ⟨ie, hi', hzero, hsize, _⟩ := hT.get
  refine xw_of_run (w' := w.alloc (.cells (vs.flatMap (·.cells.toList)).toArray e)) (fun a _ _ _ _ ha => ?_) (k _ _ (Nat.le_refl _) (Fr.alloc w _) (heap_alloc_new w _))
  have e1 := ha.evals hv
  have e2 : ∀ q : List (Nat × Operand), q.map (fun p => (p.1, a.eval p.2)) = (q.map (·.1)).zip ((q.map (·.2)).map a.eval) := by
    intro q
    induction q with
    | nil => rfl
    | cons p r ih => simp [ih]
  have e3 : parts.map (fun p => (p.1, a.eval p.2)) = (List.range' 0 vs.length).zip vs := by rw [e2, e1, hi, hl]
  have hlen : (0 + vs.length) * sz = ((List.range (n * sz)).map fun i => z.cells[i % z.cells.size]!).length := by simp [hl]
  have hfs := fill_seq sz vs 0 ((List.range (n * sz)).map fun i => z.cells[i % z.cells.size]!) hc hlen
  simp only [Nat.zero_mul, List.take_zero, List.nil_append] at hfs
  have h24 : ¬ (2 ^ 24 < n * sz) := by omega
  have hr : (Array.range (n * sz)).map (fun i => z.cells[i % z.cells.size]!) = ((List.range (n * sz)).map fun i => z.cells[i % z.cells.size]!).toArray := by
    apply Array.ext'
    simp
  have hsl : ¬ (n * ie.size = 0) := by rw [hsize]; exact h0
  have hfs' : Instr.fill (fun i => some (i * ie.size, ie.size)) ((Array.range (n * ie.size)).map fun i => z.cells[i % z.cells.size]!) (parts.map fun p => (p.1, a.eval p.2)) = some (vs.flatMap (·.cells.toList)).toArray := by
    rw [hsize, hr, e3]; exact hfs
  have h24' : ¬ (2 ^ 24 < n * ie.size) := by rw [hsize]; exact h24
  simp [execOp, Instr.buildSlice, run_underlying ht, sizeOf, typeInfo, zeroValue, hi', hzero, hsl, newRow, h24', hfs']
theorem x_bsl {z : Value} {sz bytes n : Nat} {parts : List (Nat × Operand)} {vs : List Value} (ht : P.underlying t = some (.slice e)) (hT : TI P e z sz bytes) (hv : evs ρ (parts.map (·.2)) = some vs) (hi : parts.map (·.1) = List.range' 0 n) (hl : vs.length = n)
    (hc : ∀ v ∈ vs, v.cells.size = sz) (h0 : n * sz ≠ 0) (hsm : n * sz ≤ 16777216)
    (k : ∀ g w', w.heap.size ≤ g → Fr No w w' → Blk w' g e (vs.flatMap (·.cells.toList)) → K (.slice (some ⟨g, 0, none⟩) n n) w') : XW P Q N D ρ w (.buildSlice t n parts.toArray) ty K :=
  x_bslR ht hT hv hi hl hc h0 hsm fun g w' hg hf hh => k g w' hg hf ⟨(0, 0), hh, fun i _ => by simp, Nat.le_refl _⟩
theorem freeze_at {w : World} {g n : Nat} {c : Array Value} {t : TypeId} (h : w.heap[g]? = some (.cells c t (0, 0))) : (w.freeze ⟨g, n, none⟩ 1).heap[g]? = some (.cells c t (n, n + 1)) := by
  have e1 : w.freeze ⟨g, n, none⟩ 1 = { w with heap := w.heap.modify g fun | .cells c elem (lo, hi) => .cells c elem (if lo == hi then (n, n + 1) else (min lo n, max hi (n + 1))) | o => o } := rfl
  rw [e1]
  simp only [Array.getElem?_modify, if_true, h, Option.map_some]
  rfl
theorem freeze_fr (w : World) (g n : Nat) : Fr (fun k => k = g) w (w.freeze ⟨g, n, none⟩ 1) := by
  have e1 : w.freeze ⟨g, n, none⟩ 1 = { w with heap := w.heap.modify g fun | .cells c elem (lo, hi) => .cells c elem (if lo == hi then (n, n + 1) else (min lo n, max hi (n + 1))) | o => o } := rfl
  rw [e1]
  refine ⟨rfl, rfl, rfl, by simp, fun k _ hk => ?_⟩
  simp only [Array.getElem?_modify]
  rw [if_neg (fun e => hk e.symm)]
/-- a text turned into bytes -/
theorem x_s2b {s : ByteArray} {td : TypeDesc} (hx : ev ρ x = some (.string s)) (ht : P.underlying t = some td) (ht' : P.underlying t' = some (.slice e)) (he : P.underlying e = some (.int .u8)) (hm : (bytesOf s).length ≤ maxLen)
    (k : ∀ v w', Fr No w w' → Own w' w.heap.size e 1 v (bytesOf s).length (b8s (bytesOf s)) → K v w') : XW P Q N D ρ w (.convert t t' x) ty K := by
  have hle : s.size ≤ maxLen := by simpa [bytesOf] using hm
  have hge := grownCap_ge w s.size 0 e
  have hcm := grownCap_le_maxLen w s.size 0 e hle
  have hl : (bytesOf s).length = s.size := by simp [bytesOf]
  let cs : List Value := b8s (bytesOf s) ++ List.replicate (grownCap w s.size 0 e - s.size) (.int .u8 0)
  have hcl : cs.length = grownCap w s.size 0 e := by simp [cs, b8s_length, hl]; omega
  let w1 := (w.drew.alloc (.cells cs.toArray e)).freeze { block := w.heap.size, off := cs.length } 1
  have hb1 : (w.drew.alloc (.cells cs.toArray e)).heap[w.heap.size]? = some (.cells cs.toArray e (0, 0)) := heap_alloc_new w.drew _
  have hblk : Blk w1 w.heap.size e cs := ⟨(cs.length, cs.length + 1), freeze_at hb1, fun i hi => by simp; omega, Nat.le_succ _⟩
  have hfr : Fr No w w1 := ((Fr.drew w).trans0 (Fr.alloc w.drew (.cells cs.toArray e))).new (freeze_fr _ w.heap.size cs.length) (fun i hi => Nat.le_of_eq hi.symm)
  refine xw_of_run (v' := .slice (some ⟨w.heap.size, 0, none⟩) s.size (grownCap w s.size 0 e)) (w' := w1) (fun a _ _ _ _ ha => ?_) (k _ _ hfr ?_)
  · have e2 : s.data.map (fun b => Value.int .u8 (b.toNat : Int)) ++ Array.replicate (grownCap w s.size 0 e - s.size) (Value.int .u8 0) = cs.toArray := by
      apply Array.ext'
      simp [cs, b8s, bytesOf, B8]
    have e3 : (w.drew.alloc (.cells cs.toArray e)).shape? w.heap.size = some (e, cs.length) := by simp only [World.shape?, hb1]; simp
    have e4 : (Conv.stringToBytes e s).run P w = .ok (.slice (some ⟨w.heap.size, 0, none⟩) s.size (grownCap w s.size 0 e)) w1 := by
      simp only [grownCap] at e2
      simp [Conv.stringToBytes, choose, Sem.run, Question.forced, newRow, markStringish, shape, freeze, e2, grownCap]
      rw [e3]
      rfl
    cases td <;> simp [execOp, ha.eval hx, convert, run_underlying ht, run_underlying ht', run_underlying he, e4]
  · have := Own.made (base := w.heap.size) (e := e) (sz := 1) (n := s.size) (cap := grownCap w s.size 0 e) hblk (Nat.le_refl _) hge hcm (by omega)
    rw [hl]
    have e1 : cs.take (s.size * 1) = b8s (bytesOf s) := by
      rw [Nat.mul_one, ← hl, ← b8s_length]; exact List.take_left
    rw [e1] at this
    exact this
end
section
variable {P : Program} {Q : Exit → Act → World → Prop} {N : Nat} {D : List Deferred} {ρ : Env} {w : World} {x y : Operand} {ty t e : TypeId} {v : Value} {K : Value → World → Prop}
theorem set_window {cur : List Value} {o m j : Nat} {v : Value} (hj : j < m) : ((cur.set (o + j) v).drop o).take m = ((cur.drop o).take m).set j v := by
  rw [List.drop_set, if_neg (by omega), List.take_set]
  congr 1
  omega
/-- a store into a slice that is one's own -/
theorem x_stO {A : Option Addr} {n c base sz j : Nat} {xs : List Value} (hx : ev ρ x = some (.pointer (some ((A.getD d0).add j)))) (hy : ev ρ y = some v) (hs : szB P t = some 1) (hv : v.oneCell' = true) (h : Own w base e sz (.slice A n c) n xs) (hj : j < n * sz)
    (k : ∀ w', Fr (vblk (.slice A n c)) w w' → Own w' base e sz (.slice A n c) n (xs.set j v) → w'.heap.size = w.heap.size → K undef w') : XW P Q N D ρ w (.store t x y) ty K := by
  rcases h with ⟨hl, ⟨h1, rfl⟩ | ⟨g, o, cap, cur, h1, hb, hg, hn, hm, hc, hxs⟩⟩
  · omega
  · injection h1 with h1 h2 h3
    subst h1; subst h3
    have hle : n * sz ≤ c * sz := Nat.mul_le_mul_right _ hn
    refine x_st1 (g := g) (o := o + j) (by rw [hx, Option.getD_some, addr_add]) hy hs hv hg (by omega) fun w' hf hb' hsz => k w' ?_ ⟨by simpa using hl, .inr ⟨g, o, c, _, rfl, hb, hb', hn, hm, by simpa using hc, ?_⟩⟩ hsz
    · exact hf.mono fun i _ hi => hi
    · rw [set_window hj, hxs]
end
theorem Blk.cells0 {w : World} {g : Nat} {t : TypeId} {cs : List Value} (h : Blk w g t cs) : ∀ (j : Nat) (u : Value), cs[j]? = Option.some u → w.cell? ((⟨g, 0, Option.none⟩ : Addr).add j) = Option.some u :=
  fun j u hu => h.cell_add (by simpa using hu)
theorem x_st1a {P : Program} {Q : Exit → Act → World → Prop} {N : Nat} {D : List Deferred} {ρ : Env} {w : World} {x y : Operand} {ty t : TypeId} {v : Value} {K : Value → World → Prop} {g o j : Nat} {bt : TypeId} {cs : List Value} (hx : ev ρ x = some (.pointer (some ((⟨g, o, none⟩ : Addr).add j)))) (hy : ev ρ y = some v) (hs : szB P t = some 1) (hv : v.oneCell' = true) (hb : Blk w g bt cs) (ho : o + j < cs.length)
    (k : ∀ w', Fr (fun i => i = g) w w' → Blk w' g bt (cs.set (o + j) v) → w'.heap.size = w.heap.size → K undef w') : XW P Q N D ρ w (.store t x y) ty K :=
  x_st1 (by rw [hx, addr_add]) hy hs hv hb ho k
theorem cells_agg (cs : List Value) : (Value.agg cs.toArray).cells.toList = cs := rfl
end Go.Eng
end
section
/- The engine, sixth part: interfaces. No statement is proved here. -/
set_option linter.unusedVariables false
set_option linter.unusedSimpArgs false
namespace Go.Eng
open Go.RowKit
section
variable {P : Program} {Q : Exit → Act → World → Prop} {N : Nat} {D : List Deferred} {ρ : Env} {w : World} {x y : Operand} {ty t t' tx : TypeId} {v : Value} {K : Value → World → Prop}
theorem splice_all {cs vs : List Value} (h : vs.length = cs.length) : splice cs 0 vs = vs := by
  simp [splice, h]
/-- a store of all of an array of bytes -/
theorem x_stD {g n : Nat} {bt : TypeId} {cs : List Value} {l : List UInt8} (hx : ev ρ x = some (.pointer (some ⟨g, 0, none⟩))) (hy : ev ρ y = some (.agg (b8s l).toArray)) (hs : szB P t = some n) (hl : l.length = n) (hb : Blk w g bt cs) (hcl : cs.length = n)
    (k : ∀ w', Fr (fun i => i = g) w w' → Blk w' g bt (b8s l) → w'.heap.size = w.heap.size → K undef w') : XW P Q N D ρ w (.store t x y) ty K := by
  refine x_stN hx hy hs (by rw [b8s_length, hl]) (fun v hv => ?_) hb (by omega) fun w' hf hb' hsz => k w' hf ?_ hsz
  · simp only [b8s, List.mem_map] at hv
    obtain ⟨u, _, rfl⟩ := hv
    rfl
  · rwa [splice_all (by rw [b8s_length]; omega)] at hb'
end
end Go.Eng
end
section
/- The engine, seventh part: nil slices, empty slices, words of 32 bits, parts of blocks, rows of arrays of bytes. No statement is proved here. -/
set_option linter.unusedVariables false
set_option linter.unusedSimpArgs false
namespace Go.Eng
open Go.RowKit
theorem w32 {r : Int} (h1 : 0 ≤ r) (h2 : r < 4294967296) : IntKind.u32.wrap r = r := by
  simp [IntKind.wrap, IntKind.signed, IntKind.bits]
  omega
section
variable {P : Program} {Q : Exit → Act → World → Prop} {N : Nat} {D : List Deferred} {ρ : Env} {w : World} {x y : Operand} {ty t t' e : TypeId} {v : Value} {K : Value → World → Prop}
theorem y_eqSn {A : Option Addr} {n c n' c' : Nat} (hx : ev ρ x = some (.slice A n c)) (hy : ev ρ y = some (.slice none n' c')) (ht : P.underlying t = some (.slice e)) : Yl P N D ρ w (.binOp .eql t x y t') ty (.bool A.isNone) := fun _ _ _ _ _ ha => by
  simp only [execOp, ha.eval hx, ha.eval hy]
  simp [eqGuard, Lib.run_eql_slice_nil w t e A n c n' c' ht]
theorem y_inv32 {m : Nat} (hx : ev ρ x = some (.int .u32 (m : Int))) (h : m < 4294967296) : Yl P N D ρ w (.unOp .xor t x) ty (.int .u32 ((4294967295 ^^^ m : Nat) : Int)) := fun _ _ _ _ _ ha => by
  have h1 := u32_xor_nat 4294967295 m (by decide) h
  simp only [bits] at h1
  simp [execOp, ha.eval hx, Op.unary, Op.intBits, IntKind.signed, IntKind.max, IntKind.bits] at h1 ⊢
  exact h1
/-- an empty slice that is not nil -/
theorem x_bsl0 {z : Value} {sz bytes : Nat} (ht : P.underlying t = some (.slice e)) (hT : TI P e z sz bytes)
    (k : ∀ g w', w.heap.size ≤ g → Fr No w w' → Blk w' g e [] → K (.slice (some ⟨g, 0, none⟩) 0 0) w') : XW P Q N D ρ w (.buildSlice t 0 #[]) ty K := by
  obtain ⟨ie, hi', hzero, hsize, _⟩ := hT.get
  refine xw_of_run (w' := w.alloc (.cells #[] e)) (fun a _ _ _ _ ha => ?_) (k _ _ (Nat.le_refl _) (Fr.alloc w _) (Blk.new w e []))
  simp [execOp, Instr.buildSlice, Instr.fill, run_underlying ht, sizeOf, typeInfo, hi', newRow]
  congr 2
  apply Array.ext'
  simp
end
theorem Own.made0 {w : World} {base g : Nat} {e : TypeId} {sz : Nat} (h : Blk w g e []) (hb : base ≤ g) : Own w base e sz (.slice (some ⟨g, 0, none⟩) 0 0) 0 [] :=
  ⟨by simp, .inr ⟨g, 0, 0, [], rfl, hb, h, Nat.le_refl _, by decide, by simp, by simp⟩⟩
/-- a part of a block -/
theorem Blk.part {w : World} {g : Nat} {t : TypeId} {cs : List Value} (h : Blk w g t cs) (o : Nat) {vs : List Value} (hv : ∀ j u, vs[j]? = Option.some u → cs[o + j]? = Option.some u) : ∀ (j : Nat) (u : Value), vs[j]? = Option.some u → w.cell? (((⟨g, 0, Option.none⟩ : Addr).add o).add j) = Option.some u := by
  intro j u hu
  rw [add_add]
  exact h.cell_add (by rw [Nat.zero_add]; exact hv j u hu)
theorem b8s_oneCell {l : List UInt8} : ∀ u ∈ b8s l, u.oneCell' = true := by
  intro u hu
  simp only [b8s, List.mem_map] at hu
  obtain ⟨_, _, rfl⟩ := hu
  rfl
/-! a struct of 32 bytes and one more -/
theorem j_one {img : List UInt8} {s : Value} (hs : s.oneCell' = true) : ∀ u ∈ b8s img ++ [s], u.oneCell' = true := by
  intro u hu
  rcases List.mem_append.1 hu with h | h
  · exact b8s_oneCell u h
  · have : u = s := by simpa using h
    rw [this]; exact hs
theorem j_set {img : List UInt8} {s v : Value} (hi : img.length = 32) : (b8s img ++ [s]).set 32 v = b8s img ++ [v] := by
  rw [List.set_append, if_neg (by rw [b8s_length, hi]; omega), b8s_length, hi]
  rfl
end Go.Eng
end
section
/- The engine, eighth part: a statement whose order is open, walked in one order, where what is known of the worlds changes as the statement goes on. No statement is proved here. -/
set_option linter.unusedVariables false
set_option linter.unusedSimpArgs false
namespace Go.Eng
open Go.RowKit
section
variable {P : Program} {ops : Array Oper} {Q : Exit → Act → World → Prop}
/-- whatever comes up next: S tells of the world, by what is done then -/
def wpG (P : Program) (ops : Array Oper) (Q : Exit → Act → World → Prop) (S : Array Bool → World → Prop) : Nat → Array Bool → Act → World → Prop
  | 0, l, a, w => Region.ready .any ops l = [] ∧ Q .normal a w
  | n + 1, l, a, w => (Region.ready .any ops l = [] → Q .normal a w) ∧
    ∀ i ∈ Region.ready .any ops l, wpOp P ops Q i (fun a' w' => S (l.setIfInBounds i true) w' ∧ wpG P ops Q S n (l.setIfInBounds i true) a' w') a w
theorem wpAny_of_wpG {S : Array Bool → World → Prop} : ∀ (n : Nat) (l : Array Bool) (a : Act) (w : World), wpG P ops Q S n l a w → wpAny P .any ops Q n l a w
  | 0, _, _, _, h => h
  | n + 1, l, _, _, h => ⟨h.1, fun i hi => wpOp_mono (fun a' w' h' => wpAny_of_wpG n _ a' w' h'.2) (h.2 i hi)⟩
/-- what is done had all done that it waits for -/
def Kept (ops : Array Oper) (l : Array Bool) : Prop := ∀ j, l.getD j false = true → ∀ o, ops[j]? = some o → ∀ e ∈ o.after, Region.binds .any e = true → l.getD e.on false = true
theorem Kept.set {l : Array Bool} (h : Kept ops l) {j : Nat} (hj : j ∈ Region.ready .any ops l) : Kept ops (l.setIfInBounds j true) := by
  intro k hk o ho e he hb
  by_cases hjk : j = k
  · subst hjk
    obtain ⟨_, o', ho', hall⟩ := mem_ready.1 hj
    rw [ho] at ho'
    cases ho'
    exact getD_set_true (hall e he hb)
  · rw [getD_set_ne false hjk] at hk
    exact getD_set_true (h k hk o ho e he hb)
theorem unlisted_false {l : Array Bool} {i : Nat} (h : l.getD i true = false) : l.getD i false = false := by
  rcases Nat.lt_or_ge i l.size with h' | h'
  · simp [h'] at h ⊢; exact h
  · simp [Array.getElem?_eq_none h'] at h
theorem wpG_first {S : Array Bool → World → Prop} {i : Nat} {oi : Oper} {v : Value} (hi : ops[i]? = some oi) (hsel : ∀ (j : Nat) (o : Oper) cs b, ops[j]? = some o → o.op ≠ .select cs b)
    (hQ : ∀ c a w, Q (.panic c) (a.put oi.dst v) w → Q (.panic c) a w) (R : Array Bool → Prop) (hR : ∀ l j, R l → j ∈ Region.ready .any ops l → R (l.setIfInBounds j true)) (hS : ∀ l w, S (l.setIfInBounds i true) w ↔ S l w) :
    ∀ (n : Nat) (l : Array Bool) (a : Act) (w : World),
      (∀ j oj, ops[j]? = some oj → j ≠ i → l.getD j true = false → (∀ e ∈ oj.after, Region.binds .any e = true → e.on ≠ i) → oi.apart ops oj = true) →
      i ∈ Region.ready .any ops l → YieldsIf P ops (fun w => ∃ l', R l' ∧ l'.getD i true = false ∧ S l' w) oi v a → R l → S l w →
      wpG P ops Q S n (l.setIfInBounds i true) (a.put oi.dst v) w → wpG P ops Q S (n + 1) l a w := by
  intro n
  induction n with
  | zero =>
    intro l a w _ hr hy hRl hSl H
    refine ⟨fun h => (by rw [h] at hr; cases hr), fun j hj => ?_⟩
    by_cases hji : j = i
    · subst hji
      exact hy.wpOp hi ⟨l, hRl, (mem_ready.1 hr).1, hSl⟩ ⟨(hS l w).2 hSl, H⟩
    · have := ready_mono hj hji
      rw [H.1] at this
      cases this
  | succ n ih =>
    intro l a w hfree hr hy hRl hSl H
    refine ⟨fun h => (by rw [h] at hr; cases hr), fun j hj => ?_⟩
    by_cases hji : j = i
    · subst hji
      exact hy.wpOp hi ⟨l, hRl, (mem_ready.1 hr).1, hSl⟩ ⟨(hS l w).2 hSl, H⟩
    · have h1 := H.2 j (ready_mono hj hji)
      obtain ⟨hjun, oj, hoj, hall⟩ := mem_ready.1 hj
      have hiun := unlisted_false (mem_ready.1 hr).1
      have hnot : ∀ e ∈ oj.after, Region.binds .any e = true → e.on ≠ i := fun e he hb heq => by
        have h1 := hall e he hb
        rw [heq, hiun] at h1
        cases h1
      have h2 := wpOp_putIf hoj (hfree j oj hoj hji hjun hnot) (fun cs b => hsel i oi cs b hi) (fun cs b => hsel j oj cs b hoj) hQ hy h1
      have hfree' : ∀ k ok, ops[k]? = some ok → k ≠ i → (l.setIfInBounds j true).getD k true = false →
          (∀ e ∈ ok.after, Region.binds .any e = true → e.on ≠ i) → oi.apart ops ok = true := fun k ok hk hki hun hno => by
        refine hfree k ok hk hki ?_ hno
        by_cases hjk : j = k
        · subst hjk; exact hjun
        · rw [getD_set_ne true hjk] at hun; exact hun
      refine wpOp_mono (fun a' w' h3 => ?_) h2
      have h4 := h3.2.1
      have h5 := h3.2.2
      rw [Array.setIfInBounds_comm _ _ (Ne.symm hji)] at h4 h5
      have h6 := (hS _ _).1 h4
      exact ⟨h6, ih (l.setIfInBounds j true) a' w' hfree' (ready_mono hr (Ne.symm hji)) h3.1 (hR l j hRl hj) h6 h5⟩
def cnt (X : List Nat) (l : Array Bool) : Nat := X.countP fun x => l.getD x false
theorem cnt_ne {X : List Nat} {i : Nat} (h : X.contains i = false) (l : Array Bool) : cnt X (l.setIfInBounds i true) = cnt X l := by
  unfold cnt
  apply List.countP_congr
  intro x hx
  have : i ≠ x := by
    rintro rfl
    have : X.contains i = true := by simpa using hx
    rw [h] at this
    cases this
  rw [getD_set_ne false this]
theorem cnt_set {X : List Nat} {i : Nat} {l : Array Bool} (h : l.getD i true = false) : cnt X (l.setIfInBounds i true) = cnt X l + X.count i := by
  have hi := unlisted_false h
  have hlt : i < l.size := by
    rcases Nat.lt_or_ge i l.size with h' | h'
    · exact h'
    · simp [Array.getElem?_eq_none h'] at h
  have hs : (l.setIfInBounds i true).getD i false = true := by simp [hlt]
  induction X with
  | nil => rfl
  | cons x r ih =>
    unfold cnt at ih ⊢
    rw [List.countP_cons, List.countP_cons, List.count_cons, ih]
    by_cases hx : i = x
    · subst hx
      simp only [hs, hi, beq_self_eq_true, if_true]
      simp
      omega
    · rw [getD_set_ne false hx]
      have : (x == i) = false := by simp [Ne.symm hx]
      simp only [this]
      simp
      omega
theorem cnt_mono {X : List Nat} {l l' : Array Bool} (h : ∀ q, l.getD q false = true → l'.getD q false = true) : cnt X l ≤ cnt X l' :=
  List.countP_mono_left fun x _ hx => h x hx
/-- number j waits for number i -/
def needs (ops : Array Oper) (i : Nat) : Nat → Nat → Bool
  | 0, _ => false
  | n + 1, j => match ops[j]? with
    | some o => o.after.any fun e => Region.binds .any e && (e.on == i || needs ops i n e.on)
    | none => false
theorem needs_spec {l : Array Bool} (h : Kept ops l) {i : Nat} (hi : l.getD i true = false) : ∀ (n j : Nat), needs ops i n j = true → l.getD j false = false
  | 0, j, hn => by cases hn
  | n + 1, j, hn => by
    unfold needs at hn
    cases ho : ops[j]? with
    | none => rw [ho] at hn; cases hn
    | some o =>
      rw [ho] at hn
      obtain ⟨e, he, hb⟩ := Array.any_eq_true'.1 hn
      simp only [Bool.and_eq_true, Bool.or_eq_true, beq_iff_eq] at hb
      cases hj : l.getD j false with
      | false => rfl
      | true =>
        have := h j hj o ho e he hb.1
        rcases hb.2 with h1 | h1
        · rw [h1, unlisted_false hi] at this; cases this
        · rw [needs_spec h hi n _ h1] at this; cases this
theorem cnt_cap {X : List Nat} {l : Array Bool} (h : Kept ops l) {i m n : Nat} (hi : l.getD i true = false) (hx : (X.drop m).all (needs ops i n) = true) : cnt X l ≤ m := by
  have e : cnt X l = cnt (X.take m) l + cnt (X.drop m) l := by
    unfold cnt
    rw [← List.countP_append, List.take_append_drop]
  have e2 : cnt (X.drop m) l = 0 := by
    unfold cnt
    rw [List.countP_eq_zero]
    intro x hx'
    have := List.all_eq_true.1 hx x hx'
    rw [needs_spec h hi n x this]
    simp
  have e3 : cnt (X.take m) l ≤ m := by
    unfold cnt
    exact Nat.le_trans List.countP_le_length (by rw [List.length_take]; omega)
  omega
/-- the order L may be taken -/
def seqOkG (ops : Array Oper) (X : List Nat) : List (Nat × Option Nat) → Array Bool → Bool
  | [], l => (Region.ready .any ops l).isEmpty
  | (i, none) :: r, l => (Region.ready .any ops l == [i]) && X.count i == 1 && seqOkG ops X r (l.setIfInBounds i true)
  | (i, some m) :: r, l => Region.free .any ops l i && (Region.ready .any ops l).contains i && !X.contains i && (X.drop m).all (needs ops i 4) && seqOkG ops X r (l.setIfInBounds i true)
def pickG (ops : Array Oper) : List (Nat × Option Nat) → Option (List (Option Nat × Oper))
  | [] => some []
  | (i, x) :: r => match ops[i]?, pickG ops r with
    | some o, some l => some ((x, o) :: l)
    | _, _ => none
/-- T k: what is known of the world when k of those that may change it are done -/
def wpSeqG (P : Program) (ops : Array Oper) (Q : Exit → Act → World → Prop) (T : Nat → World → Prop) : Nat → List (Option Nat × Oper) → Act → World → Prop
  | _, [], a, w => Q .normal a w
  | k, (none, o) :: r, a, w => if Region.wanted o (yielded ops a.tmps) = true then o.wp P a w (fun a' w' => T (k + 1) w' ∧ wpSeqG P ops Q T (k + 1) r a' w') Q else T (k + 1) w ∧ wpSeqG P ops Q T (k + 1) r (a.put o.dst undef) w
  | k, (some m, o) :: r, a, w => ∃ v, YieldsIf P ops (fun w' => ∃ k', k ≤ k' ∧ k' ≤ m ∧ T k' w') o v a ∧ wpSeqG P ops Q T k r (a.put o.dst v) w
theorem wpG_of_seq {T : Nat → World → Prop} {X : List Nat} (hs : Region.noSelect ops = true) (hQ : ∀ c a d v w, Q (.panic c) (a.put d v) w → Q (.panic c) a w) : ∀ (L : List (Nat × Option Nat)) (sq : List (Option Nat × Oper)) (l : Array Bool) (a : Act) (w : World) (n k : Nat),
    pickG ops L = some sq → seqOkG ops X L l = true → L.length ≤ n → Kept ops l → cnt X l = k → T k w → wpSeqG P ops Q T k sq a w → wpG P ops Q (fun l w => T (cnt X l) w) n l a w
  | [], sq, l, a, w, n, k, hp, hk, _, _, _, _, h => by
    simp only [pickG, Option.some.injEq] at hp
    subst hp
    have hr : Region.ready .any ops l = [] := by simpa [seqOkG] using hk
    cases n with
    | zero => exact ⟨hr, h⟩
    | succ n => exact ⟨fun _ => h, by rw [hr]; simp⟩
  | (i, x) :: r, sq, l, a, w, 0, k, hp, hk, hf, _, _, _, h => by simp at hf
  | (i, x) :: r, sq, l, a, w, n + 1, k, hp, hk, hf, hK, hc, hT, h => by
    unfold pickG at hp
    split at hp
    · rename_i o l' ho hl'
      cases hp
      have hf' : r.length ≤ n := by simp at hf; omega
      cases x with
      | none =>
        simp only [seqOkG, Bool.and_eq_true, beq_iff_eq] at hk
        obtain ⟨⟨hrd, hct⟩, hk⟩ := hk
        have hmem : i ∈ Region.ready .any ops l := by rw [hrd]; simp
        have hcs : cnt X (l.setIfInBounds i true) = k + 1 := by rw [cnt_set (mem_ready.1 hmem).1, hct, hc]
        have hK' := hK.set hmem
        refine ⟨fun h0 => (by rw [h0] at hmem; cases hmem), fun j hj => ?_⟩
        have hji : j = i := by rw [hrd] at hj; simpa using hj
        subst hji
        unfold wpOp
        simp only [ho]
        simp only [wpSeqG] at h
        split at h
        · rename_i hw
          rw [if_pos hw]
          refine .inl (Oper.wp_mono ?_ h)
          rintro a' w' ⟨hS', h'⟩
          exact ⟨by rw [hcs]; exact hS', wpG_of_seq hs hQ r l' _ a' w' n (k + 1) hl' hk hf' hK' hcs hS' h'⟩
        · rename_i hw
          rw [if_neg hw]
          exact ⟨by rw [hcs]; exact h.1, wpG_of_seq hs hQ r l' _ _ w n (k + 1) hl' hk hf' hK' hcs h.1 h.2⟩
      | some m =>
        simp only [seqOkG, Bool.and_eq_true, Bool.not_eq_true'] at hk
        obtain ⟨⟨⟨⟨hfree, hcon⟩, hX⟩, hcap⟩, hk⟩ := hk
        obtain ⟨v, hy, h'⟩ := h
        have hmem : i ∈ Region.ready .any ops l := by simpa using hcon
        have hcs : cnt X (l.setIfInBounds i true) = k := by rw [cnt_ne hX, hc]
        refine wpG_first ho (Region.noSelect_spec hs) (fun c a w => hQ c a _ _ w) (fun l' => Kept ops l' ∧ ∀ q, l.getD q false = true → l'.getD q false = true) (fun l' j hR hj => ⟨hR.1.set hj, fun q hq => getD_set_true (hR.2 q hq)⟩)
          (fun l' w' => by rw [cnt_ne hX]) n l a w (Region.free_spec ho hfree) hmem ?_ ⟨hK, fun q hq => hq⟩ (by rw [hc]; exact hT) (wpG_of_seq hs hQ r l' _ _ w n k hl' hk hf' (hK.set hmem) hcs hT h')
        rcases hy with ⟨hw, hv⟩ | hy
        · refine .inl ⟨hw, fun w' hw' => hv w' ?_⟩
          obtain ⟨l2, ⟨hK2, hsub⟩, hun, hT2⟩ := hw'
          exact ⟨cnt X l2, by rw [← hc]; exact cnt_mono hsub, cnt_cap hK2 hun hcap, hT2⟩
        · exact .inr hy
    · cases hp
theorem wp_region_seqG {T : Nat → World → Prop} {X : List Nat} {id : Nat} {a : Act} {w : World} {sq : List (Option Nat × Oper)} (L : List (Nat × Option Nat)) (hm : P.follows .mixedOrders = true) (hs : Region.noSelect ops = true) (hk : seqOkG ops X L (Array.replicate ops.size false) = true) (hn : L.length ≤ ops.size)
    (hp : pickG ops L = some sq) (hT : T 0 w.drew) (h : wpSeqG P ops (NoPan Q) T 0 sq a w.drew) : (Code.region id ops true).wp P Q a w := by
  refine Code.wp_mono (Q := NoPan Q) (fun e a w q => by cases e <;> first | exact q | exact q.elim) ?_
  refine wp_region_any hm (wpAny_of_wpG _ _ _ _ (wpG_of_seq (X := X) hs (fun c a d v w q => q.elim) L sq _ a _ _ 0 hp hk hn ?_ ?_ hT h))
  · intro j hj
    simp [Array.getElem?_replicate] at hj
    split at hj <;> cases hj
  · unfold cnt
    rw [List.countP_eq_zero]
    intro x _
    simp [Array.getElem?_replicate]
    split <;> rfl
end
def WT (P : Program) (ops : Array Oper) (Q : Exit → Act → World → Prop) (T : Nat → World → Prop) (N : Nat) (D : List Deferred) (k : Nat) (l : List (Option Nat × Oper)) (ρ : Env) (w : World) : Prop :=
  ∀ a, Ag N D ρ a → wpSeqG P ops Q T k l a w
section
variable {P : Program} {ops : Array Oper} {Q : Exit → Act → World → Prop} {T : Nat → World → Prop} {N : Nat} {D : List Deferred} {ρ ρ' : Env} {w : World} {rest : List (Option Nat × Oper)}
  {op : Op} {ty : TypeId} {pos : String} {af : Array Edge} {d k m : Nat} {v : Value}
theorem cdrwT {id : Nat} {l : List (Option Nat × Oper)} (X : List Nat) (L : List (Nat × Option Nat)) (hm : P.follows .mixedOrders = true) (hk : (Region.noSelect ops && seqOkG ops X L (Array.replicate ops.size false) && decide (L.length ≤ ops.size)) = true)
    (hp : pickG ops L = some l) (T : Nat → World → Prop) (hT : T 0 w.drew) (h : ∀ w', Fr No w w' → T 0 w' → WT P ops (NoPan Q) T N D 0 l ρ w') : WC P Q N D (.region id ops true) ρ w := by
  intro a ha
  simp only [Bool.and_eq_true, decide_eq_true_eq] at hk
  exact wp_region_seqG (X := X) L hm hk.1.1 hk.1.2 hk.2 hp hT (h _ (Fr.drew w) hT a ha)
theorem tq (h : ∀ k' w', k ≤ k' → k' ≤ m → T k' w' → Yl P N D ρ w' op ty v) (kk : WT P ops Q T N D k rest ((d, v) :: ρ) w) (hd : d < N := by decide) : WT P ops Q T N D k ((some m, ⟨some d, op, ty, pos, af, none⟩) :: rest) ρ w := by
  intro a ha
  refine ⟨v, .inl ⟨by simp [Region.wanted], fun w' hS => ?_⟩, kk _ (ha.put hd)⟩
  obtain ⟨k', h1, h2, h3⟩ := hS
  exact h k' w' h1 h2 h3 a _ pos af none ha
theorem tqg {g gd : Nat} {want : Bool} {o : Oper} (ho : ops[g]? = some o) (hod : o.dst = some gd) (hb : get ρ gd = some (.bool want)) (h : ∀ k' w', k ≤ k' → k' ≤ m → T k' w' → Yl P N D ρ w' op ty v) (kk : WT P ops Q T N D k rest ((d, v) :: ρ) w) (hd : d < N := by decide) :
    WT P ops Q T N D k ((some m, ⟨some d, op, ty, pos, af, some (g, want)⟩) :: rest) ρ w := by
  intro a ha
  refine ⟨v, .inl ⟨by simp [Region.wanted, yielded, ho, hod, ha.gt _ _ hb], fun w' hS => ?_⟩, kk _ (ha.put hd)⟩
  obtain ⟨k', h1, h2, h3⟩ := hS
  exact h k' w' h1 h2 h3 a _ pos af _ ha
theorem tx (h : XW P Q N D ρ w op ty (fun v w' => T (k + 1) w' ∧ WT P ops Q T N D (k + 1) rest ((d, v) :: ρ) w')) (hd : d < N := by decide) : WT P ops Q T N D k ((none, ⟨some d, op, ty, pos, af, none⟩) :: rest) ρ w := by
  intro a ha
  unfold wpSeqG
  rw [if_pos (by simp [Region.wanted])]
  refine Oper.wp_mono ?_ (h a (some d) pos af none ha)
  rintro a' w' ⟨v, rfl, hS, hk⟩
  exact ⟨hS, hk _ (ha.put hd)⟩
theorem tx0 (h : XW P Q N D ρ w op ty (fun _ w' => T (k + 1) w' ∧ WT P ops Q T N D (k + 1) rest ρ w')) : WT P ops Q T N D k ((none, ⟨none, op, ty, pos, af, none⟩) :: rest) ρ w := by
  intro a ha
  unfold wpSeqG
  rw [if_pos (by simp [Region.wanted])]
  refine Oper.wp_mono ?_ (h a none pos af none ha)
  rintro a' w' ⟨v, rfl, hS, hk⟩
  exact ⟨hS, hk _ ha⟩
/-- a yield that comes alone -/
theorem tsolo (hS : T (k + 1) w) (h : Yl P N D ρ w op ty v) (kk : WT P ops Q T N D (k + 1) rest ((d, v) :: ρ) w) (hd : d < N := by decide) : WT P ops Q T N D k ((none, ⟨some d, op, ty, pos, af, none⟩) :: rest) ρ w := by
  intro a ha
  unfold wpSeqG
  rw [if_pos (by simp [Region.wanted])]
  unfold Oper.wp
  rw [h a _ pos af none ha]
  exact ⟨hS, kk _ (ha.put hd)⟩
theorem tsplit {p : Prop} [Decidable p] {l : List (Option Nat × Oper)} (gd : Nat) (hg : get ρ gd = some (.bool (decide p))) (ht : p → WT P ops Q T N D k l ((gd, .bool true) :: ρ) w) (hf : ¬ p → WT P ops Q T N D k l ((gd, .bool false) :: ρ) w) : WT P ops Q T N D k l ρ w := by
  intro a ha
  by_cases h : p
  · exact ht h a (ha.more (by rw [hg]; simp [h]))
  · exact hf h a (ha.more (by rw [hg]; simp [h]))
theorem tend (h : WQ Q N D .normal ρ w) : WT P ops (NoPan Q) T N D k [] ρ w := fun a ha => h a ha
/-- not wanted: a yield, or one that would change the world -/
theorem tskip {g gd : Nat} {want b : Bool} {o : Oper} (ho : ops[g]? = some o) (hod : o.dst = some gd) (hb : get ρ gd = some (.bool b)) (hne : b ≠ want) (kk : WT P ops Q T N D k rest ((d, undef) :: ρ) w) (hd : d < N := by decide) :
    WT P ops Q T N D k ((some m, ⟨some d, op, ty, pos, af, some (g, want)⟩) :: rest) ρ w := by
  intro a ha
  have hw : Region.wanted (⟨some d, op, ty, pos, af, some (g, want)⟩ : Oper) (yielded ops a.tmps) = false := by
    simp [Region.wanted, yielded, ho, hod, ha.gt _ _ hb, hne]
  exact ⟨undef, .inr ⟨hw, rfl⟩, kk _ (ha.put hd)⟩
end
end Go.Eng
end
section
/- The engine, ninth part: bytes to bytes; a row of zeros put behind; copies. No statement is proved here. -/
set_option linter.unusedVariables false
set_option linter.unusedSimpArgs false
namespace Go.Eng
open Go.RowKit
theorem Blk.freeze {w : World} {g : Nat} {t : TypeId} {cs : List Value} (h : Blk w g t cs) : Blk (w.freeze ⟨g, cs.length, none⟩ 1) g t cs := by
  obtain ⟨f, h, hf⟩ := h
  have e1 : w.freeze ⟨g, cs.length, none⟩ 1 = { w with heap := w.heap.modify g fun | .cells c elem (lo, hi) => .cells c elem (if lo == hi then (cs.length, cs.length + 1) else (min lo cs.length, max hi (cs.length + 1))) | o => o } := rfl
  obtain ⟨lo, hi⟩ := f
  by_cases hlh : lo = hi
  · refine ⟨(cs.length, cs.length + 1), ?_, fun i hi => by simp; omega, Nat.le_succ _⟩
    rw [e1]
    simp only [Array.getElem?_modify, if_true, h, Option.map_some]
    simp [hlh]
  · refine ⟨(min lo cs.length, max hi (cs.length + 1)), ?_, fun i hi' => ?_, by simp; omega⟩
    · rw [e1]
      simp only [Array.getElem?_modify, if_true, h, Option.map_some]
      simp [hlh]
    · have hle : lo ≤ hi := hf.2
      have : cs.length ≤ lo := by
        rcases Nat.lt_or_ge lo cs.length with h1 | h1
        · have := hf.1 lo h1
          simp at this
          omega
        · exact h1
      simp
      omega
section
variable {P : Program} {Q : Exit → Act → World → Prop} {N : Nat} {D : List Deferred} {ρ : Env} {w : World} {x y : Operand} {ty t t' e : TypeId} {v : Value} {K : Value → World → Prop}
end
end Go.Eng
end
section
/- The engine, tenth part: copy; append of zeros; a literal's block as it is. No statement is proved here. -/
set_option linter.unusedVariables false
set_option linter.unusedSimpArgs false
namespace Go.Eng
open Go.RowKit
section
variable {P : Program} {Q : Exit → Act → World → Prop} {N : Nat} {D : List Deferred} {ρ : Env} {w : World} {x y : Operand} {ty t t' e : TypeId} {v : Value} {K : Value → World → Prop}
theorem x_copy {A : Option Addr} {g o sz m c dLen dCap k : Nat} {bt : TypeId} {cur news : List Value} (hx : ev ρ x = some (.slice (some ⟨g, o, none⟩) dLen dCap)) (hy : ev ρ y = some (.slice A m c)) (ht : P.underlying t = some (.slice e)) (hs : szB P e = some sz)
    (hr : Rd w sz A k news) (hk : k = min m dLen) (hb : Blk w g bt cur) (hfit : o + k * sz ≤ cur.length) (h1 : ∀ u ∈ news, u.oneCell' = true)
    (kk : ∀ w', Fr (fun i => i = g) w w' → Blk w' g bt (splice cur o news) → w'.heap.size = w.heap.size → K (.int .i64 (k : Nat)) w') : XW P Q N D ρ w (.call ⟨.builtin .copy, #[x, y], #[t, t']⟩) ty K := by
  have hl := hr.1
  obtain ⟨w', hst, hb', hf, hsz⟩ := run_stores (P := P) news o 0 cur w hb (by omega) h1
  refine xw_of_run (v' := .int .i64 (k : Nat)) (w' := w') (fun a _ _ _ _ ha => ?_) (kk w' hf (by simpa using hb') hsz)
  have hfc : (Builtin.firstCells sz k (.slice A m c)).run P w = .ok news.toArray w := by
    cases A with
    | none =>
      have h0 : k = 0 := by
        rcases Nat.eq_zero_or_pos k with h | h
        · exact h
        · exact absurd rfl (hr.2.1 h)
      subst h0
      obtain rfl : news = [] := List.eq_nil_of_length_eq_zero (by simpa using hl)
      simp [Builtin.firstCells]
    | some ad => exact run_firstCells_some (P := P) w sz k ad m c news hl (fun j v hv => hr.2.2 j v hv)
  have hm : Nat.min m dLen = k := hk.symm
  simp [execOp, resolve, invoke, builtin, Builtin.copy_, ha.eval hx, ha.eval hy, run_underlying ht, Builtin.lenOf, run_sizeOf hs, hm, hfc, hst, goInt]
end
/-! a guard that was not wanted itself -/
theorem unwanted {ops : Array Oper} {op : Op} {ty : TypeId} {pos : String} {af : Array Edge} {d : Nat} {N : Nat} {D : List Deferred} {ρ : Env} {a : Act} {g gd : Nat} {want : Bool} {o : Oper} (ha : Ag N D ρ a) (ho : ops[g]? = some o) (hod : o.dst = some gd) (hb : get ρ gd = some undef) :
    Region.wanted (⟨some d, op, ty, pos, af, some (g, want)⟩ : Oper) (yielded ops a.tmps) = false := by
  simp [Region.wanted, yielded, ho, hod, ha.gt _ _ hb, undef]
section
variable {P : Program} {ops : Array Oper} {Q : Exit → Act → World → Prop} {N : Nat} {D : List Deferred} {ρ : Env} {w : World} {op : Op} {ty : TypeId} {pos : String} {af : Array Edge} {d k m : Nat} {g gd : Nat} {want : Bool} {o : Oper}
theorem nskipU {rest : List Oper} (ho : ops[g]? = some o) (hod : o.dst = some gd) (hb : get ρ gd = some undef) (kk : WL P ops Q N D rest ((d, undef) :: ρ) w) (hd : d < N := by decide) :
    WL P ops Q N D (⟨some d, op, ty, pos, af, some (g, want)⟩ :: rest) ρ w := by
  intro a ha
  unfold wpList
  rw [if_neg (by rw [unwanted ha ho hod hb]; decide)]
  exact kk _ (ha.put hd)
end
end Go.Eng
end
section
/- The engine, eleventh part: a statement whose order is open, where several operations that change the world may come first: a tree of orders; and a cut behind a piece of code. No statement is proved here. -/
set_option linter.unusedVariables false
set_option linter.unusedSimpArgs false
namespace Go.Eng
open Go.RowKit
inductive Plan
  | done
  | take (i m : Nat) (r : Plan)
  | alt (i : Nat) (r q : Plan)
  | stop
inductive PlanO
  | done
  | take (o : Oper) (m : Nat) (r : PlanO)
  | alt (o : Oper) (r q : PlanO)
  | stop
def fillP (ops : Array Oper) : Plan → Option PlanO
  | .done => some .done
  | .take i m r => match ops[i]?, fillP ops r with
    | some o, some r' => some (.take o m r')
    | _, _ => none
  | .alt i r q => match ops[i]?, fillP ops r, fillP ops q with
    | some o, some r', some q' => some (.alt o r' q')
    | _, _, _ => none
  | .stop => some .stop
def alts : Plan → List Nat
  | .alt i _ q => i :: alts q
  | _ => []
def depthP : Plan → Nat
  | .done => 0
  | .take _ _ r => depthP r + 1
  | .alt _ r q => max (depthP r + 1) (depthP q)
  | .stop => 0
def okP (ops : Array Oper) (X : List Nat) : Plan → Bool → Array Bool → Bool
  | .done, top, l => top && (Region.ready .any ops l).isEmpty
  | .take i m r, top, l => top && Region.free .any ops l i && (Region.ready .any ops l).contains i && !X.contains i && (X.drop m).all (needs ops i 4) && okP ops X r true (l.setIfInBounds i true)
  | .alt i r q, top, l => (!top || Region.ready .any ops l == i :: alts q) && X.count i == 1 && okP ops X r true (l.setIfInBounds i true) && okP ops X q false l
  | .stop, top, _ => !top
section
variable {P : Program} {ops : Array Oper} {Q : Exit → Act → World → Prop}
def wpP (P : Program) (ops : Array Oper) (Q : Exit → Act → World → Prop) (T : Nat → World → Prop) : Nat → PlanO → Act → World → Prop
  | _, .done, a, w => Q .normal a w
  | k, .take o m r, a, w => ∃ v, YieldsIf P ops (fun w' => ∃ k', k ≤ k' ∧ k' ≤ m ∧ T k' w') o v a ∧ wpP P ops Q T k r (a.put o.dst v) w
  | k, .alt o r q, a, w => (if Region.wanted o (yielded ops a.tmps) = true then o.wp P a w (fun a' w' => T (k + 1) w' ∧ wpP P ops Q T (k + 1) r a' w') Q else T (k + 1) w ∧ wpP P ops Q T (k + 1) r (a.put o.dst undef) w) ∧ wpP P ops Q T k q a w
  | _, .stop, _, _ => True
theorem wpG_of_plan {T : Nat → World → Prop} {X : List Nat} (hs : Region.noSelect ops = true) (hQ : ∀ c a d v w, Q (.panic c) (a.put d v) w → Q (.panic c) a w) : ∀ (p : Plan),
    (∀ (po : PlanO) (l : Array Bool) (a : Act) (w : World) (n k : Nat), fillP ops p = some po → okP ops X p true l = true → depthP p ≤ n → Kept ops l → cnt X l = k → T k w → wpP P ops Q T k po a w → wpG P ops Q (fun l w => T (cnt X l) w) n l a w) ∧
    (∀ (po : PlanO) (l : Array Bool) (a : Act) (w : World) (n k : Nat), fillP ops p = some po → okP ops X p false l = true → depthP p ≤ n + 1 → Kept ops l → cnt X l = k → T k w → wpP P ops Q T k po a w → (∀ i ∈ alts p, i ∈ Region.ready .any ops l) →
      ∀ i ∈ alts p, wpOp P ops Q i (fun a' w' => T (cnt X (l.setIfInBounds i true)) w' ∧ wpG P ops Q (fun l w => T (cnt X l) w) n (l.setIfInBounds i true) a' w') a w)
  | .done => by
    refine ⟨fun po l a w n k hp hk _ _ _ _ h => ?_, fun po l a w n k hp hk => by simp [okP] at hk⟩
    simp only [fillP, Option.some.injEq] at hp
    subst hp
    have hr : Region.ready .any ops l = [] := by simpa [okP] using hk
    cases n with
    | zero => exact ⟨hr, h⟩
    | succ n => exact ⟨fun _ => h, by rw [hr]; simp⟩
  | .stop => by
    refine ⟨fun po l a w n k hp hk => by simp [okP] at hk, fun po l a w n k hp hk _ _ _ _ _ _ i hi => by simp [alts] at hi⟩
  | .take i m r => by
    have ih := (wpG_of_plan (T := T) (X := X) hs hQ r).1
    refine ⟨fun po l a w n k hp hk hd hK hc hT h => ?_, fun po l a w n k hp hk => by simp [okP] at hk⟩
    unfold fillP at hp
    split at hp
    · rename_i o r' ho hr'
      cases hp
      simp only [okP, Bool.and_eq_true, Bool.not_eq_true', true_and] at hk
      obtain ⟨⟨⟨⟨hfree, hcon⟩, hX⟩, hcap⟩, hk⟩ := hk
      obtain ⟨v, hy, h'⟩ := h
      have hmem : i ∈ Region.ready .any ops l := by simpa using hcon
      have hcs : cnt X (l.setIfInBounds i true) = k := by rw [cnt_ne hX, hc]
      cases n with
      | zero => simp [depthP] at hd
      | succ n =>
        refine wpG_first ho (Region.noSelect_spec hs) (fun c a w => hQ c a _ _ w) (fun l' => Kept ops l' ∧ ∀ q, l.getD q false = true → l'.getD q false = true) (fun l' j hR hj => ⟨hR.1.set hj, fun q hq => getD_set_true (hR.2 q hq)⟩)
          (fun l' w' => by rw [cnt_ne hX]) n l a w (Region.free_spec ho hfree) hmem ?_ ⟨hK, fun q hq => hq⟩ (by rw [hc]; exact hT) (ih r' _ _ w n k hr' hk (by simpa [depthP] using hd) (hK.set hmem) hcs hT h')
        rcases hy with ⟨hw, hv⟩ | hy
        · refine .inl ⟨hw, fun w' hw' => hv w' ?_⟩
          obtain ⟨l2, ⟨hK2, hsub⟩, hun, hT2⟩ := hw'
          exact ⟨cnt X l2, by rw [← hc]; exact cnt_mono hsub, cnt_cap hK2 hun hcap, hT2⟩
        · exact .inr hy
    · cases hp
  | .alt i r q => by
    have ih := (wpG_of_plan (T := T) (X := X) hs hQ r).1
    have ihq := (wpG_of_plan (T := T) (X := X) hs hQ q).2
    have chain : ∀ (po : PlanO) (l : Array Bool) (a : Act) (w : World) (n k : Nat), fillP ops (.alt i r q) = some po → (X.count i == 1 && okP ops X r true (l.setIfInBounds i true) && okP ops X q false l) = true → depthP (.alt i r q) ≤ n + 1 → Kept ops l → cnt X l = k → T k w → wpP P ops Q T k po a w → (∀ j ∈ i :: alts q, j ∈ Region.ready .any ops l) →
        ∀ j ∈ i :: alts q, wpOp P ops Q j (fun a' w' => T (cnt X (l.setIfInBounds j true)) w' ∧ wpG P ops Q (fun l w => T (cnt X l) w) n (l.setIfInBounds j true) a' w') a w := by
      intro po l a w n k hp hk hd hK hc hT h hsub j hj
      unfold fillP at hp
      split at hp
      · rename_i o r' q' ho hr' hq'
        cases hp
        simp only [Bool.and_eq_true, beq_iff_eq] at hk
        obtain ⟨⟨hct, hkr⟩, hkq⟩ := hk
        simp only [depthP] at hd
        rcases List.mem_cons.1 hj with rfl | hj
        · have hmem := hsub j (List.mem_cons_self ..)
          have hcs : cnt X (l.setIfInBounds j true) = k + 1 := by rw [cnt_set (mem_ready.1 hmem).1, hct, hc]
          have hK' := hK.set hmem
          have h := h.1
          unfold wpOp
          simp only [ho]
          split at h
          · rename_i hw
            rw [if_pos hw]
            refine .inl (Oper.wp_mono ?_ h)
            rintro a' w' ⟨hS', h'⟩
            exact ⟨by rw [hcs]; exact hS', ih r' _ a' w' n (k + 1) hr' hkr (by omega) hK' hcs hS' h'⟩
          · rename_i hw
            rw [if_neg hw]
            exact ⟨by rw [hcs]; exact h.1, ih r' _ _ w n (k + 1) hr' hkr (by omega) hK' hcs h.1 h.2⟩
        · exact ihq q' l a w n k hq' hkq (by omega) hK hc hT h.2 (fun i hi => hsub i (List.mem_cons_of_mem _ hi)) j hj
      · cases hp
    refine ⟨fun po l a w n k hp hk hd hK hc hT h => ?_, fun po l a w n k hp hk hd hK hc hT h hsub j hj => ?_⟩
    · simp only [okP, Bool.not_true, Bool.false_or, Bool.and_eq_true, beq_iff_eq] at hk
      obtain ⟨⟨⟨hrd, h1⟩, h2⟩, h3⟩ := hk
      cases n with
      | zero => simp only [depthP] at hd; omega
      | succ n =>
        refine ⟨fun h0 => (by rw [h0] at hrd; cases hrd), fun j hj => ?_⟩
        rw [hrd] at hj
        exact chain po l a w n k hp (by simp [h1, h2, h3]) hd hK hc hT h (fun i hi => by rw [hrd]; exact hi) j hj
    · simp only [okP, Bool.not_false, Bool.true_or, Bool.true_and] at hk
      exact chain po l a w n k hp hk hd hK hc hT h hsub j hj
theorem wp_region_plan {T : Nat → World → Prop} {X : List Nat} {id : Nat} {a : Act} {w : World} {po : PlanO} (p : Plan) (hm : P.follows .mixedOrders = true) (hs : Region.noSelect ops = true) (hk : okP ops X p true (Array.replicate ops.size false) = true) (hn : depthP p ≤ ops.size)
    (hp : fillP ops p = some po) (hT : T 0 w.drew) (h : wpP P ops (NoPan Q) T 0 po a w.drew) : (Code.region id ops true).wp P Q a w := by
  refine Code.wp_mono (Q := NoPan Q) (fun e a w q => by cases e <;> first | exact q | exact q.elim) ?_
  refine wp_region_any hm (wpAny_of_wpG _ _ _ _ ((wpG_of_plan (X := X) hs (fun c a d v w q => q.elim) p).1 po _ a _ _ 0 hp hk hn ?_ ?_ hT h))
  · intro j hj
    simp [Array.getElem?_replicate] at hj
    split at hj <;> cases hj
  · unfold cnt
    rw [List.countP_eq_zero]
    intro x _
    simp [Array.getElem?_replicate]
    split <;> rfl
end
def WP (P : Program) (ops : Array Oper) (Q : Exit → Act → World → Prop) (T : Nat → World → Prop) (N : Nat) (D : List Deferred) (k : Nat) (p : PlanO) (ρ : Env) (w : World) : Prop :=
  ∀ a, Ag N D ρ a → wpP P ops Q T k p a w
section
variable {P : Program} {ops : Array Oper} {Q : Exit → Act → World → Prop} {T : Nat → World → Prop} {N : Nat} {D : List Deferred} {ρ ρ' : Env} {w : World} {rest q : PlanO}
  {op : Op} {ty : TypeId} {pos : String} {af : Array Edge} {d k m : Nat} {v : Value}
theorem cdrwP {id : Nat} {po : PlanO} (X : List Nat) (p : Plan) (hm : P.follows .mixedOrders = true) (hk : (Region.noSelect ops && okP ops X p true (Array.replicate ops.size false) && decide (depthP p ≤ ops.size)) = true)
    (hp : fillP ops p = some po) (T : Nat → World → Prop) (hT : T 0 w.drew) (h : ∀ w', Fr No w w' → T 0 w' → WP P ops (NoPan Q) T N D 0 po ρ w') : WC P Q N D (.region id ops true) ρ w := by
  intro a ha
  simp only [Bool.and_eq_true, decide_eq_true_eq] at hk
  exact wp_region_plan (X := X) p hm hk.1.1 hk.1.2 hk.2 hp hT (h _ (Fr.drew w) hT a ha)
theorem pq (h : ∀ k' w', k ≤ k' → k' ≤ m → T k' w' → Yl P N D ρ w' op ty v) (kk : WP P ops Q T N D k rest ((d, v) :: ρ) w) (hd : d < N := by decide) : WP P ops Q T N D k (.take ⟨some d, op, ty, pos, af, none⟩ m rest) ρ w := by
  intro a ha
  refine ⟨v, .inl ⟨by simp [Region.wanted], fun w' hS => ?_⟩, kk _ (ha.put hd)⟩
  obtain ⟨k', h1, h2, h3⟩ := hS
  exact h k' w' h1 h2 h3 a _ pos af none ha
theorem pfork {o : Oper} (h : WP P ops Q T N D k (.alt o rest .stop) ρ w) (hq : WP P ops Q T N D k q ρ w) : WP P ops Q T N D k (.alt o rest q) ρ w := fun a ha => ⟨(h a ha).1, hq a ha⟩
theorem px (h : XW P Q N D ρ w op ty (fun v w' => T (k + 1) w' ∧ WP P ops Q T N D (k + 1) rest ((d, v) :: ρ) w')) (hd : d < N := by decide) : WP P ops Q T N D k (.alt ⟨some d, op, ty, pos, af, none⟩ rest .stop) ρ w := by
  intro a ha
  unfold wpP
  rw [if_pos (by simp [Region.wanted])]
  refine ⟨Oper.wp_mono ?_ (h a (some d) pos af none ha), trivial⟩
  rintro a' w' ⟨v, rfl, hS, hk⟩
  exact ⟨hS, hk _ (ha.put hd)⟩
theorem px0 (h : XW P Q N D ρ w op ty (fun _ w' => T (k + 1) w' ∧ WP P ops Q T N D (k + 1) rest ρ w')) : WP P ops Q T N D k (.alt ⟨none, op, ty, pos, af, none⟩ rest .stop) ρ w := by
  intro a ha
  unfold wpP
  rw [if_pos (by simp [Region.wanted])]
  refine ⟨Oper.wp_mono ?_ (h a none pos af none ha), trivial⟩
  rintro a' w' ⟨v, rfl, hS, hk⟩
  exact ⟨hS, hk _ ha⟩
theorem pend (h : WQ Q N D .normal ρ w) : WP P ops (NoPan Q) T N D k .done ρ w := fun a ha => h a ha
end
section
variable {P : Program} {Q : Exit → Act → World → Prop} {N : Nat} {D : List Deferred} {ρ : Env} {w : World}
/-- what is said behind a piece of code -/
def CutQ {ι : Type} (N : Nat) (D : List Deferred) (E : ι → Env) (R : ι → World → Prop) : Exit → Act → World → Prop
  | .normal, a, w => ∃ g, Ag N D (E g) a ∧ R g w
  | _, _, _ => False
theorem ccut {ι : Type} {c : Code} (E : ι → Env) (R : ι → World → Prop) (h : WC P (CutQ N D E R) N D c ρ w) (k : ∀ g w, R g w → WQ Q N D .normal (E g) w) : WC P Q N D c ρ w := by
  intro a ha
  refine Code.wp_mono (fun e a w q => ?_) (h a ha)
  cases e with
  | normal =>
    obtain ⟨g, hg, hR⟩ := q
    exact k g w hR a hg
  | _ => exact q.elim
theorem qcut {ι : Type} {E : ι → Env} {R : ι → World → Prop} (g : ι) (hs : Sub (E g) ρ) (hR : R g w) : WQ (CutQ N D E R) N D .normal ρ w := fun a ha => ⟨g, ha.sub hs, hR⟩
end
end Go.Eng
end
section
/- The engine over things in memory: what a call owns and what it only reads, apart from each other; the world has no name. No statement is proved here. -/
set_option linter.unusedVariables false
set_option linter.unusedSimpArgs false
namespace Go.Eng
open Go.RowKit
/-- A thing in memory: its blocks, what is said of it. -/
structure Res where
  foot : Nat → Prop
  holds : World → Prop
  keep : ∀ {S : Nat → Prop} {w w' : World}, Fr S w w' → (∀ k, foot k → ¬ S k) → holds w → holds w'
  low : ∀ {w : World} {k : Nat}, holds w → foot k → k < w.heap.size
def feet (L : List Res) (k : Nat) : Prop := ∃ r ∈ L, r.foot k
structure Base where
  w : World
  M : Nat → Prop
  B : Nat → Prop
/-- X: things that are the call's own; S: things that are only read. -/
structure Mem (b : Base) (X S : List Res) (w : World) : Prop where
  fr : Fr b.M b.w w
  xx : X.Pairwise fun p q => ∀ k, p.foot k → ¬ q.foot k
  xs : ∀ x ∈ X, ∀ s ∈ S, ∀ k, x.foot k → ¬ s.foot k
  hx : ∀ x ∈ X, x.holds w
  hs : ∀ s ∈ S, s.holds w
  nx : ∀ x ∈ X, ∀ k, x.foot k → b.M k ∨ b.w.heap.size ≤ k
  ns : ∀ s ∈ S, ∀ k, s.foot k → b.B k ∨ b.M k ∨ b.w.heap.size ≤ k
section
variable {b : Base} {X X' X1 Xr S S' S1 : List Res} {w w' : World} {r r' : Res}
theorem Mem.lift {w' : World} (m : Mem b X S w) (f : Fr No w w') : Mem b X S w' :=
  ⟨m.fr.trans0 f, m.xx, m.xs, fun x hx => x.keep f (fun _ _ e => e) (m.hx x hx), fun s hs => s.keep f (fun _ _ e => e) (m.hs s hs), m.nx, m.ns⟩
theorem Mem.perm (m : Mem b X S w) (h : X.Perm X') : Mem b X' S w :=
  ⟨m.fr, (h.pairwise_iff (fun hxy k hy hx => hxy k hx hy)).1 m.xx, fun x hx => m.xs x (h.mem_iff.2 hx), fun x hx => m.hx x (h.mem_iff.2 hx), m.hs, fun x hx => m.nx x (h.mem_iff.2 hx), m.ns⟩
theorem Mem.subS (m : Mem b X S w) (h : ∀ s ∈ S', s ∈ S) : Mem b X S' w :=
  ⟨m.fr, m.xx, fun x hx s hs => m.xs x hx s (h s hs), m.hx, fun s hs => m.hs s (h s hs), m.nx, fun s hs => m.ns s (h s hs)⟩
theorem Mem.dropX (m : Mem b (X ++ X') S w) : Mem b X S w :=
  ⟨m.fr, (List.pairwise_append.1 m.xx).1, fun x hx => m.xs x (List.mem_append_left _ hx), fun x hx => m.hx x (List.mem_append_left _ hx), m.hs, fun x hx => m.nx x (List.mem_append_left _ hx), m.ns⟩
/-- what a callee tells of its part -/
theorem Mem.frame {X0 S0 : List Res} (m : Mem b (X0 ++ Xr) S w) (hS : ∀ s ∈ S0, s ∈ S) (m' : Mem ⟨w, feet X0, feet S0⟩ X' S' w') : Mem b (X' ++ Xr) (S' ++ S) w' := by
  obtain ⟨h0, hr, h0r⟩ := List.pairwise_append.1 m.xx
  have hoff : ∀ y ∈ Xr, ∀ k, y.foot k → ¬ feet X0 k := fun y hy k hk ⟨x, hx, hxk⟩ => h0r x hx y hy k hxk hk
  have hoffS : ∀ s ∈ S, ∀ k, s.foot k → ¬ feet X0 k := fun s hs k hk ⟨x, hx, hxk⟩ => m.xs x (List.mem_append_left _ hx) s hs k hxk hk
  refine ⟨m.fr.trans m'.fr (fun _ e => e) (fun i hi e => ?_), List.pairwise_append.2 ⟨m'.xx, hr, fun x hx y hy k hk hy' => ?_⟩, fun x hx s hs k hk hk' => ?_, fun x hx => ?_, fun s hs => ?_, fun x hx k hk => ?_, fun s hs k hk => ?_⟩
  · obtain ⟨x, hx, hxk⟩ := e
    rcases m.nx x (List.mem_append_left _ hx) i hxk with h | h
    · exact h
    · omega
  · rcases m'.nx x hx k hk with h | h
    · exact hoff y hy k hy' h
    · have := y.low (m.hx y (List.mem_append_right _ hy)) hy'
      simp only at h
      omega
  · rcases List.mem_append.1 hx with hx | hx <;> rcases List.mem_append.1 hs with hs | hs
    · exact m'.xs x hx s hs k hk hk'
    · rcases m'.nx x hx k hk with h | h
      · exact hoffS s hs k hk' h
      · have := s.low (m.hs s hs) hk'
        simp only at h
        omega
    · rcases m'.ns s hs k hk' with ⟨s0, h0, h0k⟩ | h | h
      · exact m.xs x (List.mem_append_right _ hx) s0 (hS s0 h0) k hk h0k
      · exact hoff x hx k hk h
      · have := x.low (m.hx x (List.mem_append_right _ hx)) hk
        simp only at h
        omega
    · exact m.xs x (List.mem_append_right _ hx) s hs k hk hk'
  · rcases List.mem_append.1 hx with hx | hx
    · exact m'.hx x hx
    · exact x.keep m'.fr (hoff x hx) (m.hx x (List.mem_append_right _ hx))
  · rcases List.mem_append.1 hs with hs | hs
    · exact m'.hs s hs
    · exact s.keep m'.fr (hoffS s hs) (m.hs s hs)
  · rcases List.mem_append.1 hx with hx | hx
    · rcases m'.nx x hx k hk with ⟨y, hy, hyk⟩ | h
      · exact m.nx y (List.mem_append_left _ hy) k hyk
      · exact .inr (Nat.le_trans m.fr.size h)
    · exact m.nx x (List.mem_append_right _ hx) k hk
  · rcases List.mem_append.1 hs with hs | hs
    · rcases m'.ns s hs k hk with ⟨y, hy, hyk⟩ | ⟨y, hy, hyk⟩ | h
      · exact m.ns y (hS y hy) k hyk
      · exact .inr (m.nx y (List.mem_append_left _ hy) k hyk)
      · exact .inr (.inr (Nat.le_trans m.fr.size h))
    · exact m.ns s hs k hk
theorem Mem.start (hX : X.Pairwise fun p q => ∀ k, p.foot k → ¬ q.foot k) (hXS : ∀ x ∈ X, ∀ s ∈ S, ∀ k, x.foot k → ¬ s.foot k) (hx : ∀ x ∈ X, x.holds w) (hs : ∀ s ∈ S, s.holds w) : Mem ⟨w, feet X, feet S⟩ X S w :=
  ⟨.refl _ _, hX, hXS, hx, hs, fun x hx k hk => .inl ⟨x, hx, hk⟩, fun s hs k hk => .inl ⟨s, hs, hk⟩⟩
/-- the part that is handed to a callee -/
theorem Mem.part {X0 S0 : List Res} (m : Mem b (X0 ++ Xr) S w) (hS : ∀ s ∈ S0, s ∈ S) : Mem ⟨w, feet X0, feet S0⟩ X0 S0 w :=
  .start (List.pairwise_append.1 m.xx).1 (fun x hx s hs => m.xs x (List.mem_append_left _ hx) s (hS s hs)) (fun x hx => m.hx x (List.mem_append_left _ hx)) (fun s hs => m.hs s (hS s hs))
/-- one thing changes, and may move to new blocks -/
theorem Mem.change (m : Mem b (r :: X) S w) (f : Fr r.foot w w') (h' : r'.holds w') (hk : ∀ k, r'.foot k → r.foot k ∨ w.heap.size ≤ k) : Mem b (r' :: X) S w' := by
  have m' : Mem ⟨w, feet [r], feet []⟩ [r'] [] w' := ⟨f.mono (fun i _ e => ⟨r, by simp, e⟩), by simp, by simp, by simpa using h', by simp, fun x hx k hk' => by
    obtain rfl : x = r' := by simpa using hx
    rcases hk k hk' with h | h
    · exact .inl ⟨r, by simp, h⟩
    · exact .inr h, by simp⟩
  exact Mem.frame (X0 := [r]) (S0 := []) (S' := []) m (by simp) m'
/-- new things, nothing else changes -/
theorem Mem.addX (m : Mem b X S w) (f : Fr No w w') (h' : r'.holds w') (hk : ∀ k, r'.foot k → w.heap.size ≤ k) : Mem b (r' :: X) S w' := by
  have m' : Mem ⟨w, feet [], feet []⟩ [r'] [] w' := ⟨f.mono (fun i _ e => e.elim), by simp, by simp, by simpa using h', by simp, fun x hx k hk' => by
    obtain rfl : x = r' := by simpa using hx
    exact .inr (hk k hk'), by simp⟩
  exact Mem.frame (X0 := []) (S0 := []) (S' := []) m (by simp) m'
theorem Mem.addS (m : Mem b X S w) (f : Fr No w w') (h' : r'.holds w') (hk : ∀ k, r'.foot k → w.heap.size ≤ k ∨ feet S k) : Mem b X (r' :: S) w' := by
  have m' : Mem ⟨w, feet [], feet S⟩ [] [r'] w' := ⟨f.mono (fun i _ e => e.elim), by simp, by simp, by simp, by simpa using h', by simp, fun x hx k hk' => by
    obtain rfl : x = r' := by simpa using hx
    exact (hk k hk').elim (fun h => .inr (.inr h)) .inl⟩
  exact Mem.frame (X0 := []) (X' := []) m (fun _ h => h) m'
/-- what is one's own is only read from now on -/
theorem Mem.freeze (m : Mem b (r :: X) S w) : Mem b X (r :: S) w := by
  obtain ⟨h1, h2⟩ := List.pairwise_cons.1 m.xx
  refine ⟨m.fr, h2, fun x hx s hs k hk hk' => ?_, fun x hx => m.hx x (List.mem_cons_of_mem _ hx), fun s hs => ?_, fun x hx => m.nx x (List.mem_cons_of_mem _ hx), fun s hs k hk => ?_⟩
  · rcases List.mem_cons.1 hs with rfl | hs
    · exact h1 x hx k hk' hk
    · exact m.xs x (List.mem_cons_of_mem _ hx) s hs k hk hk'
  · rcases List.mem_cons.1 hs with rfl | hs
    · exact m.hx _ (List.mem_cons_self ..)
    · exact m.hs s hs
  · rcases List.mem_cons.1 hs with rfl | hs
    · exact .inr (m.nx _ (List.mem_cons_self ..) k hk)
    · exact m.ns s hs k hk
/-- the same thing, said otherwise -/
theorem Mem.asX (m : Mem b (r :: X) S w) (h : r.holds w → r'.holds w) (hk : ∀ k, r'.foot k → r.foot k) : Mem b (r' :: X) S w :=
  m.change (.refl _ _) (h (m.hx _ (List.mem_cons_self ..))) (fun k hk' => .inl (hk k hk'))
theorem Mem.asS (m : Mem b X S w) (i : Nat) (hi : S[i]? = some r) (h : r.holds w → r'.holds w) (hk : ∀ k, r'.foot k → r.foot k) : Mem b X (r' :: S) w :=
  m.addS (.refl _ _) (h (m.hs _ (List.mem_of_getElem? hi))) (fun k hk' => .inr ⟨r, List.mem_of_getElem? hi, hk k hk'⟩)
end
/-- things number i1, i2 .. of those (each number counts what is left) -/
def takeR : List Nat → List Res → Option (List Res × List Res)
  | [], X => some ([], X)
  | i :: is, X => match X[i]?, takeR is (X.eraseIdx i) with
    | some r, some (p, q) => some (r :: p, q)
    | _, _ => none
theorem eraseIdx_perm {α : Type} : ∀ (l : List α) (i : Nat) (h : i < l.length), (l[i] :: l.eraseIdx i).Perm l
  | [], i, h => by simp at h
  | a :: r, 0, h => by simp
  | a :: r, i + 1, h => by
    have hi : i < r.length := by simpa using h
    have := eraseIdx_perm r i hi
    simp only [List.getElem_cons_succ, List.eraseIdx_cons_succ]
    exact (List.Perm.swap a r[i] (r.eraseIdx i)).trans (this.cons a)
theorem takeR_perm : ∀ (is : List Nat) (X p q : List Res), takeR is X = some (p, q) → X.Perm (p ++ q)
  | [], X, p, q, h => by
    simp only [takeR, Option.some.injEq, Prod.mk.injEq] at h
    obtain ⟨rfl, rfl⟩ := h
    exact .refl _
  | i :: is, X, p, q, h => by
    unfold takeR at h
    split at h
    · rename_i r p' q' hr hp
      simp only [Option.some.injEq, Prod.mk.injEq] at h
      obtain ⟨rfl, rfl⟩ := h
      have hlt := (List.getElem?_eq_some_iff.1 hr).1
      have e : X[i] = r := (List.getElem?_eq_some_iff.1 hr).2
      have h1 := takeR_perm is _ _ _ hp
      rw [List.cons_append]
      refine .trans ?_ (h1.cons r)
      rw [← e]
      exact (eraseIdx_perm X i hlt).symm
    · cases h
def getR : List Nat → List Res → Option (List Res)
  | [], _ => some []
  | i :: is, S => match S[i]?, getR is S with
    | some r, some p => some (r :: p)
    | _, _ => none
theorem getR_sub : ∀ (is : List Nat) (S p : List Res), getR is S = some p → ∀ s ∈ p, s ∈ S
  | [], S, p, h => by
    simp only [getR, Option.some.injEq] at h
    subst h
    simp
  | i :: is, S, p, h => by
    unfold getR at h
    split at h
    · rename_i r p' hr hp
      simp only [Option.some.injEq] at h
      subst h
      intro s hs
      rcases List.mem_cons.1 hs with rfl | hs
      · exact List.mem_of_getElem? hr
      · exact getR_sub is S _ hp s hs
    · cases h
/-! ### Things -/
def RBlk (g : Nat) (t : TypeId) (cs : List Value) : Res := ⟨fun k => k = g, fun w => Blk w g t cs, fun f h b => b.fr f (h g rfl), fun b hk => hk ▸ b.lt⟩
def ROwn (e : TypeId) (sz : Nat) (v : Value) (n : Nat) (xs : List Value) : Res := ⟨vblk v, fun w => Own w 0 e sz v n xs, fun f h o => o.fr f h, fun o hk => (o.from hk).2⟩
theorem Rd.keep {w w' : World} {sz n : Nat} {A : Option Addr} {xs : List Value} {S : Nat → Prop} (h : Rd w sz A n xs) (f : Fr S w w') (ho : ∀ k, (xs ≠ [] ∧ ∃ a, A = Option.some a ∧ k = a.block) → ¬ S k) : Rd w' sz A n xs := by
  refine ⟨h.1, h.2.1, fun j u hu => cell_fr (h.2.2 j u hu) f ?_⟩
  have hne : xs ≠ [] := fun e => by rw [e] at hu; simp at hu
  have hn : 0 < n := by
    rcases Nat.eq_zero_or_pos n with e | e
    · have := h.1; rw [e, Nat.zero_mul] at this; exact absurd (List.eq_nil_of_length_eq_zero this) hne
    · exact e
  rw [add_block]
  exact ho _ ⟨hne, _, h.some hn, rfl⟩
def RRd (sz : Nat) (A : Option Addr) (n : Nat) (xs : List Value) : Res := ⟨fun k => xs ≠ [] ∧ ∃ a, A = some a ∧ k = a.block, fun w => Rd w sz A n xs, fun f h r => Rd.keep r f h, fun {w k} r hk => by
  obtain ⟨hne, a, rfl, rfl⟩ := hk
  cases xs with
  | nil => exact absurd rfl hne
  | cons u rest =>
    have := lt_of_cell (r.cell (j := 0) rfl)
    rwa [add_block] at this⟩
section
variable {b : Base} {X S : List Res} {w : World} {g sz n : Nat} {t e : TypeId} {cs xs : List Value} {v : Value} {A : Option Addr}
theorem Mem.blk (m : Mem b X S w) (i : Nat) (h : X[i]? = some (RBlk g t cs)) : Blk w g t cs := m.hx _ (List.mem_of_getElem? h)
theorem Mem.own (m : Mem b X S w) (i : Nat) (h : X[i]? = some (ROwn e sz v n xs)) : Own w 0 e sz v n xs := m.hx _ (List.mem_of_getElem? h)
theorem Mem.rd (m : Mem b X S w) (i : Nat) (h : S[i]? = some (RRd sz A n xs)) : Rd w sz A n xs := m.hs _ (List.mem_of_getElem? h)
/-- a slice of one's own, read -/
theorem Mem.ord {c : Nat} (m : Mem b X S w) (i : Nat) (h : X[i]? = some (ROwn e sz (.slice A n c) n xs)) : Rd w sz A n xs := (Own.rd (m.own i h)).2.2
theorem Own.base0 {b : Nat} (h : Own w b e sz v n xs) : Own w 0 e sz v n xs := h.wide (Nat.zero_le _)
end
/-- several things as one -/
def RPack (Xp : List Res) : Res where
  foot := feet Xp
  holds w := (Xp.Pairwise fun (p q : Res) => ∀ k : Nat, p.foot k → ¬ q.foot k) ∧ ∀ x ∈ Xp, x.holds w
  keep f h p := ⟨p.1, fun x hx => x.keep f (fun k hk => h k ⟨x, hx, hk⟩) (p.2 x hx)⟩
  low p hk := by
    obtain ⟨x, hx, hk⟩ := hk
    exact x.low (p.2 x hx) hk
section
variable {b : Base} {X S Xp : List Res} {w : World} {r r1 r2 : Res}
theorem Mem.unpack (m : Mem b (RPack Xp :: X) S w) : Mem b (Xp ++ X) S w := by
  obtain ⟨h1, h2⟩ := List.pairwise_cons.1 m.xx
  obtain ⟨p1, p3⟩ := m.hx _ (List.mem_cons_self ..)
  refine ⟨m.fr, List.pairwise_append.2 ⟨p1, h2, fun x hx y hy k hk hk' => h1 y hy k ⟨x, hx, hk⟩ hk'⟩, fun x hx s hs k hk hk' => ?_, fun x hx => ?_, m.hs, fun x hx k hk => ?_, m.ns⟩
  · rcases List.mem_append.1 hx with hx | hx
    · exact m.xs _ (List.mem_cons_self ..) s hs k ⟨x, hx, hk⟩ hk'
    · exact m.xs x (List.mem_cons_of_mem _ hx) s hs k hk hk'
  · rcases List.mem_append.1 hx with hx | hx
    · exact p3 x hx
    · exact m.hx x (List.mem_cons_of_mem _ hx)
  · rcases List.mem_append.1 hx with hx | hx
    · exact m.nx _ (List.mem_cons_self ..) k ⟨x, hx, hk⟩
    · exact m.nx x (List.mem_cons_of_mem _ hx) k hk
theorem Mem.pack (m : Mem b (Xp ++ X) S w) : Mem b (RPack Xp :: X) S w := by
  obtain ⟨p1, h2, h3⟩ := List.pairwise_append.1 m.xx
  refine ⟨m.fr, List.pairwise_cons.2 ⟨fun y hy k hk hk' => ?_, h2⟩, fun x hx s hs k hk hk' => ?_, fun x hx => ?_, m.hs, fun x hx k hk => ?_, m.ns⟩
  · obtain ⟨x, hx, hk⟩ := hk
    exact h3 x hx y hy k hk hk'
  · rcases List.mem_cons.1 hx with rfl | hx
    · obtain ⟨x, hx, hk⟩ := hk
      exact m.xs x (List.mem_append_left _ hx) s hs k hk hk'
    · exact m.xs x (List.mem_append_right _ hx) s hs k hk hk'
  · rcases List.mem_cons.1 hx with rfl | hx
    · exact ⟨p1, fun x hx => m.hx x (List.mem_append_left _ hx)⟩
    · exact m.hx x (List.mem_append_right _ hx)
  · rcases List.mem_cons.1 hx with rfl | hx
    · obtain ⟨x, hx, hk⟩ := hk
      exact m.nx x (List.mem_append_left _ hx) k hk
    · exact m.nx x (List.mem_append_right _ hx) k hk
/-- two as one -/
theorem Mem.merge (m : Mem b (r1 :: r2 :: X) S w) (h : r1.holds w → r2.holds w → r.holds w) (hk : ∀ k, r.foot k → r1.foot k ∨ r2.foot k) : Mem b (r :: X) S w := by
  have m' := (Mem.pack (Xp := [r1, r2]) m)
  exact m'.asX (fun p => h (p.2 r1 (by simp)) (p.2 r2 (by simp))) (fun k hr => by
    rcases hk k hr with h | h
    · exact ⟨r1, by simp, h⟩
    · exact ⟨r2, by simp, h⟩)
end
/-! ### Judgements without a world -/
def HL (P : Program) (ops : Array Oper) (Q : Exit → Act → World → Prop) (N : Nat) (D : List Deferred) (l : List Oper) (ρ : Env) (b : Base) (X S : List Res) : Prop := ∀ w, Mem b X S w → WL P ops Q N D l ρ w
def HC (P : Program) (Q : Exit → Act → World → Prop) (N : Nat) (D : List Deferred) (c : Code) (ρ : Env) (b : Base) (X S : List Res) : Prop := ∀ w, Mem b X S w → WC P Q N D c ρ w
def HQ (Q : Exit → Act → World → Prop) (N : Nat) (D : List Deferred) (e : Exit) (ρ : Env) (b : Base) (X S : List Res) : Prop := ∀ w, Mem b X S w → WQ Q N D e ρ w
def XH (P : Program) (Q : Exit → Act → World → Prop) (N : Nat) (D : List Deferred) (ρ : Env) (b : Base) (X S : List Res) (op : Op) (ty : TypeId) (K : Value → List Res → List Res → Prop) : Prop :=
  ∀ w, Mem b X S w → XW P Q N D ρ w op ty fun v w' => ∃ X' S', Mem b X' S' w' ∧ K v X' S'
/-- a region that draws: what is known at its start is known up to its c-th operation that changes the world -/
def HT (P : Program) (ops : Array Oper) (Q : Exit → Act → World → Prop) (T : Nat → World → Prop) (N : Nat) (D : List Deferred) (k : Nat) (l : List (Option Nat × Oper)) (ρ : Env) (b : Base) (X S : List Res) : Prop :=
  ∀ w, Mem b X S w → WT P ops Q T N D k l ρ w
def HP (P : Program) (ops : Array Oper) (Q : Exit → Act → World → Prop) (T : Nat → World → Prop) (N : Nat) (D : List Deferred) (k : Nat) (p : PlanO) (ρ : Env) (b : Base) (X S : List Res) : Prop :=
  ∀ w, Mem b X S w → WP P ops Q T N D k p ρ w
def TT (b : Base) (X S : List Res) (c k : Nat) (w : World) : Prop := k ≤ c → Mem b X S w
/-- the things at a region's start are among those now -/
def Wk (X S X' S' : List Res) : Prop := (∃ p, X'.Perm (X ++ p)) ∧ ∀ s ∈ S, s ∈ S'
theorem Wk.mem {b : Base} {X S X' S' : List Res} {w : World} (h : Wk X S X' S') (m : Mem b X' S' w) : Mem b X S w := by
  obtain ⟨⟨p, hp⟩, hS⟩ := h
  exact (m.perm hp).dropX.subS hS
theorem wk (is js : List Nat) {X S X' S' p : List Res} (h : takeR is X' = some (X, p)) (h' : getR js S' = some S) : Wk X S X' S' := ⟨⟨p, takeR_perm _ _ _ _ h⟩, getR_sub _ _ _ h'⟩
/-! environments -/
def SubB : Env → Env → Prop
  | [], _ => True
  | (t, v) :: r, ρ => get ρ t = some v ∧ SubB r ρ
theorem SubB.sub : ∀ {ρ' ρ : Env}, SubB ρ' ρ → Sub ρ' ρ
  | [], _, _ => sub_nil
  | (t, v) :: r, _, h => sub_cons h.1 h.2.sub
theorem sub_app {r q ρ : Env} (hr : Sub r ρ) (hq : Sub q ρ) : Sub (r ++ q) ρ := by
  intro t u ht
  induction r with
  | nil => exact hq t u ht
  | cons p r ih =>
    obtain ⟨k, x⟩ := p
    simp only [List.cons_append, get] at ht
    cases hb : Nat.beq k t with
    | true =>
      refine hr t u ?_
      simp only [get, hb, cond_true] at ht ⊢
      exact ht
    | false =>
      rw [hb] at ht
      simp only [cond_false] at ht
      by_cases hg : ∃ y, get r t = some y
      · obtain ⟨y, hy⟩ := hg
        have e1 : get (r ++ q) t = get r t := by
          clear ih hr ht
          induction r with
          | nil => simp [get] at hy
          | cons p r ih =>
            obtain ⟨k, x⟩ := p
            simp only [List.cons_append, get] at hy ⊢
            cases hb : Nat.beq k t with
            | true => rfl
            | false =>
              rw [hb] at hy
              simp only [cond_false] at hy ⊢
              exact ih hy
        refine hr t u ?_
        simp only [get, hb, cond_false]
        rw [← e1]; exact ht
      · have e1 : get (r ++ q) t = get q t := by
          clear ih hr ht
          induction r with
          | nil => rfl
          | cons p r ih =>
            obtain ⟨k, x⟩ := p
            simp only [List.cons_append, get] at hg ⊢
            cases hb : Nat.beq k t with
            | true => rw [hb] at hg; exact absurd ⟨x, rfl⟩ hg
            | false =>
              rw [hb] at hg
              simp only [cond_false] at hg ⊢
              exact ih hg
        rw [e1] at ht
        exact hq t u ht
section
variable {P : Program} {ops : Array Oper} {Q : Exit → Act → World → Prop} {N : Nat} {D : List Deferred} {ρ ρ' : Env} {b : Base} {X X' X0 Xr S S' S0 : List Res} {rest : List Oper}
  {op : Op} {ty : TypeId} {pos : String} {af : Array Edge} {d : Nat} {v : Value} {c c' : Code} {e : Exit}
theorem hy (h : ∀ {w}, Mem b X S w → Yl P N D ρ w op ty v) (k : HL P ops Q N D rest ((d, v) :: ρ) b X S) (hd : d < N := by decide) : HL P ops Q N D (⟨some d, op, ty, pos, af, none⟩ :: rest) ρ b X S :=
  fun w m => nq (h m) (k w m) hd
theorem hyg {g gd : Nat} {want : Bool} {o : Oper} (ho : ops[g]? = some o) (hod : o.dst = some gd) (hb : get ρ gd = some (.bool want)) (h : ∀ {w}, Mem b X S w → Yl P N D ρ w op ty v)
    (k : HL P ops Q N D rest ((d, v) :: ρ) b X S) (hd : d < N := by decide) : HL P ops Q N D (⟨some d, op, ty, pos, af, some (g, want)⟩ :: rest) ρ b X S :=
  fun w m => ng ho hod hb (h m) (k w m) hd
theorem hx (h : XH P Q N D ρ b X S op ty fun v X' S' => HL P ops Q N D rest ((d, v) :: ρ) b X' S') (hd : d < N := by decide) : HL P ops Q N D (⟨some d, op, ty, pos, af, none⟩ :: rest) ρ b X S := fun w m => nx (fun a dst pos af g ha => Oper.wp_mono (by
  rintro a' w' ⟨v, rfl, X', S', m', hk⟩
  exact ⟨v, rfl, hk w' m'⟩) (h w m a dst pos af g ha)) hd
theorem hx0 (h : XH P Q N D ρ b X S op ty fun _ X' S' => HL P ops Q N D rest ρ b X' S') : HL P ops Q N D (⟨none, op, ty, pos, af, none⟩ :: rest) ρ b X S := fun w m => nx0 (fun a dst pos af g ha => Oper.wp_mono (by
  rintro a' w' ⟨v, rfl, X', S', m', hk⟩
  exact ⟨v, rfl, hk w' m'⟩) (h w m a dst pos af g ha))
theorem hxg {g gd : Nat} {want : Bool} {o : Oper} (ho : ops[g]? = some o) (hod : o.dst = some gd) (hb : get ρ gd = some (.bool want)) (h : XH P Q N D ρ b X S op ty fun v X' S' => HL P ops Q N D rest ((d, v) :: ρ) b X' S') (hd : d < N := by decide) :
    HL P ops Q N D (⟨some d, op, ty, pos, af, some (g, want)⟩ :: rest) ρ b X S := fun w m => nxg ho hod hb (fun a dst pos af g ha => Oper.wp_mono (by
  rintro a' w' ⟨v, rfl, X', S', m', hk⟩
  exact ⟨v, rfl, hk w' m'⟩) (h w m a dst pos af g ha)) hd
theorem hskip {g gd : Nat} {want b' : Bool} {o : Oper} (ho : ops[g]? = some o) (hod : o.dst = some gd) (hb : get ρ gd = some (.bool b')) (hne : b' ≠ want) (k : HL P ops Q N D rest ((d, undef) :: ρ) b X S) (hd : d < N := by decide) :
    HL P ops Q N D (⟨some d, op, ty, pos, af, some (g, want)⟩ :: rest) ρ b X S := fun w m => nskip ho hod hb hne (k w m) hd
theorem hskipU {g gd : Nat} {want : Bool} {o : Oper} (ho : ops[g]? = some o) (hod : o.dst = some gd) (hb : get ρ gd = some undef) (k : HL P ops Q N D rest ((d, undef) :: ρ) b X S) (hd : d < N := by decide) :
    HL P ops Q N D (⟨some d, op, ty, pos, af, some (g, want)⟩ :: rest) ρ b X S := fun w m => nskipU ho hod hb (k w m) hd
theorem hend (h : HQ Q N D .normal ρ b X S) : HL P ops Q N D [] ρ b X S := fun w m => nend (h w m)
theorem hseq (h : HC P (Exit.then (c'.wp P Q) Q) N D c ρ b X S) : HC P Q N D (.seq c c') ρ b X S := fun w m => cseq (h w m)
theorem hreg {id : Nat} {l : List Oper} (h : HL P l.toArray Q N D l ρ b X S) : HC P Q N D (.region id l.toArray false) ρ b X S := fun w m => creg (h w m)
theorem hcskip (h : HQ Q N D .normal ρ b X S) : HC P Q N D .skip ρ b X S := fun w m => cskip (h w m)
theorem hexit {id : Nat} (h : HQ Q N D (.exit id) ρ b X S) : HC P Q N D (.exit id) ρ b X S := fun w m => cexit (h w m)
theorem hret (h : HQ Q N D .ret ρ b X S) : HC P Q N D .ret ρ b X S := fun w m => cret (h w m)
theorem hblock {id : Nat} (h : HC P (Exit.inBlock id Q) N D c ρ b X S) : HC P Q N D (.block id c) ρ b X S := fun w m => cblock (h w m)
theorem hif {p : Prop} [Decidable p] {x : Operand} (hc : ev ρ x = some (.bool (decide p))) (ht : p → HC P Q N D c ρ b X S) (he : ¬ p → HC P Q N D c' ρ b X S) : HC P Q N D (.cond x c c') ρ b X S := fun w m => cif hc (fun h => ht h w m) (fun h => he h w m)
theorem hifb {q : Bool} {x : Operand} (hc : ev ρ x = some (.bool q)) (ht : q = true → HC P Q N D c ρ b X S) (he : q = false → HC P Q N D c' ρ b X S) : HC P Q N D (.cond x c c') ρ b X S := fun w m => cifb hc (fun h => ht h w m) (fun h => he h w m)
theorem hift {x : Operand} {q : Bool} (hc : ev ρ x = some (.bool q)) (hb : q = true) (ht : HC P Q N D c ρ b X S) : HC P Q N D (.cond x c c') ρ b X S := fun w m => cift hc hb (ht w m)
theorem hiff {x : Operand} {q : Bool} (hc : ev ρ x = some (.bool q)) (hb : q = false) (ht : HC P Q N D c' ρ b X S) : HC P Q N D (.cond x c c') ρ b X S := fun w m => ciff hc hb (ht w m)
theorem hthen (h : HC P Q N D c ρ b X S) : HQ (Exit.then (c.wp P Q) Q) N D .normal ρ b X S := h
theorem hthen_exit {K : Act → World → Prop} {id : Nat} (h : HQ Q N D (.exit id) ρ b X S) : HQ (Exit.then K Q) N D (.exit id) ρ b X S := h
theorem hthen_ret {K : Act → World → Prop} (h : HQ Q N D .ret ρ b X S) : HQ (Exit.then K Q) N D .ret ρ b X S := h
theorem hqblock {id : Nat} (h : HQ Q N D .normal ρ b X S) : HQ (Exit.inBlock id Q) N D .normal ρ b X S := h
theorem hqblock_exit {id : Nat} (h : HQ Q N D .normal ρ b X S) : HQ (Exit.inBlock id Q) N D (.exit id) ρ b X S := fun w m => qblock_exit (h w m)
theorem hqblock_exit' {id id' : Nat} (hne : id' ≠ id) (h : HQ Q N D (.exit id') ρ b X S) : HQ (Exit.inBlock id Q) N D (.exit id') ρ b X S := fun w m => qblock_exit' hne (h w m)
theorem hqblock_ret {id : Nat} (h : HQ Q N D .ret ρ b X S) : HQ (Exit.inBlock id Q) N D .ret ρ b X S := h
theorem hsub (hs : SubB ρ' ρ) (h : HQ Q N D e ρ' b X S) : HQ Q N D e ρ b X S := fun w m => qsub hs.sub (h w m)
theorem hmemL (h : ∀ w, Mem b X S w → Mem b X' S' w) (k : HL P ops Q N D rest ρ b X' S') : HL P ops Q N D rest ρ b X S := fun w m => k w (h w m)
theorem hmemC (h : ∀ w, Mem b X S w → Mem b X' S' w) (k : HC P Q N D c ρ b X' S') : HC P Q N D c ρ b X S := fun w m => k w (h w m)
theorem hmemQ (h : ∀ w, Mem b X S w → Mem b X' S' w) (k : HQ Q N D e ρ b X' S') : HQ Q N D e ρ b X S := fun w m => k w (h w m)
/-- what the memory tells -/
theorem hfactL {p : Prop} (h : ∀ {w}, Mem b X S w → p) (k : p → HL P ops Q N D rest ρ b X S) : HL P ops Q N D rest ρ b X S := fun w m => k (h m) w m
theorem hfactC {p : Prop} (h : ∀ {w}, Mem b X S w → p) (k : p → HC P Q N D c ρ b X S) : HC P Q N D c ρ b X S := fun w m => k (h m) w m
theorem hsplit {p : Prop} [Decidable p] (gd : Nat) (hg : get ρ gd = some (.bool (decide p))) (ht : p → HL P ops Q N D rest ((gd, .bool true) :: ρ) b X S) (hf : ¬ p → HL P ops Q N D rest ((gd, .bool false) :: ρ) b X S) : HL P ops Q N D rest ρ b X S :=
  fun w m => nsplit gd hg (fun h => ht h w m) (fun h => hf h w m)
/-- a loop; X1 i: what its rounds change -/
theorem hloop {ι : Type} (μ : ι → Nat) (R : ι → Env) (X1 S1 : ι → List Res) (I : ι → Prop) (i0 : ι) (ρk : Env) (hk : SubB ρk ρ) (is : List Nat) (hX : takeR is X = some (X1 i0, Xr)) (js : List Nat) (hS : getR js S = some (S1 i0)) (hI : I i0) (hs : SubB (R i0) ρ)
    (round : ∀ i, I i → HC P (Exit.then (fun a' w' => ∃ j, Ag N D (R j ++ ρk) a' ∧ Mem b (X1 j ++ Xr) (S1 j ++ S) w' ∧ I j ∧ μ j < μ i) Q) N D c (R i ++ ρk) b (X1 i ++ Xr) (S1 i ++ S)) : HC P Q N D (.loop c) ρ b X S := by
  intro w m
  have m' := (m.perm (takeR_perm _ _ _ _ hX)).subS (S' := S1 i0 ++ S) (fun s hs => by
    rcases List.mem_append.1 hs with h | h
    · exact getR_sub _ _ _ hS s h
    · exact h)
  refine cloop μ (fun i => R i ++ ρk) (fun i w => I i ∧ Mem b (X1 i ++ Xr) (S1 i ++ S) w) i0 ⟨hI, m'⟩ ?_ (fun i w hi a ha => Code.wp_mono (fun e a' w' q => by
    cases e <;> first | exact q | (obtain ⟨j, h1, h2, h3, h4⟩ := q; exact ⟨j, h1, ⟨h3, h2⟩, h4⟩)) (round i hi.1 w hi.2 a ha))
  exact sub_app hs.sub hk.sub
theorem hloop1 {α : Type} (μ : α → Nat) (R : α → Env) (X1 S1 : α → List Res) (I : α → Prop) (a0 : α) (ρk : Env) (hk : SubB ρk ρ) (is : List Nat) (hX : takeR is X = some (X1 a0, Xr)) (js : List Nat) (hS : getR js S = some (S1 a0)) (hI : I a0) (hs : SubB (R a0) ρ)
    (round : ∀ a, I a → HC P (Exit.then (fun a' w' => ∃ x, Ag N D (R x ++ ρk) a' ∧ Mem b (X1 x ++ Xr) (S1 x ++ S) w' ∧ I x ∧ μ x < μ a) Q) N D c (R a ++ ρk) b (X1 a ++ Xr) (S1 a ++ S)) : HC P Q N D (.loop c) ρ b X S :=
  hloop (ι := α) (fun i => μ i) (fun i => R i) (fun i => X1 i) (fun i => S1 i) (fun i => I i) a0 ρk hk is hX js hS hI hs fun i hi w m a ha => Code.wp_mono (fun e a' w' q => by
    cases e <;> first | exact q | (obtain ⟨x, h⟩ := q; exact ⟨x, h⟩)) (round i hi w m a ha)
theorem hnext1 {α : Type} {M : Nat} {μ : α → Nat} {R : α → Env} {X1 S1 : α → List Res} {Xr Sr : List Res} {ρ0 : Env} {I : α → Prop} (x : α) (hs : SubB (R x ++ ρ0) ρ) (is : List Nat) {Xz : List Res} (hX : takeR is X = some (X1 x ++ Xr, Xz)) (js : List Nat) (hS : getR js S = some (S1 x ++ Sr)) (hI : I x) (hlt : μ x < M) :
    HQ (Exit.then (fun a' w' => ∃ x, Ag N D (R x ++ ρ0) a' ∧ Mem b (X1 x ++ Xr) (S1 x ++ Sr) w' ∧ I x ∧ μ x < M) Q) N D .normal ρ b X S :=
  fun w m a ha => ⟨x, ha.sub hs.sub, ((m.perm (takeR_perm _ _ _ _ hX)).dropX).subS (getR_sub _ _ _ hS), hI, hlt⟩
theorem hloop2 {α β : Type} (μ : α → β → Nat) (R : α → β → Env) (X1 S1 : α → β → List Res) (I : α → β → Prop) (a0 : α) (b_0 : β) (ρk : Env) (hk : SubB ρk ρ) (is : List Nat) (hX : takeR is X = some (X1 a0 b_0, Xr)) (js : List Nat) (hS : getR js S = some (S1 a0 b_0)) (hI : I a0 b_0) (hs : SubB (R a0 b_0) ρ)
    (round : ∀ a b_, I a b_ → HC P (Exit.then (fun a' w' => ∃ x y, Ag N D (R x y ++ ρk) a' ∧ Mem b (X1 x y ++ Xr) (S1 x y ++ S) w' ∧ I x y ∧ μ x y < μ a b_) Q) N D c (R a b_ ++ ρk) b (X1 a b_ ++ Xr) (S1 a b_ ++ S)) : HC P Q N D (.loop c) ρ b X S :=
  hloop (ι := α × β) (fun i => μ i.1 i.2) (fun i => R i.1 i.2) (fun i => X1 i.1 i.2) (fun i => S1 i.1 i.2) (fun i => I i.1 i.2) (a0, b_0) ρk hk is hX js hS hI hs fun i hi w m a ha => Code.wp_mono (fun e a' w' q => by
    cases e <;> first | exact q | (obtain ⟨x, y, h⟩ := q; exact ⟨(x, y), h⟩)) (round i.1 i.2 hi w m a ha)
theorem hnext2 {α β : Type} {M : Nat} {μ : α → β → Nat} {R : α → β → Env} {X1 S1 : α → β → List Res} {Xr Sr : List Res} {ρ0 : Env} {I : α → β → Prop} (x : α) (y : β) (hs : SubB (R x y ++ ρ0) ρ) (is : List Nat) {Xz : List Res} (hX : takeR is X = some (X1 x y ++ Xr, Xz)) (js : List Nat) (hS : getR js S = some (S1 x y ++ Sr)) (hI : I x y) (hlt : μ x y < M) :
    HQ (Exit.then (fun a' w' => ∃ x y, Ag N D (R x y ++ ρ0) a' ∧ Mem b (X1 x y ++ Xr) (S1 x y ++ Sr) w' ∧ I x y ∧ μ x y < M) Q) N D .normal ρ b X S :=
  fun w m a ha => ⟨x, y, ha.sub hs.sub, ((m.perm (takeR_perm _ _ _ _ hX)).dropX).subS (getR_sub _ _ _ hS), hI, hlt⟩
theorem hloop3 {α β γ : Type} (μ : α → β → γ → Nat) (R : α → β → γ → Env) (X1 S1 : α → β → γ → List Res) (I : α → β → γ → Prop) (a0 : α) (b_0 : β) (c_0 : γ) (ρk : Env) (hk : SubB ρk ρ) (is : List Nat) (hX : takeR is X = some (X1 a0 b_0 c_0, Xr)) (js : List Nat) (hS : getR js S = some (S1 a0 b_0 c_0)) (hI : I a0 b_0 c_0) (hs : SubB (R a0 b_0 c_0) ρ)
    (round : ∀ a b_ c_, I a b_ c_ → HC P (Exit.then (fun a' w' => ∃ x y z, Ag N D (R x y z ++ ρk) a' ∧ Mem b (X1 x y z ++ Xr) (S1 x y z ++ S) w' ∧ I x y z ∧ μ x y z < μ a b_ c_) Q) N D c (R a b_ c_ ++ ρk) b (X1 a b_ c_ ++ Xr) (S1 a b_ c_ ++ S)) : HC P Q N D (.loop c) ρ b X S :=
  hloop (ι := α × β × γ) (fun i => μ i.1 i.2.1 i.2.2) (fun i => R i.1 i.2.1 i.2.2) (fun i => X1 i.1 i.2.1 i.2.2) (fun i => S1 i.1 i.2.1 i.2.2) (fun i => I i.1 i.2.1 i.2.2) (a0, b_0, c_0) ρk hk is hX js hS hI hs fun i hi w m a ha => Code.wp_mono (fun e a' w' q => by
    cases e <;> first | exact q | (obtain ⟨x, y, z, h⟩ := q; exact ⟨(x, y, z), h⟩)) (round i.1 i.2.1 i.2.2 hi w m a ha)
theorem hnext3 {α β γ : Type} {M : Nat} {μ : α → β → γ → Nat} {R : α → β → γ → Env} {X1 S1 : α → β → γ → List Res} {Xr Sr : List Res} {ρ0 : Env} {I : α → β → γ → Prop} (x : α) (y : β) (z : γ) (hs : SubB (R x y z ++ ρ0) ρ) (is : List Nat) {Xz : List Res} (hX : takeR is X = some (X1 x y z ++ Xr, Xz)) (js : List Nat) (hS : getR js S = some (S1 x y z ++ Sr)) (hI : I x y z) (hlt : μ x y z < M) :
    HQ (Exit.then (fun a' w' => ∃ x y z, Ag N D (R x y z ++ ρ0) a' ∧ Mem b (X1 x y z ++ Xr) (S1 x y z ++ Sr) w' ∧ I x y z ∧ μ x y z < M) Q) N D .normal ρ b X S :=
  fun w m a ha => ⟨x, y, z, ha.sub hs.sub, ((m.perm (takeR_perm _ _ _ _ hX)).dropX).subS (getR_sub _ _ _ hS), hI, hlt⟩
theorem hloop4 {α β γ δ : Type} (μ : α → β → γ → δ → Nat) (R : α → β → γ → δ → Env) (X1 S1 : α → β → γ → δ → List Res) (I : α → β → γ → δ → Prop) (a0 : α) (b_0 : β) (c_0 : γ) (d_0 : δ) (ρk : Env) (hk : SubB ρk ρ) (is : List Nat) (hX : takeR is X = some (X1 a0 b_0 c_0 d_0, Xr)) (js : List Nat) (hS : getR js S = some (S1 a0 b_0 c_0 d_0)) (hI : I a0 b_0 c_0 d_0) (hs : SubB (R a0 b_0 c_0 d_0) ρ)
    (round : ∀ a b_ c_ d_, I a b_ c_ d_ → HC P (Exit.then (fun a' w' => ∃ x y z u, Ag N D (R x y z u ++ ρk) a' ∧ Mem b (X1 x y z u ++ Xr) (S1 x y z u ++ S) w' ∧ I x y z u ∧ μ x y z u < μ a b_ c_ d_) Q) N D c (R a b_ c_ d_ ++ ρk) b (X1 a b_ c_ d_ ++ Xr) (S1 a b_ c_ d_ ++ S)) : HC P Q N D (.loop c) ρ b X S :=
  hloop (ι := α × β × γ × δ) (fun i => μ i.1 i.2.1 i.2.2.1 i.2.2.2) (fun i => R i.1 i.2.1 i.2.2.1 i.2.2.2) (fun i => X1 i.1 i.2.1 i.2.2.1 i.2.2.2) (fun i => S1 i.1 i.2.1 i.2.2.1 i.2.2.2) (fun i => I i.1 i.2.1 i.2.2.1 i.2.2.2) (a0, b_0, c_0, d_0) ρk hk is hX js hS hI hs fun i hi w m a ha => Code.wp_mono (fun e a' w' q => by
    cases e <;> first | exact q | (obtain ⟨x, y, z, u, h⟩ := q; exact ⟨(x, y, z, u), h⟩)) (round i.1 i.2.1 i.2.2.1 i.2.2.2 hi w m a ha)
theorem hnext4 {α β γ δ : Type} {M : Nat} {μ : α → β → γ → δ → Nat} {R : α → β → γ → δ → Env} {X1 S1 : α → β → γ → δ → List Res} {Xr Sr : List Res} {ρ0 : Env} {I : α → β → γ → δ → Prop} (x : α) (y : β) (z : γ) (u : δ) (hs : SubB (R x y z u ++ ρ0) ρ) (is : List Nat) {Xz : List Res} (hX : takeR is X = some (X1 x y z u ++ Xr, Xz)) (js : List Nat) (hS : getR js S = some (S1 x y z u ++ Sr)) (hI : I x y z u) (hlt : μ x y z u < M) :
    HQ (Exit.then (fun a' w' => ∃ x y z u, Ag N D (R x y z u ++ ρ0) a' ∧ Mem b (X1 x y z u ++ Xr) (S1 x y z u ++ Sr) w' ∧ I x y z u ∧ μ x y z u < M) Q) N D .normal ρ b X S :=
  fun w m a ha => ⟨x, y, z, u, ha.sub hs.sub, ((m.perm (takeR_perm _ _ _ _ hX)).dropX).subS (getR_sub _ _ _ hS), hI, hlt⟩
theorem hloop5 {α β γ δ ε : Type} (μ : α → β → γ → δ → ε → Nat) (R : α → β → γ → δ → ε → Env) (X1 S1 : α → β → γ → δ → ε → List Res) (I : α → β → γ → δ → ε → Prop) (a0 : α) (b_0 : β) (c_0 : γ) (d_0 : δ) (e_0 : ε) (ρk : Env) (hk : SubB ρk ρ) (is : List Nat) (hX : takeR is X = some (X1 a0 b_0 c_0 d_0 e_0, Xr)) (js : List Nat) (hS : getR js S = some (S1 a0 b_0 c_0 d_0 e_0)) (hI : I a0 b_0 c_0 d_0 e_0) (hs : SubB (R a0 b_0 c_0 d_0 e_0) ρ)
    (round : ∀ a b_ c_ d_ e_, I a b_ c_ d_ e_ → HC P (Exit.then (fun a' w' => ∃ x y z u v_, Ag N D (R x y z u v_ ++ ρk) a' ∧ Mem b (X1 x y z u v_ ++ Xr) (S1 x y z u v_ ++ S) w' ∧ I x y z u v_ ∧ μ x y z u v_ < μ a b_ c_ d_ e_) Q) N D c (R a b_ c_ d_ e_ ++ ρk) b (X1 a b_ c_ d_ e_ ++ Xr) (S1 a b_ c_ d_ e_ ++ S)) : HC P Q N D (.loop c) ρ b X S :=
  hloop (ι := α × β × γ × δ × ε) (fun i => μ i.1 i.2.1 i.2.2.1 i.2.2.2.1 i.2.2.2.2) (fun i => R i.1 i.2.1 i.2.2.1 i.2.2.2.1 i.2.2.2.2) (fun i => X1 i.1 i.2.1 i.2.2.1 i.2.2.2.1 i.2.2.2.2) (fun i => S1 i.1 i.2.1 i.2.2.1 i.2.2.2.1 i.2.2.2.2) (fun i => I i.1 i.2.1 i.2.2.1 i.2.2.2.1 i.2.2.2.2) (a0, b_0, c_0, d_0, e_0) ρk hk is hX js hS hI hs fun i hi w m a ha => Code.wp_mono (fun e a' w' q => by
    cases e <;> first | exact q | (obtain ⟨x, y, z, u, v_, h⟩ := q; exact ⟨(x, y, z, u, v_), h⟩)) (round i.1 i.2.1 i.2.2.1 i.2.2.2.1 i.2.2.2.2 hi w m a ha)
theorem hnext5 {α β γ δ ε : Type} {M : Nat} {μ : α → β → γ → δ → ε → Nat} {R : α → β → γ → δ → ε → Env} {X1 S1 : α → β → γ → δ → ε → List Res} {Xr Sr : List Res} {ρ0 : Env} {I : α → β → γ → δ → ε → Prop} (x : α) (y : β) (z : γ) (u : δ) (v_ : ε) (hs : SubB (R x y z u v_ ++ ρ0) ρ) (is : List Nat) {Xz : List Res} (hX : takeR is X = some (X1 x y z u v_ ++ Xr, Xz)) (js : List Nat) (hS : getR js S = some (S1 x y z u v_ ++ Sr)) (hI : I x y z u v_) (hlt : μ x y z u v_ < M) :
    HQ (Exit.then (fun a' w' => ∃ x y z u v_, Ag N D (R x y z u v_ ++ ρ0) a' ∧ Mem b (X1 x y z u v_ ++ Xr) (S1 x y z u v_ ++ Sr) w' ∧ I x y z u v_ ∧ μ x y z u v_ < M) Q) N D .normal ρ b X S :=
  fun w m a ha => ⟨x, y, z, u, v_, ha.sub hs.sub, ((m.perm (takeR_perm _ _ _ _ hX)).dropX).subS (getR_sub _ _ _ hS), hI, hlt⟩
theorem hloop6 {α β γ δ ε ζ : Type} (μ : α → β → γ → δ → ε → ζ → Nat) (R : α → β → γ → δ → ε → ζ → Env) (X1 S1 : α → β → γ → δ → ε → ζ → List Res) (I : α → β → γ → δ → ε → ζ → Prop) (a0 : α) (b_0 : β) (c_0 : γ) (d_0 : δ) (e_0 : ε) (f_0 : ζ) (ρk : Env) (hk : SubB ρk ρ) (is : List Nat) (hX : takeR is X = some (X1 a0 b_0 c_0 d_0 e_0 f_0, Xr)) (js : List Nat) (hS : getR js S = some (S1 a0 b_0 c_0 d_0 e_0 f_0)) (hI : I a0 b_0 c_0 d_0 e_0 f_0) (hs : SubB (R a0 b_0 c_0 d_0 e_0 f_0) ρ)
    (round : ∀ a b_ c_ d_ e_ f_, I a b_ c_ d_ e_ f_ → HC P (Exit.then (fun a' w' => ∃ x y z u v_ t_, Ag N D (R x y z u v_ t_ ++ ρk) a' ∧ Mem b (X1 x y z u v_ t_ ++ Xr) (S1 x y z u v_ t_ ++ S) w' ∧ I x y z u v_ t_ ∧ μ x y z u v_ t_ < μ a b_ c_ d_ e_ f_) Q) N D c (R a b_ c_ d_ e_ f_ ++ ρk) b (X1 a b_ c_ d_ e_ f_ ++ Xr) (S1 a b_ c_ d_ e_ f_ ++ S)) : HC P Q N D (.loop c) ρ b X S :=
  hloop (ι := α × β × γ × δ × ε × ζ) (fun i => μ i.1 i.2.1 i.2.2.1 i.2.2.2.1 i.2.2.2.2.1 i.2.2.2.2.2) (fun i => R i.1 i.2.1 i.2.2.1 i.2.2.2.1 i.2.2.2.2.1 i.2.2.2.2.2) (fun i => X1 i.1 i.2.1 i.2.2.1 i.2.2.2.1 i.2.2.2.2.1 i.2.2.2.2.2) (fun i => S1 i.1 i.2.1 i.2.2.1 i.2.2.2.1 i.2.2.2.2.1 i.2.2.2.2.2) (fun i => I i.1 i.2.1 i.2.2.1 i.2.2.2.1 i.2.2.2.2.1 i.2.2.2.2.2) (a0, b_0, c_0, d_0, e_0, f_0) ρk hk is hX js hS hI hs fun i hi w m a ha => Code.wp_mono (fun e a' w' q => by
    cases e <;> first | exact q | (obtain ⟨x, y, z, u, v_, t_, h⟩ := q; exact ⟨(x, y, z, u, v_, t_), h⟩)) (round i.1 i.2.1 i.2.2.1 i.2.2.2.1 i.2.2.2.2.1 i.2.2.2.2.2 hi w m a ha)
theorem hnext6 {α β γ δ ε ζ : Type} {M : Nat} {μ : α → β → γ → δ → ε → ζ → Nat} {R : α → β → γ → δ → ε → ζ → Env} {X1 S1 : α → β → γ → δ → ε → ζ → List Res} {Xr Sr : List Res} {ρ0 : Env} {I : α → β → γ → δ → ε → ζ → Prop} (x : α) (y : β) (z : γ) (u : δ) (v_ : ε) (t_ : ζ) (hs : SubB (R x y z u v_ t_ ++ ρ0) ρ) (is : List Nat) {Xz : List Res} (hX : takeR is X = some (X1 x y z u v_ t_ ++ Xr, Xz)) (js : List Nat) (hS : getR js S = some (S1 x y z u v_ t_ ++ Sr)) (hI : I x y z u v_ t_) (hlt : μ x y z u v_ t_ < M) :
    HQ (Exit.then (fun a' w' => ∃ x y z u v_ t_, Ag N D (R x y z u v_ t_ ++ ρ0) a' ∧ Mem b (X1 x y z u v_ t_ ++ Xr) (S1 x y z u v_ t_ ++ Sr) w' ∧ I x y z u v_ t_ ∧ μ x y z u v_ t_ < M) Q) N D .normal ρ b X S :=
  fun w m a ha => ⟨x, y, z, u, v_, t_, ha.sub hs.sub, ((m.perm (takeR_perm _ _ _ _ hX)).dropX).subS (getR_sub _ _ _ hS), hI, hlt⟩
/-- what is said behind a piece of code -/
theorem hcut {ι : Type} (R : ι → Env) (X1 S1 : ι → List Res) (I : ι → Prop) (h : HC P (CutQ N D R fun i w => Mem b (X1 i) (S1 i) w ∧ I i) N D c ρ b X S) (k : ∀ i, I i → HQ Q N D .normal (R i) b (X1 i) (S1 i)) : HC P Q N D c ρ b X S :=
  fun w m => ccut R _ (h w m) fun i w' hi => k i hi.2 w' hi.1
theorem hqcut {ι : Type} {R : ι → Env} {X1 S1 : ι → List Res} {I : ι → Prop} (i : ι) (hs : SubB (R i) ρ) (is : List Nat) {Xz : List Res} (hX : takeR is X = some (X1 i, Xz)) (js : List Nat) (hS : getR js S = some (S1 i)) (hI : I i) :
    HQ (CutQ N D R fun i w => Mem b (X1 i) (S1 i) w ∧ I i) N D .normal ρ b X S :=
  fun w m => qcut i hs.sub ⟨((m.perm (takeR_perm _ _ _ _ hX)).dropX).subS (getR_sub _ _ _ hS), hI⟩
end
/-! ### What changes memory -/
section
variable {P : Program} {Q : Exit → Act → World → Prop} {N : Nat} {D : List Deferred} {ρ : Env} {b : Base} {X X' X0 Xr S S' S0 : List Res} {ty t u e : TypeId} {x y : Operand} {v : Value} {K : Value → List Res → List Res → Prop}
theorem xh_box (hx : ev ρ x = some v) (k : ∀ g, K (.pointer (some ⟨g, 0, none⟩)) (RBlk g t v.cells.toList :: X) S) : XH P Q N D ρ b X S (.box t x) ty K := fun w m => x_box hx fun g w' hg hf hb => ⟨_, _, m.addX (r' := RBlk g t _) hf hb (fun i hi => Nat.le_trans hg (Nat.le_of_eq (Eq.symm hi))), k g⟩
theorem xh_alloc {z : Value} {sz bytes : Nat} (hT : TI P t z sz bytes) (k : ∀ g, K (.pointer (some ⟨g, 0, none⟩)) (RBlk g t z.cells.toList :: X) S) : XH P Q N D ρ b X S (.alloc t) ty K := fun w m => x_alloc hT fun g w' hg hf hb => ⟨_, _, m.addX (r' := RBlk g t _) hf hb (fun i hi => Nat.le_trans hg (Nat.le_of_eq (Eq.symm hi))), k g⟩
theorem xh_bsl {z : Value} {sz bytes n : Nat} {parts : List (Nat × Operand)} {vs : List Value} (ht : P.underlying t = some (.slice e)) (hT : TI P e z sz bytes) (hv : evs ρ (parts.map (·.2)) = some vs) (hi : parts.map (·.1) = List.range' 0 n) (hl : vs.length = n)
    (hc : ∀ v ∈ vs, v.cells.size = sz) (h0 : n * sz ≠ 0) (hsm : n * sz ≤ 16777216)
    (k : ∀ g, K (.slice (some ⟨g, 0, none⟩) n n) (ROwn e sz (.slice (some ⟨g, 0, none⟩) n n) n (vs.flatMap (·.cells.toList)) :: X) S) : XH P Q N D ρ b X S (.buildSlice t n parts.toArray) ty K := fun w m => x_bsl ht hT hv hi hl hc h0 hsm fun g w' hg hf hb => ⟨_, _, m.addX (r' := ROwn e sz (.slice (some ⟨g, 0, none⟩) n n) n (vs.flatMap (·.cells.toList))) hf (by
    have hlen : (vs.flatMap (·.cells.toList)).length = n * sz := by
      subst hl
      clear hv hi hsm h0 hb k
      induction vs with
      | nil => simp
      | cons a r ih =>
        have h1 := hc a (by simp)
        have h2 := ih (fun v hv => hc v (by simp [hv]))
        simp only [List.flatMap_cons, List.length_append, Array.length_toList, h1, h2, List.length_cons, Nat.add_mul]
        omega
    have := Own.made (base := 0) hb (Nat.zero_le _) (Nat.le_refl n) (by unfold maxLen; have : n ≤ n * sz := Nat.le_mul_of_pos_right _ (Nat.pos_of_ne_zero (fun e => h0 (by rw [e, Nat.mul_zero]))); omega) hlen
    rwa [List.take_of_length_le (by omega)] at this) (fun i hi => Nat.le_trans hg (Nat.le_of_eq (Eq.symm hi))), k g⟩
theorem xh_app {sz bytes n m : Nat} {src z : Value} {xs news : List Value} {du : TypeDesc} (i : Nat) (hi : X[i]? = some (ROwn e sz v n xs)) (hx : ev ρ x = some v) (hy : ev ρ y = some src) (ht : P.underlying t = some (.slice e)) (hu : P.underlying u = some du) (hnu : du = .slice e ∨ du = .string)
    (hT : TI P e z sz bytes) (hz : z.cells.size = sz) (hs : ∀ {w}, Mem b X S w → Src P w sz m src news) (h1 : ∀ u ∈ news, u.oneCell' = true) (hm : n + m ≤ maxLen) (hb : (n + m) * bytes ≤ 140737488355328)
    (k : ∀ v', K v' (ROwn e sz v' (n + m) (xs ++ news) :: X.eraseIdx i) S) : XH P Q N D ρ b X S (.call ⟨.builtin .append, #[x, y], #[t, u]⟩) ty K := fun w m => x_app hx hy ht hu hnu hT hz (m.own i hi) (hs m) h1 hm hb (Nat.zero_le _) fun v' w' ho hf hk => ⟨_, _, by
    have m' := m.perm (takeR_perm [i] X [ROwn e sz v n xs] (X.eraseIdx i) (by simp [takeR, hi]))
    exact m'.change hf ho hk, k v'⟩
theorem xh_st1 {g o : Nat} {bt : TypeId} {cs : List Value} (i : Nat) (hi : X[i]? = some (RBlk g bt cs)) (hx : ev ρ x = some (.pointer (some ⟨g, o, none⟩))) (hy : ev ρ y = some v) (hs : szB P t = some 1) (hv : v.oneCell' = true) (ho : o < cs.length)
    (k : K undef (RBlk g bt (cs.set o v) :: X.eraseIdx i) S) : XH P Q N D ρ b X S (.store t x y) ty K := fun w m => x_st1 hx hy hs hv (m.blk i hi) ho fun w' hf hb hsz => ⟨_, _, by
    have m' := m.perm (takeR_perm [i] X [RBlk g bt cs] (X.eraseIdx i) (by simp [takeR, hi]))
    exact m'.change hf hb (fun k hk => .inl hk), k⟩
theorem xh_st1a {g o j : Nat} {bt : TypeId} {cs : List Value} (i : Nat) (hi : X[i]? = some (RBlk g bt cs)) (hx : ev ρ x = some (.pointer (some ((⟨g, o, none⟩ : Addr).add j)))) (hy : ev ρ y = some v) (hs : szB P t = some 1) (hv : v.oneCell' = true) (ho : o + j < cs.length)
    (k : K undef (RBlk g bt (cs.set (o + j) v) :: X.eraseIdx i) S) : XH P Q N D ρ b X S (.store t x y) ty K := xh_st1 i hi (by rw [hx, addr_add]) hy hs hv ho k
theorem xh_stN {g o sz : Nat} {bt : TypeId} {cs vs : List Value} (i : Nat) (hi : X[i]? = some (RBlk g bt cs)) (hx : ev ρ x = some (.pointer (some ⟨g, o, none⟩))) (hy : ev ρ y = some (.agg vs.toArray)) (hs : szB P t = some sz) (hl : vs.length = sz) (hv : ∀ v ∈ vs, v.oneCell' = true) (ho : o + sz ≤ cs.length)
    (k : K undef (RBlk g bt (splice cs o vs) :: X.eraseIdx i) S) : XH P Q N D ρ b X S (.store t x y) ty K := fun w m => x_stN hx hy hs hl hv (m.blk i hi) ho fun w' hf hb hsz => ⟨_, _, by
    have m' := m.perm (takeR_perm [i] X [RBlk g bt cs] (X.eraseIdx i) (by simp [takeR, hi]))
    exact m'.change hf hb (fun k hk => .inl hk), k⟩
theorem xh_stNa {g o j sz : Nat} {bt : TypeId} {cs vs : List Value} (i : Nat) (hi : X[i]? = some (RBlk g bt cs)) (hx : ev ρ x = some (.pointer (some ((⟨g, o, none⟩ : Addr).add j)))) (hy : ev ρ y = some (.agg vs.toArray)) (hs : szB P t = some sz) (hl : vs.length = sz) (hv : ∀ v ∈ vs, v.oneCell' = true) (ho : o + j + sz ≤ cs.length)
    (k : K undef (RBlk g bt (splice cs (o + j) vs) :: X.eraseIdx i) S) : XH P Q N D ρ b X S (.store t x y) ty K := xh_stN i hi (by rw [hx, addr_add]) hy hs hl hv ho k
theorem xh_stA {g n : Nat} {bt : TypeId} {cs vs : List Value} (i : Nat) (hi : X[i]? = some (RBlk g bt cs)) (hx : ev ρ x = some (.pointer (some ⟨g, 0, none⟩))) (hy : ev ρ y = some (.agg vs.toArray)) (hs : szB P t = some n) (hl : vs.length = n) (h1 : ∀ u ∈ vs, u.oneCell' = true) (hcl : cs.length = n)
    (k : K undef (RBlk g bt vs :: X.eraseIdx i) S) : XH P Q N D ρ b X S (.store t x y) ty K := xh_stN i hi hx hy hs hl h1 (by omega) (by rwa [splice_all (by omega)])
theorem xh_stO {A : Option Addr} {n c sz j : Nat} {xs : List Value} (i : Nat) (hi : X[i]? = some (ROwn e sz (.slice A n c) n xs)) (hx : ev ρ x = some (.pointer (some ((A.getD d0).add j)))) (hy : ev ρ y = some v) (hs : szB P t = some 1) (hv : v.oneCell' = true) (hj : j < n * sz)
    (k : K undef (ROwn e sz (.slice A n c) n (xs.set j v) :: X.eraseIdx i) S) : XH P Q N D ρ b X S (.store t x y) ty K := fun w m => x_stO hx hy hs hv (m.own i hi) hj fun w' hf hb hsz => ⟨_, _, by
    have m' := m.perm (takeR_perm [i] X [ROwn e sz (.slice A n c) n xs] (X.eraseIdx i) (by simp [takeR, hi]))
    exact m'.change hf hb (fun k hk => .inl hk), k⟩
theorem xh_s2b {s : ByteArray} {td : TypeDesc} {t' : TypeId} (hx : ev ρ x = some (.string s)) (ht : P.underlying t = some td) (ht' : P.underlying t' = some (.slice e)) (he : P.underlying e = some (.int .u8)) (hm : (bytesOf s).length ≤ maxLen)
    (k : ∀ v, K v (ROwn e 1 v (bytesOf s).length (b8s (bytesOf s)) :: X) S) : XH P Q N D ρ b X S (.convert t t' x) ty K := fun w m => x_s2b hx ht ht' he hm fun v w' hf ho => ⟨_, _, m.addX (r' := ROwn e 1 v (bytesOf s).length (b8s (bytesOf s))) hf ho.base0 (fun k hk => (ho.from hk).1), k v⟩
/-- a contract: X0: what the callee may change; S0: what it reads -/
def Con (P : Program) (f : Nat) (args : List Value) (X0 S0 : List Res) (R : Value → List Res → List Res → Prop) : Prop :=
  ∀ w, Mem ⟨w, feet X0, feet S0⟩ X0 S0 w → Calls P f args.toArray w fun e w' => ∃ v X' S', e = .returned v ∧ R v X' S' ∧ Mem ⟨w, feet X0, feet S0⟩ X' S' w'
def RB (b : Base) (R : Value → List Res → List Res → Prop) : Ending → World → Prop := fun e w' => ∃ v X' S', e = .returned v ∧ R v X' S' ∧ Mem b X' S' w'
theorem xh_call {f : Nat} {l : List Operand} {vs : List Value} {tys : Array TypeId} {R : Value → List Res → List Res → Prop} (hv : evs ρ l = some vs) (hf : ∀ args w, (callFunc f args).run P w = .ok (.enter f args) w)
    (hc : Con P f vs X0 S0 R) (is : List Nat) (hX : takeR is X = some (X0, Xr)) (js : List Nat) (hS : getR js S = some S0) (k : ∀ v X' S', R v X' S' → K v (X' ++ Xr) (S' ++ S)) : XH P Q N D ρ b X S (.call ⟨.value (.func f), l.toArray, tys⟩) ty K := fun w m => by
  have m1 := m.perm (takeR_perm _ _ _ _ hX)
  refine x_call hv hf (hc w (m1.part (getR_sub _ _ _ hS))) ?_
  rintro e w' ⟨v, X', S', rfl, hR, m'⟩
  exact ⟨v, rfl, _, _, m1.frame (getR_sub _ _ _ hS) m', k v X' S' hR⟩
theorem xh_callv {f : Nat} {l : List Operand} {vs first cap : List Value} {tys : Array TypeId} {R : Value → List Res → List Res → Prop} (hx : ev ρ x = some (.func (.func f) first.toArray cap.toArray)) (hv : evs ρ l = some vs) (hf : ∀ args w, (callFunc f args).run P w = .ok (.enter f args) w)
    (hc : Con P f (first ++ vs ++ cap) X0 S0 R) (is : List Nat) (hX : takeR is X = some (X0, Xr)) (js : List Nat) (hS : getR js S = some S0) (k : ∀ v X' S', R v X' S' → K v (X' ++ Xr) (S' ++ S)) : XH P Q N D ρ b X S (.call ⟨.value x, l.toArray, tys⟩) ty K := fun w m => by
  have m1 := m.perm (takeR_perm _ _ _ _ hX)
  refine x_callv hx hv hf (hc w (m1.part (getR_sub _ _ _ hS))) ?_
  rintro e w' ⟨v, X', S', rfl, hR, m'⟩
  exact ⟨v, rfl, _, _, m1.frame (getR_sub _ _ _ hS) m', k v X' S' hR⟩
end
/-- what is one's own, lent to be read -/
inductive View : Res → Res → Prop
  | own {e : TypeId} {sz n c : Nat} {A : Option Addr} {xs : List Value} : View (ROwn e sz (.slice A n c) n xs) (RRd sz A n xs)
  | blk {g sz n : Nat} {t : TypeId} {cs : List Value} (h : cs.length = n * sz) : View (RBlk g t cs) (RRd sz (some ⟨g, 0, none⟩) n cs)
  | same {r : Res} : View r r
  | of {r r' : Res} (h : ∀ w, r.holds w → r'.holds w) (hk : ∀ k, r'.foot k → r.foot k) : View r r'
theorem View.ok {r r' : Res} (h : View r r') : (∀ w, r.holds w → r'.holds w) ∧ ∀ k, r'.foot k → r.foot k := by
  cases h with
  | own =>
    refine ⟨fun w h => (Own.rd h).2.2, fun k hk => ?_⟩
    obtain ⟨_, a, rfl, rfl⟩ := hk
    rfl
  | blk hl => exact ⟨fun w h => Rd.of_blk h hl, fun k hk => by obtain ⟨_, a, ha, rfl⟩ := hk; cases ha; rfl⟩
  | same => exact ⟨fun _ h => h, fun _ h => h⟩
  | of h hk => exact ⟨h, hk⟩
inductive Lend (X S : List Res) : List Res → Prop
  | nil : Lend X S []
  | s {r : Res} {rest : List Res} (j : Nat) (h : S[j]? = some r) (t : Lend X S rest) : Lend X S (r :: rest)
  | x {r r' : Res} {rest : List Res} (i : Nat) (h : X[i]? = some r') (hv : View r' r) (t : Lend X S rest) : Lend X S (r :: rest)
theorem Lend.ok {X S S0 : List Res} (h : Lend X S S0) : ∀ s ∈ S0, s ∈ S ∨ ∃ x ∈ X, View x s := by
  induction h with
  | nil => simp
  | s j h t ih =>
    intro s hs
    rcases List.mem_cons.1 hs with rfl | hs
    · exact .inl (List.mem_of_getElem? h)
    · exact ih s hs
  | x i h hv t ih =>
    intro s hs
    rcases List.mem_cons.1 hs with rfl | hs
    · exact .inr ⟨_, List.mem_of_getElem? h, hv⟩
    · exact ih s hs
theorem Mem.lent {b : Base} {X0 Xr S S0 : List Res} {w : World} (m : Mem b (X0 ++ Xr) S w) (hl : Lend Xr S S0) : Mem ⟨w, feet X0, feet S0⟩ X0 S0 w := by
  obtain ⟨h0, hr, h0r⟩ := List.pairwise_append.1 m.xx
  refine .start h0 (fun x hx s hs k hk hk' => ?_) (fun x hx => m.hx x (List.mem_append_left _ hx)) (fun s hs => ?_)
  · rcases hl.ok s hs with h | ⟨y, hy, hv⟩
    · exact m.xs x (List.mem_append_left _ hx) s h k hk hk'
    · exact h0r x hx y hy k hk (hv.ok.2 k hk')
  · rcases hl.ok s hs with h | ⟨y, hy, hv⟩
    · exact m.hs s h
    · exact hv.ok.1 _ (m.hx y (List.mem_append_right _ hy))
section
variable {P : Program} {Q : Exit → Act → World → Prop} {N : Nat} {D : List Deferred} {ρ : Env} {b : Base} {X X' X0 Xr S S' S0 : List Res} {ty t u e : TypeId} {x y : Operand} {v : Value} {K : Value → List Res → List Res → Prop}
theorem xh_calll {f : Nat} {l : List Operand} {vs : List Value} {tys : Array TypeId} {R : Value → List Res → List Res → Prop} (hv : evs ρ l = some vs) (hf : ∀ args w, (callFunc f args).run P w = .ok (.enter f args) w)
    (hc : Con P f vs X0 S0 R) (is : List Nat) (hX : takeR is X = some (X0, Xr)) (hl : Lend Xr S S0) (k : ∀ v X' S', R v X' S' → S' = [] ∧ K v (X' ++ Xr) S) : XH P Q N D ρ b X S (.call ⟨.value (.func f), l.toArray, tys⟩) ty K := fun w m => by
  have m1 := m.perm (takeR_perm _ _ _ _ hX)
  refine x_call hv hf (hc w (m1.lent hl)) ?_
  rintro e w' ⟨v, X', S', rfl, hR, m'⟩
  obtain ⟨rfl, hk⟩ := k v X' S' hR
  have m2 : Mem ⟨w, feet X0, feet []⟩ X' [] w' := ⟨m'.fr, m'.xx, by simp, m'.hx, by simp, m'.nx, by simp⟩
  exact ⟨v, rfl, _, _, Mem.frame (S0 := []) m1 (by simp) m2, hk⟩
end
/-! ### In and out -/
theorem henter {P : Program} {f : Nat} {fn : Func} {c : Code} {vs : List Value} {R : Value → List Res → List Res → Prop} {N : Nat} {X0 S0 : List Res} (hf : P.funcs[f]? = some fn) (hb : fn.body = some c) (hN : fn.ntmps = N) (hl : vs.length ≤ N)
    (h : ∀ b, HC P (bodyPost P fn (RB b R)) N [] c (argsEnv vs 0) b X0 S0) : Con P f vs X0 S0 R := fun w m => enter hf hb hN hl (h _ w m)
section
variable {P : Program} {fn : Func} {R : Value → List Res → List Res → Prop} {N : Nat} {ρ : Env} {b : Base} {X X' Xz S S' : List Res} {e : Exit}
theorem Mem.out {w : World} (m : Mem b X S w) (is : List Nat) (hX : takeR is X = some (X', Xz)) (js : List Nat) (hS : getR js S = some S') : Mem b X' S' w := ((m.perm (takeR_perm _ _ _ _ hX)).dropX).subS (getR_sub _ _ _ hS)
theorem hret0 (he : Leaves e) (hr : fn.results = #[]) (is : List Nat) (hX : takeR is X = some (X', Xz)) (js : List Nat) (hS : getR js S = some S') (hR : R (.tuple #[]) X' S') : HQ (bodyPost P fn (RB b R)) N [] e ρ b X S :=
  fun w m => ret0 he hr ⟨_, _, _, rfl, hR, m.out is hX js hS⟩
theorem hret1 {t : Nat} {v : Value} (he : Leaves e) (hr : fn.results = #[.tmp t]) (hv : get ρ t = some v) (is : List Nat) (hX : takeR is X = some (X', Xz)) (js : List Nat) (hS : getR js S = some S') (hR : R v X' S') : HQ (bodyPost P fn (RB b R)) N [] e ρ b X S :=
  fun w m => ret1 he hr hv ⟨_, _, _, rfl, hR, m.out is hX js hS⟩
theorem hret2 {t t' : Nat} {v v' : Value} (he : Leaves e) (hr : fn.results = #[.tmp t, .tmp t']) (hv : get ρ t = some v) (hv' : get ρ t' = some v') (is : List Nat) (hX : takeR is X = some (X', Xz)) (js : List Nat) (hS : getR js S = some S') (hR : R (.tuple #[v, v']) X' S') : HQ (bodyPost P fn (RB b R)) N [] e ρ b X S :=
  fun w m => ret2 he hr hv hv' ⟨_, _, _, rfl, hR, m.out is hX js hS⟩
theorem hretN {t sz : Nat} {ty : TypeId} {p : Addr} {cs : List Value} (he : Leaves e) (hr : fn.results = #[.cell t ty]) (hv : get ρ t = some (.pointer (some p))) (ha : aggB P ty = some true) (hs : szB P ty = some sz) (hl : cs.length = sz)
    (hc : ∀ {w}, Mem b X S w → ∀ j u, cs[j]? = some u → w.cell? (p.add j) = some u) (is : List Nat) (hX : takeR is X = some (X', Xz)) (js : List Nat) (hS : getR js S = some S') (hR : R (.agg cs.toArray) X' S') : HQ (bodyPost P fn (RB b R)) N [] e ρ b X S :=
  fun w m => retN he hr hv ha hs hl (hc m) ⟨_, _, _, rfl, hR, m.out is hX js hS⟩
theorem hretN1 {t t' sz : Nat} {ty : TypeId} {p : Addr} {cs : List Value} {v' : Value} (he : Leaves e) (hr : fn.results = #[.cell t ty, .tmp t']) (hv : get ρ t = some (.pointer (some p))) (hv' : get ρ t' = some v') (ha : aggB P ty = some true) (hs : szB P ty = some sz) (hl : cs.length = sz)
    (hc : ∀ {w}, Mem b X S w → ∀ j u, cs[j]? = some u → w.cell? (p.add j) = some u) (is : List Nat) (hX : takeR is X = some (X', Xz)) (js : List Nat) (hS : getR js S = some S') (hR : R (.tuple #[.agg cs.toArray, v']) X' S') : HQ (bodyPost P fn (RB b R)) N [] e ρ b X S :=
  fun w m => retN1 he hr hv hv' ha hs hl (hc m) ⟨_, _, _, rfl, hR, m.out is hX js hS⟩
end
theorem con_pure {P : Program} {f : Nat} {vs : List Value} {S0 : List Res} {R : Value → List Res → List Res → Prop} (h : ∀ {w b}, Mem b [] S0 w → Calls P f vs.toArray w fun e w' => ∃ v, e = .returned v ∧ R v [] [] ∧ Fr No w w') : Con P f vs [] S0 R := fun w m => by
  refine Calls.mono (h m) ?_
  rintro e w' ⟨v, rfl, hR, hf⟩
  exact ⟨v, [], [], rfl, hR, (m.subS (by simp)).lift hf⟩
end Go.Eng
end
section
/- The engine over things in memory, second part: statements whose order is open. No statement is proved here. -/
set_option linter.unusedVariables false
set_option linter.unusedSimpArgs false
namespace Go.Eng
open Go.RowKit
section
variable {P : Program} {ops : Array Oper} {Q : Exit → Act → World → Prop} {N : Nat} {D : List Deferred} {ρ ρ' : Env} {b : Base} {X X' X0 Xr S S' S0 X1 S1 : List Res} {rest : List (Option Nat × Oper)}
  {op : Op} {ty : TypeId} {pos : String} {af : Array Edge} {d k m c : Nat} {v : Value}
theorem hdrw {id : Nat} {l : List (Option Nat × Oper)} (Xs : List Nat) (L : List (Nat × Option Nat)) (hm : P.follows .mixedOrders = true) (hk : (Region.noSelect ops && seqOkG ops Xs L (Array.replicate ops.size false) && decide (L.length ≤ ops.size)) = true)
    (hp : pickG ops L = some l) (c : Nat) (h : HT P ops (NoPan Q) (TT b X S c) N D 0 l ρ b X S) : HC P Q N D (.region id ops true) ρ b X S := fun w m =>
  cdrwT Xs L hm hk hp (TT b X S c) (fun _ => m.lift (Fr.drew w)) fun w' f _ => h w' (m.lift f)
theorem hty (h : ∀ {w}, Mem b X1 S1 w → Yl P N D ρ w op ty v) (kk : HT P ops Q (TT b X1 S1 c) N D k rest ((d, v) :: ρ) b X S) (hmc : m ≤ c := by decide) (hd : d < N := by decide) : HT P ops Q (TT b X1 S1 c) N D k ((some m, ⟨some d, op, ty, pos, af, none⟩) :: rest) ρ b X S :=
  fun w mm => tq (fun k' w' h1 h2 hT => h (hT (Nat.le_trans h2 hmc))) (kk w mm) hd
theorem htyg {g gd : Nat} {want : Bool} {o : Oper} (ho : ops[g]? = some o) (hod : o.dst = some gd) (hb : get ρ gd = some (.bool want)) (h : ∀ {w}, Mem b X1 S1 w → Yl P N D ρ w op ty v) (kk : HT P ops Q (TT b X1 S1 c) N D k rest ((d, v) :: ρ) b X S) (hmc : m ≤ c := by decide) (hd : d < N := by decide) :
    HT P ops Q (TT b X1 S1 c) N D k ((some m, ⟨some d, op, ty, pos, af, some (g, want)⟩) :: rest) ρ b X S :=
  fun w mm => tqg ho hod hb (fun k' w' h1 h2 hT => h (hT (Nat.le_trans h2 hmc))) (kk w mm) hd
theorem htyU {T : Nat → World → Prop} (h : ∀ {w}, Yl P N D ρ w op ty v) (kk : HT P ops Q T N D k rest ((d, v) :: ρ) b X S) (hd : d < N := by decide) : HT P ops Q T N D k ((some m, ⟨some d, op, ty, pos, af, none⟩) :: rest) ρ b X S :=
  fun w mm => tq (fun k' w' h1 h2 hT => h) (kk w mm) hd
theorem htyUg {T : Nat → World → Prop} {g gd : Nat} {want : Bool} {o : Oper} (ho : ops[g]? = some o) (hod : o.dst = some gd) (hb : get ρ gd = some (.bool want)) (h : ∀ {w}, Yl P N D ρ w op ty v) (kk : HT P ops Q T N D k rest ((d, v) :: ρ) b X S) (hd : d < N := by decide) :
    HT P ops Q T N D k ((some m, ⟨some d, op, ty, pos, af, some (g, want)⟩) :: rest) ρ b X S :=
  fun w mm => tqg ho hod hb (fun k' w' h1 h2 hT => h) (kk w mm) hd
theorem htx (h : XH P Q N D ρ b X S op ty fun v X' S' => (k + 1 ≤ c → Wk X1 S1 X' S') ∧ HT P ops Q (TT b X1 S1 c) N D (k + 1) rest ((d, v) :: ρ) b X' S') (hd : d < N := by decide) :
    HT P ops Q (TT b X1 S1 c) N D k ((none, ⟨some d, op, ty, pos, af, none⟩) :: rest) ρ b X S := fun w m => tx (fun a dst pos af g ha => Oper.wp_mono (by
  rintro a' w' ⟨v, rfl, X', S', m', hw, hk⟩
  exact ⟨v, rfl, fun h => (hw h).mem m', hk w' m'⟩) (h w m a dst pos af g ha)) hd
theorem htx0 (h : XH P Q N D ρ b X S op ty fun _ X' S' => (k + 1 ≤ c → Wk X1 S1 X' S') ∧ HT P ops Q (TT b X1 S1 c) N D (k + 1) rest ρ b X' S') :
    HT P ops Q (TT b X1 S1 c) N D k ((none, ⟨none, op, ty, pos, af, none⟩) :: rest) ρ b X S := fun w m => tx0 (fun a dst pos af g ha => Oper.wp_mono (by
  rintro a' w' ⟨v, rfl, X', S', m', hw, hk⟩
  exact ⟨v, rfl, fun h => (hw h).mem m', hk w' m'⟩) (h w m a dst pos af g ha))
/-- a yield that comes alone: the things at hand count -/
theorem hts (hw : k + 1 ≤ c → Wk X1 S1 X S) (h : ∀ {w}, Mem b X S w → Yl P N D ρ w op ty v) (kk : HT P ops Q (TT b X1 S1 c) N D (k + 1) rest ((d, v) :: ρ) b X S) (hd : d < N := by decide) :
    HT P ops Q (TT b X1 S1 c) N D k ((none, ⟨some d, op, ty, pos, af, none⟩) :: rest) ρ b X S := fun w m => tsolo (fun h => (hw h).mem m) (h m) (kk w m) hd
theorem htskip {T : Nat → World → Prop} {g gd : Nat} {want q : Bool} {o : Oper} (ho : ops[g]? = some o) (hod : o.dst = some gd) (hb : get ρ gd = some (.bool q)) (hne : q ≠ want) (kk : HT P ops Q T N D k rest ((d, undef) :: ρ) b X S) (hd : d < N := by decide) :
    HT P ops Q T N D k ((some m, ⟨some d, op, ty, pos, af, some (g, want)⟩) :: rest) ρ b X S := fun w mm => tskip ho hod hb hne (kk w mm) hd
theorem htend {T : Nat → World → Prop} (h : HQ Q N D .normal ρ b X S) : HT P ops (NoPan Q) T N D k [] ρ b X S := fun w m => tend (h w m)
theorem htsplit {T : Nat → World → Prop} {p : Prop} [Decidable p] {l : List (Option Nat × Oper)} (gd : Nat) (hg : get ρ gd = some (.bool (decide p))) (ht : p → HT P ops Q T N D k l ((gd, .bool true) :: ρ) b X S) (hf : ¬ p → HT P ops Q T N D k l ((gd, .bool false) :: ρ) b X S) : HT P ops Q T N D k l ρ b X S :=
  fun w m => tsplit gd hg (fun h => ht h w m) (fun h => hf h w m)
theorem htmem {T : Nat → World → Prop} {l : List (Option Nat × Oper)} (h : ∀ w, Mem b X S w → Mem b X' S' w) (kk : HT P ops Q T N D k l ρ b X' S') : HT P ops Q T N D k l ρ b X S := fun w m => kk w (h w m)
theorem htfact {T : Nat → World → Prop} {l : List (Option Nat × Oper)} {p : Prop} (h : ∀ {w}, Mem b X S w → p) (kk : p → HT P ops Q T N D k l ρ b X S) : HT P ops Q T N D k l ρ b X S := fun w m => kk (h m) w m
/-! a tree of orders -/
theorem hdrwP {id : Nat} {po : PlanO} (Xs : List Nat) (p : Plan) (hm : P.follows .mixedOrders = true) (hk : (Region.noSelect ops && okP ops Xs p true (Array.replicate ops.size false) && decide (depthP p ≤ ops.size)) = true)
    (hp : fillP ops p = some po) (c : Nat) (h : HP P ops (NoPan Q) (TT b X S c) N D 0 po ρ b X S) : HC P Q N D (.region id ops true) ρ b X S := fun w m =>
  cdrwP Xs p hm hk hp (TT b X S c) (fun _ => m.lift (Fr.drew w)) fun w' f _ => h w' (m.lift f)
theorem hpy {q : PlanO} (h : ∀ {w}, Mem b X1 S1 w → Yl P N D ρ w op ty v) (kk : HP P ops Q (TT b X1 S1 c) N D k q ((d, v) :: ρ) b X S) (hmc : m ≤ c := by decide) (hd : d < N := by decide) : HP P ops Q (TT b X1 S1 c) N D k (.take ⟨some d, op, ty, pos, af, none⟩ m q) ρ b X S :=
  fun w mm => pq (fun k' w' h1 h2 hT => h (hT (Nat.le_trans h2 hmc))) (kk w mm) hd
theorem hpyU {T : Nat → World → Prop} {q : PlanO} (h : ∀ {w}, Yl P N D ρ w op ty v) (kk : HP P ops Q T N D k q ((d, v) :: ρ) b X S) (hd : d < N := by decide) : HP P ops Q T N D k (.take ⟨some d, op, ty, pos, af, none⟩ m q) ρ b X S :=
  fun w mm => pq (fun k' w' h1 h2 hT => h) (kk w mm) hd
theorem hpx {q : PlanO} (h : XH P Q N D ρ b X S op ty fun v X' S' => (k + 1 ≤ c → Wk X1 S1 X' S') ∧ HP P ops Q (TT b X1 S1 c) N D (k + 1) q ((d, v) :: ρ) b X' S') (hd : d < N := by decide) :
    HP P ops Q (TT b X1 S1 c) N D k (.alt ⟨some d, op, ty, pos, af, none⟩ q .stop) ρ b X S := fun w m => px (fun a dst pos af g ha => Oper.wp_mono (by
  rintro a' w' ⟨v, rfl, X', S', m', hw, hk⟩
  exact ⟨v, rfl, fun h => (hw h).mem m', hk w' m'⟩) (h w m a dst pos af g ha)) hd
theorem hpx0 {q : PlanO} (h : XH P Q N D ρ b X S op ty fun _ X' S' => (k + 1 ≤ c → Wk X1 S1 X' S') ∧ HP P ops Q (TT b X1 S1 c) N D (k + 1) q ρ b X' S') :
    HP P ops Q (TT b X1 S1 c) N D k (.alt ⟨none, op, ty, pos, af, none⟩ q .stop) ρ b X S := fun w m => px0 (fun a dst pos af g ha => Oper.wp_mono (by
  rintro a' w' ⟨v, rfl, X', S', m', hw, hk⟩
  exact ⟨v, rfl, fun h => (hw h).mem m', hk w' m'⟩) (h w m a dst pos af g ha))
theorem hdrwB {id : Nat} {l : List (Option Nat × Oper)} (is js : List Nat) (hX : takeR is X = some (X1, Xr)) (hS : getR js S = some S1) (Xs : List Nat) (L : List (Nat × Option Nat)) (hm : P.follows .mixedOrders = true) (hk : (Region.noSelect ops && seqOkG ops Xs L (Array.replicate ops.size false) && decide (L.length ≤ ops.size)) = true)
    (hp : pickG ops L = some l) (c : Nat) (h : HT P ops (NoPan Q) (TT b X1 S1 c) N D 0 l ρ b X S) : HC P Q N D (.region id ops true) ρ b X S := fun w m =>
  cdrwT Xs L hm hk hp (TT b X1 S1 c) (fun _ => (wk is js hX hS).mem (m.lift (Fr.drew w))) fun w' f _ => h w' (m.lift f)
theorem hpfork {T : Nat → World → Prop} {o : Oper} {q q' : PlanO} (h : HP P ops Q T N D k (.alt o q .stop) ρ b X S) (hq : HP P ops Q T N D k q' ρ b X S) : HP P ops Q T N D k (.alt o q q') ρ b X S := fun w m => pfork (h w m) (hq w m)
theorem hpend {T : Nat → World → Prop} (h : HQ Q N D .normal ρ b X S) : HP P ops (NoPan Q) T N D k .done ρ b X S := fun w m => pend (h w m)
theorem hpmem {T : Nat → World → Prop} {q : PlanO} (h : ∀ w, Mem b X S w → Mem b X' S' w) (kk : HP P ops Q T N D k q ρ b X' S') : HP P ops Q T N D k q ρ b X S := fun w m => kk w (h w m)
end
end Go.Eng
end
section
/- The engine over things in memory, third part: small facts; more operations. No statement is proved here. -/
set_option linter.unusedVariables false
set_option linter.unusedSimpArgs false
namespace Go.Eng
open Go.RowKit
theorem rdB {w : World} {A : Option Addr} {n : Nat} {l : List UInt8} (h : Rd w 1 A n (b8s l)) : l.length = n ∧ (0 < n → A ≠ none) := ⟨by have := h.1; rw [b8s_length] at this; omega, h.2.1⟩
theorem rdX {w : World} {A : Option Addr} {n sz : Nat} {l : List Value} (h : Rd w sz A n l) : l.length = n * sz ∧ (0 < n → A ≠ none) := ⟨h.1, h.2.1⟩
theorem ld_blk {w : World} {g i : Nat} {t : TypeId} {cs : List Value} {v : Value} (h : Blk w g t cs) (hv : cs[i]? = some v) : w.cell? ⟨g, i, none⟩ = some v := h.cell hv
theorem Mem.asV {b : Base} {X S : List Res} {w : World} {r r' : Res} (m : Mem b X S w) (i : Nat) (hi : S[i]? = some r) (v : View r r') : Mem b X (r' :: S) w := m.asS i hi (v.ok.1 w) v.ok.2
theorem View.trans {a b c : Res} (h : View a b) (k : View b c) : View a c := .of (fun w x => k.ok.1 w (h.ok.1 w x)) (fun i x => h.ok.2 i (k.ok.2 i x))
theorem Rd.takeM {w : World} {A : Option Addr} {n : Nat} {l : List UInt8} (h : Rd w 1 A n (b8s l)) {k : Nat} (hk : k ≤ n) : Rd w 1 A k (b8s (l.take k)) := by
  have := Rd.take h hk
  rwa [Nat.mul_one, ← b8s_take] at this
theorem b8s_ne {l : List UInt8} : b8s l ≠ [] ↔ l ≠ [] := by cases l <;> simp [b8s]
theorem View.take {A : Option Addr} {n k : Nat} {l : List UInt8} (hk : k ≤ n) : View (RRd 1 A n (b8s l)) (RRd 1 A k (b8s (l.take k))) := .of (fun w h => Rd.takeM h hk) (fun i h => by
  obtain ⟨hne, a, ha, hi⟩ := h
  exact ⟨b8s_ne.2 (fun e => by rw [e] at hne; simp [b8s] at hne), a, ha, hi⟩)
theorem View.drop {A : Option Addr} {n k c : Nat} {l : List UInt8} (hc : n ≤ c) (hk : k ≤ n) : View (RRd 1 A n (b8s l)) (RRd 1 (if c = k then A else A.map (·.add (k * 1))) (n - k) (b8s (l.drop k))) := .of (fun w h => by
    have h1 := Rd.cut h hk hc
    rw [Nat.mul_one, ← b8s_drop] at h1
    rw [Nat.mul_one]
    exact h1) (fun i h => by
  obtain ⟨hne, a, ha, hi⟩ := h
  refine ⟨b8s_ne.2 (fun e => by rw [e] at hne; simp [b8s] at hne), ?_⟩
  split at ha
  · exact ⟨a, ha, hi⟩
  · cases A with
    | none => cases ha
    | some q =>
      cases ha
      exact ⟨q, rfl, by rw [hi, add_block]⟩)
theorem View.sub {A : Option Addr} {n k m c : Nat} {l : List UInt8} (hc : n ≤ c) (hk : k + m ≤ n) : View (RRd 1 A n (b8s l)) (RRd 1 (if c = k then A else A.map (·.add (k * 1))) m (b8s ((l.drop k).take m))) :=
  (View.drop hc (by omega)).trans (View.take (by omega))
theorem Mem.eqX {b : Base} {X S : List Res} {w : World} {r r' : Res} (m : Mem b X S w) (i : Nat) (hi : X[i]? = some r) (h : r = r') : Mem b (r' :: X.eraseIdx i) S w := by
  subst h
  exact m.perm (takeR_perm [i] X [r] (X.eraseIdx i) (by simp [takeR, hi]))
theorem Mem.inP {b : Base} {X S Xp : List Res} {w : World} {r : Res} (m : Mem b X S w) (i : Nat) (hi : X[i]? = some (RPack Xp)) (j : Nat) (hj : Xp[j]? = some r) : r.holds w := (m.hx _ (List.mem_of_getElem? hi)).2 _ (List.mem_of_getElem? hj)
theorem View.comp {Xp : List Res} {r : Res} (j : Nat) (hj : Xp[j]? = some r) : View (RPack Xp) r := .of (fun w h => h.2 _ (List.mem_of_getElem? hj)) (fun k hk => ⟨r, List.mem_of_getElem? hj, hk⟩)
theorem con_calls {P : Program} {f : Nat} {vs : List Value} {S0 : List Res} {u : Value} (h : Con P f vs [] S0 (fun v X S => v = u ∧ X = [] ∧ S = [])) {w : World} (hs : ∀ s ∈ S0, s.holds w) : Calls P f vs.toArray w fun e w' => e = .returned u ∧ Fr No w w' := by
  refine Calls.mono (h w (.start (by simp) (by simp) (by simp) hs)) ?_
  rintro e w' ⟨v, X', S', rfl, ⟨rfl, rfl, rfl⟩, m⟩
  exact ⟨rfl, m.fr.mono (fun i _ hi => by obtain ⟨r, hr, _⟩ := hi; simp at hr)⟩
theorem con_own1 {P : Program} {f : Nat} {vs : List Value} {S0 : List Res} {R : Value → List Res → List Res → Prop} (h : ∀ {w b}, Mem b [] S0 w → Calls P f vs.toArray w fun e w' => ∃ v u e_ sz n xs, e = .returned v ∧ R v [ROwn e_ sz u n xs] [] ∧ Own w' w.heap.size e_ sz u n xs ∧ Fr No w w') : Con P f vs [] S0 R := fun w m => by
  refine Calls.mono (h m) ?_
  rintro e w' ⟨v, u, e_, sz, n, xs, rfl, hR, ho, hf⟩
  have m0 : Mem ⟨w, feet [], feet S0⟩ [] [] w := m.subS (by simp)
  exact ⟨v, [ROwn e_ sz u n xs], [], rfl, hR, m0.addX (r' := ROwn e_ sz u n xs) hf ho.base0 (fun k hk => (ho.from hk).1)⟩
/-! rows of bytes -/
structure BRow where
  A : Option Addr
  n : Nat
  c : Nat
  l : List UInt8
def BRow.val (r : BRow) : Value := .slice r.A r.n r.c
def BRow.res (r : BRow) : Res := RRd 1 r.A r.n (b8s r.l)
def RRows (rows : List BRow) : Res := ⟨fun k => ∃ r ∈ rows, r.res.foot k, fun w => ∀ r ∈ rows, r.res.holds w ∧ r.n ≤ r.c, fun f h x r hr => ⟨r.res.keep f (fun k hk => h k ⟨r, hr, hk⟩) (x r hr).1, (x r hr).2⟩, fun x hk => by
  obtain ⟨r, hr, hk⟩ := hk
  exact r.res.low (x r hr).1 hk⟩
inductive RowsIn (S : List Res) : List BRow → Prop
  | nil : RowsIn S []
  | cons {r : BRow} {rest : List BRow} (j : Nat) (h : S[j]? = some (RRd 1 r.A r.n (b8s r.l))) (hc : r.n ≤ r.c) (t : RowsIn S rest) : RowsIn S (r :: rest)
theorem RowsIn.all {S : List Res} {rows : List BRow} (h : RowsIn S rows) : ∀ r ∈ rows, r.res ∈ S ∧ r.n ≤ r.c := by
  induction h with
  | nil => simp
  | cons j h hc t ih =>
    intro r hr
    rcases List.mem_cons.1 hr with rfl | hr
    · exact ⟨List.mem_of_getElem? h, hc⟩
    · exact ih r hr
theorem Mem.rows {b : Base} {X S : List Res} {w : World} {rows : List BRow} (m : Mem b X S w) (h : RowsIn S rows) : Mem b X (RRows rows :: S) w :=
  m.addS (.refl _ _) (fun r hr => ⟨m.hs _ (h.all r hr).1, (h.all r hr).2⟩) (fun k hk => by
    obtain ⟨r, hr, hk⟩ := hk
    exact .inr ⟨_, (h.all r hr).1, hk⟩)
theorem View.row {rows : List BRow} {r : BRow} {i : Nat} (h : rows[i]? = some r) : View (RRows rows) (RRd 1 r.A r.n (b8s r.l)) :=
  .of (fun w x => (x r (List.mem_of_getElem? h)).1) (fun k hk => ⟨r, List.mem_of_getElem? h, hk⟩)
theorem Mem.sres {b : Base} {X S : List Res} {w : World} {r : Res} (m : Mem b X S w) (i : Nat) (h : S[i]? = some r) : r.holds w := m.hs _ (List.mem_of_getElem? h)
section
variable {P : Program} {N : Nat} {D : List Deferred} {ρ : Env} {w : World} {ty t t' : TypeId} {x y : Operand}
theorem y_eqPn {a : Option Addr} (hx : ev ρ x = some (.pointer a)) (hy : ev ρ y = some (.pointer none)) (ht : P.underlying t = some (.pointer (P.pointee t))) : Yl P N D ρ w (.binOp .eql t x y t') ty (.bool a.isNone) :=
  fun _ _ _ _ _ ha => by
    simp only [execOp, ha.eval hx, ha.eval hy]
    simp [eqGuard, run_eql_pointer_nil (P := P) w t a ht]
end
section
variable {P : Program} {fn : Func} {R : Value → List Res → List Res → Prop} {N : Nat} {ρ : Env} {b : Base} {X X' Xz S S' : List Res} {e : Exit}
end
end Go.Eng
end
section
/- The engine over things in memory, fourth part: maps. No statement is proved here. -/
set_option linter.unusedVariables false
set_option linter.unusedSimpArgs false
set_option linter.unusedSectionVars false
namespace Go.Eng
open Go.RowKit
open Go.ChangeMaps (setBlock)
/-! ### Lists by keys -/
section
variable {κ α : Type} [DecidableEq κ]
def aget : List (κ × α) → κ → Option α
  | [], _ => none
  | (k, v) :: r, q => if k = q then some v else aget r q
def aput : List (κ × α) → κ → α → List (κ × α)
  | [], q, u => [(q, u)]
  | (k, v) :: r, q, u => if k = q then (k, u) :: r else (k, v) :: aput r q u
def adel : List (κ × α) → κ → List (κ × α)
  | [], _ => []
  | (k, v) :: r, q => if k = q then r else (k, v) :: adel r q
def akeys (l : List (κ × α)) : List κ := l.map (·.1)
theorem aput_keys : ∀ (l : List (κ × α)) (q : κ) (u : α), akeys (aput l q u) = if q ∈ akeys l then akeys l else akeys l ++ [q]
  | [], q, u => by simp [akeys, aput]
  | (k, v) :: r, q, u => by
    have ih := aput_keys r q u
    unfold aput
    by_cases h : k = q
    · simp [h, akeys]
    · have h' : ¬ q = k := fun e => h e.symm
      rw [if_neg h]
      simp only [akeys, List.map_cons, List.mem_cons, h', false_or] at ih ⊢
      by_cases hm : q ∈ List.map (fun x => x.fst) r <;> simp [hm, ih]
theorem nodup_snoc {l : List κ} {q : κ} (h : l.Nodup) (hq : ¬ q ∈ l) : (l ++ [q]).Nodup := by
  rw [List.nodup_append]
  refine ⟨h, by simp, fun a ha b hb e => ?_⟩
  rcases List.mem_singleton.1 hb with rfl
  exact hq (e ▸ ha)
theorem aput_nodup {l : List (κ × α)} {q : κ} {u : α} (h : (akeys l).Nodup) : (akeys (aput l q u)).Nodup := by
  rw [aput_keys]
  split
  · exact h
  · rename_i hq
    exact nodup_snoc h hq
theorem adel_keys : ∀ (l : List (κ × α)) (q : κ), akeys (adel l q) = (akeys l).erase q
  | [], q => by simp [akeys, adel]
  | (k, v) :: r, q => by
    have ih := adel_keys r q
    unfold adel
    by_cases h : k = q
    · simp [h, akeys]
    · rw [if_neg h]
      simp only [akeys, List.map_cons] at ih ⊢
      rw [List.erase_cons, ih]
      simp [h]
theorem adel_nodup {l : List (κ × α)} {q : κ} (h : (akeys l).Nodup) : (akeys (adel l q)).Nodup := by
  rw [adel_keys]
  exact h.sublist List.erase_sublist
theorem aget_none {l : List (κ × α)} {q : κ} : aget l q = none ↔ ¬ q ∈ akeys l := by
  induction l with
  | nil => simp [aget, akeys]
  | cons p r ih =>
    obtain ⟨k, v⟩ := p
    simp only [aget, akeys, List.map_cons, List.mem_cons] at ih ⊢
    by_cases h : k = q
    · simp [h]
    · have h' : ¬ q = k := fun e => h e.symm
      rw [if_neg h, ih]; simp [h']
theorem aget_mem {l : List (κ × α)} {q : κ} {v : α} (h : aget l q = some v) : (q, v) ∈ l := by
  induction l with
  | nil => simp [aget] at h
  | cons p r ih =>
    obtain ⟨k, u⟩ := p
    simp only [aget] at h
    split at h
    · rename_i e; cases h; simp [e]
    · exact List.mem_cons_of_mem _ (ih h)
theorem aget_of_mem {l : List (κ × α)} {q : κ} {v : α} (hn : (akeys l).Nodup) (h : (q, v) ∈ l) : aget l q = some v := by
  induction l with
  | nil => simp at h
  | cons p r ih =>
    obtain ⟨k, u⟩ := p
    simp only [akeys, List.map_cons, List.nodup_cons] at hn
    simp only [aget]
    rcases List.mem_cons.1 h with e | h
    · cases e; simp
    · have : k ≠ q := fun e => hn.1 (by rw [e]; exact List.mem_map.2 ⟨_, h, rfl⟩)
      rw [if_neg this]
      exact ih hn.2 h
theorem aget_aput {l : List (κ × α)} {q p : κ} {u : α} : aget (aput l q u) p = if q = p then some u else aget l p := by
  induction l with
  | nil => simp only [aput, aget]
  | cons x r ih =>
    obtain ⟨k, v⟩ := x
    simp only [aput]
    by_cases h : k = q
    · subst h
      rw [if_pos rfl]
      simp only [aget]
      split <;> simp_all
    · rw [if_neg h]
      simp only [aget, ih]
      by_cases h1 : k = p
      · have : ¬ q = p := fun e => h (by rw [h1, e])
        simp [h1, this]
      · simp [h1]
end
/-! ### Keys -/
/-- what the machine does with keys of a type -/
structure KeyK (P : Program) (kt : TypeId) {κ : Type} (enc : κ → Value) : Prop where
  inj : ∀ a b, enc a = enc b → a = b
  check : ∀ w e k, (Instr.checkKey e 10000 kt (enc k)).run P w = .ok () w
  find : ∀ w (k : κ) (es : List MapEntry), (∀ x ∈ es, ∃ q, x.key = enc q) →
    (∃ i x, es[i]? = some x ∧ x.key = enc k ∧ (Instr.findKey kt (enc k) es).run P w = .ok (some (i, x.val)) w) ∨ ((∀ x ∈ es, x.key ≠ enc k) ∧ (Instr.findKey kt (enc k) es).run P w = .ok none w)
  stays : ∀ w k, (Instr.keyThatStays (enc k) (enc k)).run P w = .ok (enc k) w
def SV (s : List UInt8) : Value := .string (strOf s)
def DV (d : List UInt8) : Value := .agg (b8s d).toArray
theorem DV_inj {a b : List UInt8} (h : DV a = DV b) : a = b := by
  simp only [DV, Value.agg.injEq] at h
  exact b8s_inj (List.toArray_inj h)
/-! ### A map -/
section
variable {κ : Type} {enc : κ → Value}
/-- Block b is a map of these, in the order in which they came. -/
def MapAt (enc : κ → Value) (w : World) (b : Nat) (l : List (κ × Value)) : Prop :=
  ∃ es clock, w.heap[b]? = some (.map es clock) ∧ es.toList.map (fun e => (e.key, e.val)) = l.map (fun p => (enc p.1, p.2)) ∧ (akeys l).Nodup ∧ (∀ e ∈ es.toList, e.born < clock) ∧ (es.toList.map (·.born)).Nodup
def RMap (enc : κ → Value) (b : Nat) (l : List (κ × Value)) : Res where
  foot k := k = b
  holds w := MapAt enc w b l
  keep f h m := by
    obtain ⟨es, clock, hb, rest⟩ := m
    exact ⟨es, clock, (f.block b (lt_of_heap hb) (h b rfl)).trans hb, rest⟩
  low m hk := by
    obtain ⟨es, clock, hb, rest⟩ := m
    exact hk ▸ lt_of_heap hb
variable {P : Program} {w : World} {b : Nat} {l : List (κ × Value)} {kt et t : TypeId}
theorem MapAt.keys (h : MapAt enc w b l) : (akeys l).Nodup := by
  obtain ⟨_, _, _, _, hn, _⟩ := h
  exact hn
theorem map_pairs_get {es : List MapEntry} {l : List (κ × Value)} (h : es.map (fun e => (e.key, e.val)) = l.map (fun p => (enc p.1, p.2))) {i : Nat} {x : MapEntry} (hx : es[i]? = some x) : ∃ p, l[i]? = some p ∧ x.key = enc p.1 ∧ x.val = p.2 := by
  have := congrArg (fun q : List (Value × Value) => q[i]?) h
  simp only [List.getElem?_map, hx, Option.map_some] at this
  cases hp : l[i]? with
  | none => rw [hp] at this; simp at this
  | some p =>
    rw [hp] at this
    simp only [Option.map_some, Option.some.injEq, Prod.mk.injEq] at this
    exact ⟨p, rfl, this.1, this.2⟩
theorem entries_enc {es : List MapEntry} {l : List (κ × Value)} (h : es.map (fun e => (e.key, e.val)) = l.map (fun p => (enc p.1, p.2))) : ∀ x ∈ es, ∃ q, x.key = enc q := by
  intro x hx
  obtain ⟨i, hi⟩ := List.mem_iff_getElem?.1 hx
  obtain ⟨p, _, hk, _⟩ := map_pairs_get h hi
  exact ⟨p.1, hk⟩
variable [DecidableEq κ]
theorem aget_at {l : List (κ × Value)} (hn : (akeys l).Nodup) {i : Nat} {p : κ × Value} (h : l[i]? = some p) : aget l p.1 = some p.2 := aget_of_mem hn (List.mem_of_getElem? h)
/-- what stands at a key -/
theorem MapAt.found (h : MapAt enc w b l) (K : KeyK P kt enc) (k : κ) : ∃ es clock, w.heap[b]? = some (.map es clock) ∧ es.toList.map (fun e => (e.key, e.val)) = l.map (fun p => (enc p.1, p.2)) ∧
    (∀ e ∈ es.toList, e.born < clock) ∧ (es.toList.map (·.born)).Nodup ∧
    ((∃ i x, es.toList[i]? = some x ∧ l[i]? = some (k, x.val) ∧ aget l k = some x.val ∧ x.key = enc k ∧ (Instr.findKey kt (enc k) es.toList).run P w = .ok (some (i, x.val)) w) ∨
     (aget l k = none ∧ (Instr.findKey kt (enc k) es.toList).run P w = .ok none w)) := by
  obtain ⟨es, clock, hb, hl, hn, hborn, hnb⟩ := h
  refine ⟨es, clock, hb, hl, hborn, hnb, ?_⟩
  rcases K.find w k es.toList (entries_enc hl) with ⟨i, x, hi, hx, hf⟩ | ⟨hall, hf⟩
  · obtain ⟨p, hp, hpk, hpv⟩ := map_pairs_get hl hi
    have e : p.1 = k := K.inj _ _ (hpk.symm.trans hx)
    have hp' : l[i]? = some (k, x.val) := by rw [hp, hpv, ← e]
    exact .inl ⟨i, x, hi, hp', by have := aget_at hn hp'; exact this, hx, hf⟩
  · refine .inr ⟨aget_none.2 fun hk => ?_, hf⟩
    obtain ⟨p, hp, e⟩ := List.mem_map.1 hk
    obtain ⟨i, hi⟩ := List.mem_iff_getElem?.1 hp
    have h1 := congrArg (fun q : List (Value × Value) => q[i]?) hl
    simp only [List.getElem?_map, hi, Option.map_some] at h1
    cases hx : es.toList[i]? with
    | none => simp [hx] at h1
    | some x =>
      simp only [hx, Option.map_some, Option.some.injEq, Prod.mk.injEq] at h1
      exact hall x (List.mem_of_getElem? hx) (by rw [h1.1, e])
def lookVal (ok : Bool) (z : Value) (o : Option Value) : Value := if ok then .tuple #[o.getD z, .bool o.isSome] else o.getD z
theorem run_zero {z : Value} {sz bytes : Nat} (hT : TI P et z sz bytes) : (zeroValue et).run P w = .ok z w := by
  obtain ⟨i, hi, hz, _, _⟩ := hT.get
  simp [zeroValue, typeInfo, hi, hz]
theorem run_lookupM {z : Value} {sz bytes : Nat} {ok : Bool} (ht : P.underlying t = some (.map kt et)) (hT : TI P et z sz bytes) (K : KeyK P kt enc) (h : MapAt enc w b l) (k : κ) :
    (Instr.lookup t (.map (some b)) (enc k) ok).run P w = .ok (lookVal ok z (aget l k)) w := by
  obtain ⟨es, clock, hb, hl, hborn, hnb, hf⟩ := h.found K k
  have hg : (getObj b).run P w = .ok (.map es clock) w := by simp [getObj, Sem.run, hb]
  have hc := K.check w es.isEmpty k
  have hz := run_zero (w := w) hT
  rcases hf with ⟨i, x, hi, hp, ha, hx, hf⟩ | ⟨ha, hf⟩ <;> cases ok <;> simp [Instr.lookup, run_underlying ht, hg, hc, hf, ha, hz, lookVal]
theorem run_lenM (ht : P.underlying t = some (.map kt et)) (h : MapAt enc w b l) (ty : TypeId) : (Builtin.len_ #[t] ty #[.map (some b)]).run P w = .ok (.int .i64 (l.length : Nat)) w := by
  obtain ⟨es, clock, hb, hl, _⟩ := h
  have hg : (getObj b).run P w = .ok (.map es clock) w := by simp [getObj, Sem.run, hb]
  have : es.size = l.length := by
    have := congrArg List.length hl
    simpa using this
  simp [Builtin.len_, run_underlying ht, hg, goInt, this]
theorem setBlock_fr {o' : Obj} : Fr (fun k => k = b) w (setBlock w b o') :=
  ⟨rfl, rfl, rfl, by simp [setBlock], fun k hk hn => by
    simp only [setBlock]
    rw [Array.getElem?_setIfInBounds_ne (fun e => hn e.symm)]⟩
theorem setBlock_at {o o' : Obj} (h : w.heap[b]? = some o) : (setBlock w b o').heap[b]? = some o' := by
  have hlt := lt_of_heap h
  simp [setBlock, hlt]
theorem run_setObjM {es es' : Array MapEntry} {c c' : Nat} (hb : w.heap[b]? = some (.map es c)) : (setObj b (.map es' c')).run P w = .ok () (setBlock w b (.map es' c')) := by
  simp [setObj, Sem.run, hb, setBlock]
theorem aput_at {l : List (κ × Value)} {k : κ} {v u : Value} : ∀ {i : Nat}, (akeys l).Nodup → l[i]? = some (k, u) → aput l k v = l.set i (k, v) := by
  induction l with
  | nil => intro i _ h; simp at h
  | cons p r ih =>
    intro i hn h
    obtain ⟨q, x⟩ := p
    simp only [akeys, List.map_cons, List.nodup_cons] at hn
    cases i with
    | zero =>
      simp only [List.getElem?_cons_zero, Option.some.injEq, Prod.mk.injEq] at h
      simp [aput, h.1]
    | succ i =>
      simp only [List.getElem?_cons_succ] at h
      have hne : q ≠ k := fun e => hn.1 (by rw [e]; exact List.mem_map.2 ⟨_, List.mem_of_getElem? h, rfl⟩)
      simp only [aput, hne, if_false, List.set_cons_succ]
      rw [ih hn.2 h]
theorem adel_at {l : List (κ × Value)} {k : κ} {u : Value} : ∀ {i : Nat}, (akeys l).Nodup → l[i]? = some (k, u) → adel l k = l.eraseIdx i := by
  induction l with
  | nil => intro i _ h; simp at h
  | cons p r ih =>
    intro i hn h
    obtain ⟨q, x⟩ := p
    simp only [akeys, List.map_cons, List.nodup_cons] at hn
    cases i with
    | zero =>
      simp only [List.getElem?_cons_zero, Option.some.injEq, Prod.mk.injEq] at h
      simp [adel, h.1]
    | succ i =>
      simp only [List.getElem?_cons_succ] at h
      have hne : q ≠ k := fun e => hn.1 (by rw [e]; exact List.mem_map.2 ⟨_, List.mem_of_getElem? h, rfl⟩)
      simp only [adel, hne, if_false, List.eraseIdx_cons_succ]
      rw [ih hn.2 h]
theorem aput_new {l : List (κ × Value)} {k : κ} {v : Value} (h : aget l k = none) : aput l k v = l ++ [(k, v)] := by
  induction l with
  | nil => rfl
  | cons p r ih =>
    obtain ⟨q, x⟩ := p
    simp only [aget] at h
    split at h
    · cases h
    · rename_i hne
      simp only [aput, hne, if_false, ih h, List.cons_append]
theorem adel_none {l : List (κ × Value)} {k : κ} (h : aget l k = none) : adel l k = l := by
  induction l with
  | nil => rfl
  | cons p r ih =>
    obtain ⟨q, x⟩ := p
    simp only [aget] at h
    split at h
    · cases h
    · rename_i hne
      simp only [adel, hne, if_false, ih h]
theorem run_updateM (ht : P.underlying t = some (.map kt et)) (K : KeyK P kt enc) (h : MapAt enc w b l) (k : κ) (v : Value) :
    ∃ w', (Instr.mapUpdate t (.map (some b)) (enc k) v).run P w = .ok () w' ∧ MapAt enc w' b (aput l k v) ∧ Fr (fun i => i = b) w w' ∧ w'.heap.size = w.heap.size := by
  have hn := h.keys
  obtain ⟨es, clock, hb, hl, hborn, hnb, hf⟩ := h.found K k
  have hg : (getObj b).run P w = .ok (.map es clock) w := by simp [getObj, Sem.run, hb]
  have hc := K.check w false k
  rcases hf with ⟨i, x, hi, hp, ha, hx, hf⟩ | ⟨ha, hf⟩
  · have hst := K.stays w k
    have hxi : es[i]? = some x := by simpa using hi
    refine ⟨setBlock w b (.map (es.modify i fun e => { e with key := enc k, val := v }) clock), ?_, ⟨_, clock, setBlock_at hb, ?_, aput_nodup hn, ?_, ?_⟩, setBlock_fr, by simp [setBlock]⟩
    · simp [Instr.mapUpdate, run_underlying ht, hg, hc, hf, hxi, hx, hst, run_setObjM hb]
    · rw [aput_at hn hp, Array.toList_modify]
      apply List.ext_getElem?
      intro j
      have hj := congrArg (fun q : List (Value × Value) => q[j]?) hl
      simp only [List.getElem?_map] at hj
      simp only [List.getElem?_map, List.getElem?_modify, List.getElem?_set]
      by_cases hij : i = j
      · subst hij
        have hlt := (List.getElem?_eq_some_iff.1 hp).1
        simp [hi, hlt]
      · simp only [hij, if_false]
        simpa using hj
    · intro e he
      rw [Array.toList_modify] at he
      obtain ⟨j, hj⟩ := List.mem_iff_getElem?.1 he
      rw [List.getElem?_modify] at hj
      cases hej : es.toList[j]? with
      | none => rw [hej] at hj; simp at hj
      | some e0 =>
        have := hborn e0 (List.mem_of_getElem? hej)
        rw [hej] at hj
        simp only [Option.map_eq_map, Option.map_some, Option.some.injEq] at hj
        subst hj
        split <;> exact this
    · have : (es.modify i fun e => { e with key := enc k, val := v }).toList.map (·.born) = es.toList.map (·.born) := by
        apply List.ext_getElem?
        intro j
        rw [Array.toList_modify]
        simp only [List.getElem?_map, List.getElem?_modify]
        cases es.toList[j]? with
        | none => rfl
        | some e0 => simp only [Option.map_eq_map, Option.map_some]; split <;> rfl
      rw [this]
      exact hnb
  · refine ⟨setBlock w b (.map (es.push { key := enc k, val := v, born := clock }) (clock + 1)), ?_, ⟨_, _, setBlock_at hb, ?_, aput_nodup hn, ?_, ?_⟩, setBlock_fr, by simp [setBlock]⟩
    · simp [Instr.mapUpdate, run_underlying ht, hg, hc, hf, run_setObjM hb]
    · rw [aput_new ha, Array.toList_push, List.map_append, hl]
      simp
    · intro e he
      rw [Array.toList_push] at he
      rcases List.mem_append.1 he with he | he
      · have := hborn e he; omega
      · rcases List.mem_singleton.1 he with rfl
        exact Nat.lt_succ_self _
    · rw [Array.toList_push, List.map_append]
      refine nodup_snoc hnb (fun hm => ?_)
      obtain ⟨e, he, hk⟩ := List.mem_map.1 hm
      have := hborn e he
      simp only at hk
      omega
theorem map_eraseIdx {α β : Type} (f : α → β) : ∀ (l : List α) (i : Nat), (l.eraseIdx i).map f = (l.map f).eraseIdx i
  | [], i => by simp
  | a :: r, 0 => by simp
  | a :: r, i + 1 => by simp [map_eraseIdx f r i]
theorem run_deleteM (ht : P.underlying t = some (.map kt et)) (K : KeyK P kt enc) (h : MapAt enc w b l) (k : κ) (t' ty : TypeId) :
    ∃ w', (Builtin.delete_ #[t, t'] ty #[.map (some b), enc k]).run P w = .ok (.tuple #[]) w' ∧ MapAt enc w' b (adel l k) ∧ Fr (fun i => i = b) w w' ∧ w'.heap.size = w.heap.size := by
  have hn := h.keys
  obtain ⟨es, clock, hb, hl, hborn, hnb, hf⟩ := h.found K k
  have hg : (getObj b).run P w = .ok (.map es clock) w := by simp [getObj, Sem.run, hb]
  have hc := K.check w es.isEmpty k
  rcases hf with ⟨i, x, hi, hp, ha, hx, hf⟩ | ⟨ha, hf⟩
  · refine ⟨setBlock w b (.map (es.eraseIdxIfInBounds i) clock), ?_, ⟨_, clock, setBlock_at hb, ?_, adel_nodup hn, ?_, ?_⟩, setBlock_fr, by simp [setBlock]⟩
    · simp [Builtin.delete_, run_underlying ht, hg, hc, hf, run_setObjM hb]
    · rw [adel_at hn hp]
      have e1 : (es.eraseIdxIfInBounds i).toList = es.toList.eraseIdx i := by simp
      rw [e1, map_eraseIdx, hl, map_eraseIdx]
    · intro e he
      have e1 : (es.eraseIdxIfInBounds i).toList = es.toList.eraseIdx i := by simp
      rw [e1] at he
      exact hborn e (List.mem_of_mem_eraseIdx he)
    · have e1 : (es.eraseIdxIfInBounds i).toList = es.toList.eraseIdx i := by simp
      rw [e1, map_eraseIdx]
      exact hnb.sublist (List.eraseIdx_sublist _ _)
  · refine ⟨setBlock w b (.map es clock), ?_, ⟨es, clock, setBlock_at hb, by rw [adel_none ha]; exact hl, adel_nodup hn, hborn, hnb⟩, setBlock_fr, by simp [setBlock]⟩
    simp [Builtin.delete_, run_underlying ht, hg, hc, hf, run_setObjM hb]
end
end Go.Eng
end
section
/- The engine over things in memory, fifth part: operations on maps, ranges over maps, locks, what is done at a function's end. No statement is proved here. -/
set_option linter.unusedVariables false
set_option linter.unusedSimpArgs false
set_option linter.unusedSectionVars false
namespace Go.Eng
open Go.RowKit
open Go.ChangeMaps (setBlock)
/-! ### a range over a map -/
section
variable {P : Program} {Q : Exit → Act → World → Prop} {N : Nat} {D : List Deferred} {ρ : Env} {b : Base} {X S : List Res} {ty t t' kt et : TypeId} {x y z : Operand} {v : Value} {K : Value → List Res → List Res → Prop}
variable {κ : Type} [DecidableEq κ] {enc : κ → Value} {g : Nat} {l : List (κ × Value)}
theorem y_lookM {w : World} {zv : Value} {sz bytes : Nat} {ok : Bool} {k : κ} (hx : ev ρ x = some (.map (some g))) (hy : ev ρ y = some (enc k)) (ht : P.underlying t = some (.map kt et)) (hT : TI P et zv sz bytes) (KK : KeyK P kt enc) (h : MapAt enc w g l) :
    Yl P N D ρ w (.lookup t x y ok) ty (lookVal ok zv (aget l k)) := fun a _ _ _ _ ha => by
  have := run_lookupM (ok := ok) ht hT KK h k
  simp [execOp, ha.eval hx, ha.eval hy, this]
theorem y_lenM {w : World} (hx : ev ρ x = some (.map (some g))) (ht : P.underlying t = some (.map kt et)) (h : MapAt enc w g l) : Yl P N D ρ w (.call ⟨.builtin .len, #[x], #[t]⟩) ty (.int .i64 (l.length : Nat)) := fun a _ _ _ _ ha => by
  have := run_lenM ht h ty
  simp [execOp, resolve, invoke, builtin, ha.eval hx, this]
theorem Mem.mapX {w : World} (m : Mem b X S w) (i : Nat) (h : X[i]? = some (RMap enc g l)) : MapAt enc w g l := m.hx _ (List.mem_of_getElem? h)
theorem xh_mapup {k : κ} (i : Nat) (hi : X[i]? = some (RMap enc g l)) (hx : ev ρ x = some (.map (some g))) (hy : ev ρ y = some (enc k)) (hz : ev ρ z = some v) (ht : P.underlying t = some (.map kt et)) (KK : KeyK P kt enc)
    (k' : K undef (RMap enc g (aput l k v) :: X.eraseIdx i) S) : XH P Q N D ρ b X S (.mapUpdate t x y z) ty K := fun w m => by
  obtain ⟨w', hr, hm, hf, hs⟩ := run_updateM (P := P) ht KK (m.mapX i hi) k v
  refine xw_of_run0 (w' := w') (fun a _ _ _ _ ha => ?_) ⟨_, _, ?_, k'⟩
  · simp [execOp, ha.eval hx, ha.eval hy, ha.eval hz, hr]
  · have m' := m.perm (takeR_perm [i] X [RMap enc g l] (X.eraseIdx i) (by simp [takeR, hi]))
    exact m'.change (r' := RMap enc g (aput l k v)) hf hm (fun k hk => .inl hk)
theorem xh_mapdel {k : κ} (i : Nat) (hi : X[i]? = some (RMap enc g l)) (hx : ev ρ x = some (.map (some g))) (hy : ev ρ y = some (enc k)) (ht : P.underlying t = some (.map kt et)) (KK : KeyK P kt enc)
    (k' : K (.tuple #[]) (RMap enc g (adel l k) :: X.eraseIdx i) S) : XH P Q N D ρ b X S (.call ⟨.builtin .delete, #[x, y], #[t, t']⟩) ty K := fun w m => by
  obtain ⟨w', hr, hm, hf, hs⟩ := run_deleteM (P := P) ht KK (m.mapX i hi) k t' ty
  refine xw_of_run (v' := .tuple #[]) (w' := w') (fun a _ _ _ _ ha => ?_) ⟨_, _, ?_, k'⟩
  · simp [execOp, resolve, invoke, builtin, ha.eval hx, ha.eval hy, hr]
  · have m' := m.perm (takeR_perm [i] X [RMap enc g l] (X.eraseIdx i) (by simp [takeR, hi]))
    exact m'.change (r' := RMap enc g (adel l k)) hf hm (fun k hk => .inl hk)
theorem mapAt_new (enc : κ → Value) (w : World) : MapAt enc (w.alloc (.map #[] 0)) w.heap.size ([] : List (κ × Value)) := ⟨#[], 0, heap_alloc_new w _, rfl, by simp [akeys], by simp, by simp⟩
theorem xh_mkmap (enc : κ → Value) (k : ∀ g, K (.map (some g)) (RMap enc g ([] : List (κ × Value)) :: X) S) : XH P Q N D ρ b X S (.makeMap t none) ty K := fun w m => by
  refine xw_of_run (v' := .map (some w.heap.size)) (w' := w.alloc (.map #[] 0)) (fun a _ _ _ _ ha => ?_) ⟨_, _, m.addX (r' := RMap enc w.heap.size ([] : List (κ × Value))) (Fr.alloc w _) (mapAt_new enc w) (fun k hk => Nat.le_of_eq (Eq.symm hk)), k _⟩
  simp [execOp, Instr.makeMap, newObj, Sem.run]
end
/-! ### digests as keys -/
abbrev Dg := {l : List UInt8 // l.length = 32}
def DK (d : Dg) : Value := DV d.1
theorem same_u8s (n : Nat) : ∀ l : List UInt8, ((b8s l).zip (b8s l)).all (fun (x, y) => Instr.sameBits n x y) = true
  | [] => rfl
  | a :: r => by
    have := same_u8s n r
    simp only [b8s, List.map_cons, List.zip_cons_cons, List.all_cons, Bool.and_eq_true] at this ⊢
    refine ⟨?_, this⟩
    cases n <;> simp [Instr.sameBits, B8]
theorem digKey {P : Program} {kt e : TypeId} {n : Nat} (hn : n = 32) (ht : P.underlying kt = some (.array n e)) (he : P.underlying e = some (.int .u8)) (hs : P.cellsOf kt = n) (hse : P.cellsOf e = 1) (hk : P.keyTypeAt 2 kt = true) : KeyK P kt DK where
  inj a b h := Subtype.ext (DV_inj h)
  check w em d := by
    subst hn
    have h1 : (DK d).formed P kt = true := by simp [Value.formed, DK, DV, ht, b8s_length, d.2, hs]
    have h2 := keyLits_b8 (P := P) (D := 0) (l := d.1) ht he hs hse d.2
    exact run_checkKey_deep em 9998 2 kt hk w 2 (DK d) _ h1 (by simpa [DK, DV, Value.cells] using h2)
  find w k es h := by
    subst hn
    have hag : aggB P kt = some true := by simp [aggB, ht]
    have heq : ∀ q : Dg, (Op.equal kt (DK k) (DK q)).run P w = .ok (decide (k = q)) w := fun q => by
      have h2 := keyLits_b8 (P := P) (D := 0) (l := k.1) ht he hs hse k.2
      have h3 := keyLits_b8 (P := P) (D := 0) (l := q.1) ht he hs hse q.2
      exact run_eqlK (m := 2) (p := k = q) (by decide) hk hag (by rw [b8s_length, hs]; exact k.2) (by rw [b8s_length, hs]; exact q.2) h2 h3 (by rw [lits_b8_inj]; exact ⟨fun e => Subtype.ext e, fun e => by rw [e]⟩)
    have hnow : ∀ (es : List MapEntry) (i : Nat), es ≠ [] → Instr.findNow (.array 32 e) (DK k) es i = none := fun es i hne => by
      cases es with
      | nil => exact absurd rfl hne
      | cons x r => rfl
    have hask : ∀ (es : List MapEntry) (i : Nat), (∀ x ∈ es, ∃ q, x.key = DK q) → (∃ j x, es[j]? = some x ∧ x.key = DK k ∧ (Instr.findAsking kt (DK k) es i).run P w = .ok (some (i + j, x.val)) w) ∨ ((∀ x ∈ es, x.key ≠ DK k) ∧ (Instr.findAsking kt (DK k) es i).run P w = .ok none w) := by
      intro es
      induction es with
      | nil => intro i _; exact .inr ⟨by simp, rfl⟩
      | cons x r ih =>
        intro i h
        obtain ⟨q, hq⟩ := h x (by simp)
        have hx := heq q
        rw [← hq] at hx
        by_cases hkq : k = q
        · rw [decide_eq_true hkq] at hx
          exact .inl ⟨0, x, rfl, by rw [hq, hkq], by simp [Instr.findAsking, hx]⟩
        · rw [decide_eq_false hkq] at hx
          rcases ih (i + 1) (fun y hy => h y (by simp [hy])) with ⟨j, y, hj, hy, hf⟩ | ⟨hall, hf⟩
          · refine .inl ⟨j + 1, y, by simpa using hj, hy, ?_⟩
            simp [Instr.findAsking, hx, hf]
            omega
          · refine .inr ⟨fun y hy => ?_, by simp [Instr.findAsking, hx, hf]⟩
            rcases List.mem_cons.1 hy with rfl | hy
            · rw [hq]; exact fun e => hkq (Subtype.ext (DV_inj e)).symm
            · exact hall y hy
    cases es with
    | nil => exact .inr ⟨by simp, by simp [Instr.findKey, run_underlying ht, Instr.findNow]⟩
    | cons x r =>
      have h0 := hnow (x :: r) 0 (by simp)
      rcases hask (x :: r) 0 h with ⟨j, y, hj, hy, hf⟩ | ⟨hall, hf⟩
      · refine .inl ⟨j, y, hj, hy, ?_⟩
        simp [Instr.findKey, run_underlying ht, h0, hf]
      · exact .inr ⟨hall, by simp [Instr.findKey, run_underlying ht, h0, hf]⟩
  stays w k := by
    have : Instr.sameBits 10000 (DK k) (DK k) = true := by
      show ((b8s k.1).toArray.size == (b8s k.1).toArray.size && ((b8s k.1).toArray.toList.zip (b8s k.1).toArray.toList).all fun (x, y) => Instr.sameBits 9999 x y) = true
      simp only [beq_self_eq_true, Bool.true_and]
      exact same_u8s 9999 k.1
    simp [Instr.keyThatStays, this]
theorem Mem.noRows {b : Base} {X S : List Res} {w : World} (m : Mem b X S w) : Mem b (RRows [] :: X) S w := m.addX (r' := RRows []) (.refl _ _) (fun r hr => by cases hr) (fun k hk => by obtain ⟨r, hr, _⟩ := hk; cases hr)
/-- a row more -/
theorem Mem.rowAdd {b : Base} {X S : List Res} {w : World} {rows rows' : List BRow} {e : TypeId} {A : Option Addr} {n c : Nat} {l : List UInt8} (m : Mem b (RRows rows :: ROwn e 1 (.slice A n c) n (b8s l) :: X) S w) (h : ∀ r ∈ rows', r ∈ rows ∨ r = ⟨A, n, c, l⟩) : Mem b (RRows rows' :: X) S w := by
  refine m.merge (r := RRows rows') (fun h1 h2 r hr => ?_) (fun k hk => ?_)
  · rcases h r hr with h' | rfl
    · exact h1 r h'
    · obtain ⟨_, h3, h4⟩ := Own.rd h2
      exact ⟨h4, h3⟩
  · obtain ⟨r, hr, hk⟩ := hk
    rcases h r hr with h' | rfl
    · exact .inl ⟨r, h', hk⟩
    · exact .inr (View.own.ok.2 k hk)
/-- the first half of a row -/
def BRow.half (r : BRow) : BRow := ⟨r.A, r.n / 2, r.c, r.l.take (r.n / 2)⟩
theorem Mem.rowSub {b : Base} {X S : List Res} {w : World} {rows rows' : List BRow} (m : Mem b (RRows rows :: X) S w) (h : ∀ r ∈ rows', r ∈ rows) : Mem b (RRows rows' :: X) S w :=
  m.asX (r' := RRows rows') (fun h1 r hr => h1 r (h r hr)) (fun k hk => by
    obtain ⟨r, hr, hk⟩ := hk
    exact ⟨r, h r hr, hk⟩)
/-! ### a method of an interface -/
section
variable {P : Program} {Q : Exit → Act → World → Prop} {N : Nat} {D : List Deferred} {ρ : Env} {b : Base} {X X' X0 Xr S S' S0 : List Res} {ty dt : TypeId} {x : Operand} {v recv : Value} {m' : String} {f : Nat} {l : List Operand} {vs : List Value} {tys : Array TypeId} {R : Value → List Res → List Res → Prop} {K : Value → List Res → List Res → Prop}
end
/-! ### At a function's end -/
section
variable {P : Program} {ops : Array Oper} {Q : Exit → Act → World → Prop} {N : Nat} {D : List Deferred} {ρ : Env} {b : Base} {X X' Xr S S' : List Res} {rest : List Oper} {ty : TypeId} {pos : String} {af : Array Edge}
theorem hdefer {f : Nat} {l : List Operand} {vs : List Value} {tys : Array TypeId} (hv : evs ρ l = some vs) (k : HL P ops Q N (⟨.fn (.func f) #[], vs.toArray⟩ :: D) rest ρ b X S) : HL P ops Q N D (⟨none, .defer ⟨.value (.func f), l.toArray, tys⟩, ty, pos, af, none⟩ :: rest) ρ b X S := fun w m a ha => by
  unfold wpList
  rw [if_pos (by simp [Region.wanted])]
  refine .inl ?_
  unfold Oper.wp
  have : (execOp a.eval ⟨none, .defer ⟨.value (.func f), l.toArray, tys⟩, ty, pos, af, none⟩).run P w = .ok (.defer ⟨.fn (.func f) #[], vs.toArray⟩) w := by
    simp [execOp, resolve, Deferred.ofValue, Act.eval, ha.evals hv]
  rw [this]
  refine k w m _ ⟨ha.sz, ?_, ha.gt⟩
  show _ :: a.defers = _
  rw [ha.df]
end
theorem henterD {P : Program} {f : Nat} {fn : Func} {c : Code} {vs : List Value} {R : Value → List Res → List Res → Prop} {N : Nat} {X0 S0 : List Res} (hf : P.funcs[f]? = some fn) (hb : fn.body = some c) (hN : fn.ntmps = N) (hl : vs.length ≤ N)
    (h : ∀ b, HC P (bodyPostD P fn (RB b R)) N [] c (argsEnv vs 0) b X0 S0) : Con P f vs X0 S0 R := fun w m => by
  refine calls_of_wp_defers hf hb (h _ w m _ ⟨?_, rfl, fun t v ht => ?_⟩)
  · simp [hN]; omega
  · obtain ⟨_, h2⟩ := get_argsEnv vs 0 t v ht
    have hlt := (List.getElem?_eq_some_iff.1 h2).1
    rw [Array.getElem?_append_left (by simpa using hlt)]
    simpa using h2
/-- where a function with calls at its end leaves -/
def HE (P : Program) (fn : Func) (b : Base) (R : Value → List Res → List Res → Prop) (N : Nat) (D : List Deferred) (ρ : Env) (X S : List Res) : Prop := ∀ w, Mem b X S w → ∀ tmps : Array Value, (∀ t v, get ρ t = some v → tmps[t]? = some v) → Go.Leaves P fn tmps (RB b R) D .returning w
section
variable {P : Program} {fn : Func} {R : Value → List Res → List Res → Prop} {N : Nat} {D : List Deferred} {ρ : Env} {b : Base} {X X' Xz Xr S S' : List Res} {e : Exit}
theorem hleave (he : Leaves e) (h : HE P fn b R N D ρ X S) : HQ (bodyPostD P fn (RB b R)) N D e ρ b X S := fun w m a ha => by
  have := h w m a.tmps ha.gt
  cases e <;> first | exact he.elim | (show Go.Leaves P fn a.tmps (RB b R) a.defers .returning w; rw [ha.df]; exact this)
theorem hlast {v : Value} (hr : ∀ tmps : Array Value, (∀ t v, get ρ t = some v → tmps[t]? = some v) → ∀ w, (results fn tmps).run P w = .ok v w) (is : List Nat) (hX : takeR is X = some (X', Xz)) (js : List Nat) (hS : getR js S = some S') (hR : R v X' S') : HE P fn b R N [] ρ X S := fun w m tmps ht =>
  ⟨v, hr tmps ht w, _, _, _, rfl, hR, m.out is hX js hS⟩
theorem tmps_getD {tmps : Array Value} (h : ∀ t v, get ρ t = some v → tmps[t]? = some v) {t : Nat} {v : Value} (hv : get ρ t = some v) : tmps.getD t undef = v := by
  have := h t v hv
  simp [this]
theorem hlast1 {t : Nat} {v : Value} (hr : fn.results = #[.tmp t]) (hv : get ρ t = some v) (is : List Nat) (hX : takeR is X = some (X', Xz)) (js : List Nat) (hS : getR js S = some S') (hR : R v X' S') : HE P fn b R N [] ρ X S :=
  hlast (fun tmps h w => by have := tmps_getD h hv; simp at this; simp [results, hr, this]) is hX js hS hR
theorem hlast2 {t t' : Nat} {v v' : Value} (hr : fn.results = #[.tmp t, .tmp t']) (hv : get ρ t = some v) (hv' : get ρ t' = some v') (is : List Nat) (hX : takeR is X = some (X', Xz)) (js : List Nat) (hS : getR js S = some S') (hR : R (.tuple #[v, v']) X' S') : HE P fn b R N [] ρ X S :=
  hlast (fun tmps h w => by have h1 := tmps_getD h hv; have h2 := tmps_getD h hv'; simp at h1 h2; simp [results, hr, h1, h2]) is hX js hS hR
theorem hlastN1 {t t' sz : Nat} {ty : TypeId} {p : Addr} {cs : List Value} {v' : Value} (hr : fn.results = #[.cell t ty, .tmp t']) (hv : get ρ t = some (.pointer (some p))) (hv' : get ρ t' = some v') (ha : aggB P ty = some true) (hs : szB P ty = some sz) (hl : cs.length = sz)
    (hc : ∀ {w}, Mem b X S w → ∀ j u, cs[j]? = some u → w.cell? (p.add j) = some u) (is : List Nat) (hX : takeR is X = some (X', Xz)) (js : List Nat) (hS : getR js S = some S') (hR : R (.tuple #[.agg cs.toArray, v']) X' S') : HE P fn b R N [] ρ X S := fun w m tmps h =>
  ⟨.tuple #[.agg cs.toArray, v'], by have h1 := tmps_getD h hv; have h2 := tmps_getD h hv'; simp at h1 h2; simp [results, hr, h1, h2, asAddr, run_loadN ha hs hl (hc m)], _, _, _, rfl, hR, m.out is hX js hS⟩
/-- the lock is let go at the end -/
theorem hunlock {L : Conc.Locks.MuLink} (H : Conc.Locks.MuLib P L) {g o : Nat} {t : TypeId} {cs : List Value} (i : Nat) (hi : X[i]? = some (RBlk g t cs)) (hc : cs[o]? = some (.int .i32 1)) (hcall : ∀ args w, (callFunc L.unlock args).run P w = .ok (.enter L.unlock args) w)
    (k : HE P fn b R N D ρ (RBlk g t (cs.set o (.int .i32 0)) :: X.eraseIdx i) S) : HE P fn b R N (⟨.fn (.func L.unlock) #[], #[.pointer (some ⟨g, o, none⟩)]⟩ :: D) ρ X S := fun w m tmps ht => by
  have hb := m.blk i hi
  have hlt := (List.getElem?_eq_some_iff.1 hc).1
  refine ⟨by simp, .func L.unlock, #[], L.unlock, #[.pointer (some ⟨g, o, none⟩)], rfl, ?_, ?_⟩
  · simp [invoke, hcall]
  · refine CallsD.mono (Go.MuLone.unlock_deferred H ⟨g, o, none⟩ .returning w (hb.cell hc) (hb.frozen hlt)) ?_
    rintro e u' w' ⟨rfl, rfl, rfl⟩
    have m' := m.perm (takeR_perm [i] X [RBlk g t cs] (X.eraseIdx i) (by simp [takeR, hi]))
    exact k _ (m'.change (r' := RBlk g t (cs.set o (.int .i32 0))) (Fr.setCell w ⟨g, o, none⟩ _) (hb.set o _) (fun k hk => .inl hk)) tmps ht
end
section
variable {P : Program} {Q : Exit → Act → World → Prop} {N : Nat} {D : List Deferred} {ρ : Env} {b : Base} {X S : List Res} {ty : TypeId} {K : Value → List Res → List Res → Prop}
theorem lockC {L : Conc.Locks.MuLink} (H : Conc.Locks.MuLib P L) {g o : Nat} {t : TypeId} {cs : List Value} (hc : cs[o]? = some (.int .i32 0)) : Con P L.lock [.pointer (some ⟨g, o, none⟩)] [RBlk g t cs] [] fun v X S => v = .tuple #[] ∧ X = [RBlk g t (cs.set o (.int .i32 1))] ∧ S = [] := fun w m => by
  have hb := m.blk 0 rfl
  have hlt := (List.getElem?_eq_some_iff.1 hc).1
  refine Calls.mono (Go.MuLone.lock_free H ⟨g, o, none⟩ w (hb.cell hc) (hb.frozen hlt)) ?_
  rintro e w' ⟨rfl, rfl⟩
  exact ⟨_, _, _, rfl, ⟨rfl, rfl, rfl⟩, m.change (r' := RBlk g t (cs.set o (.int .i32 1))) (Fr.setCell w ⟨g, o, none⟩ _) (hb.set o _) (fun k hk => .inl hk)⟩
end
end Go.Eng
end
section
/- More rules over things in memory. No statement is proved here. -/
set_option linter.unusedVariables false
set_option linter.unusedSimpArgs false
namespace Go.Eng
section
variable {P : Program} {Q : Exit → Act → World → Prop} {N : Nat} {D : List Deferred} {ρ : Env} {b : Base} {X S : List Res} {x y : Operand} {ty t t' e : TypeId} {K : Value → List Res → List Res → Prop}
/-- a new slice of noughts of one cell each -/
theorem xh_mksl {z : Value} {bytes n : Nat} (ht : P.underlying t = some (.slice e)) (hT : TI P e z 1 bytes) (hz : z.cells = #[z]) (hx : ev ρ x = some (.int .i64 (n : Int))) (hy : ev ρ y = some (.int .i64 (n : Int))) (hb : n * bytes ≤ 140737488351232) (hn : n ≤ 140737488351232)
    (k : ∀ g, K (.slice (some ⟨g, 0, none⟩) n n) (RBlk g e (List.replicate n z) :: X) S) : XH P Q N D ρ b X S (.makeSlice t x y) ty K := fun w m => by
  obtain ⟨ie, hi', hzero, hsize, hby⟩ := hT.get
  have hbn : (ie.bytes : Int) * (n : Int) ≤ 281474976710656 := by
    have h1 : (ie.bytes : Int) * (n : Int) = ((n * bytes : Nat) : Int) := by rw [hby, Nat.mul_comm]; rfl
    rw [h1]; omega
  have hr := run_make w t e ie z ht hi' hzero .i64 .i64 (n : Int) (n : Int) (by omega) (by omega) hbn (by omega)
  rw [hsize, hz] at hr
  have hc : madeCells #[z] ((n : Int).toNat * 1) = (List.replicate n z).toArray := by
    apply Array.ext'
    simp [madeCells]
    apply List.ext_getElem <;> simp [Nat.mod_one]
  rw [hc] at hr
  refine xw_of_run (v' := .slice (some ⟨w.heap.size, 0, none⟩) n n) (w' := w.alloc (.cells (List.replicate n z).toArray e)) (fun a _ _ _ _ ha => ?_) ⟨_, _, m.addX (r' := RBlk w.heap.size e (List.replicate n z)) (Fr.alloc w _) (Blk.new w e _) (fun i hi => Nat.le_of_eq (Eq.symm hi)), k _⟩
  simp [execOp, ha.eval hx, ha.eval hy, hr]
/-- elements are laid over others -/
theorem xh_copy {A : Option Addr} {g o sz m c dLen dCap k : Nat} {bt : TypeId} {cur news : List Value} (i : Nat) (hi : X[i]? = some (RBlk g bt cur)) (hx : ev ρ x = some (.slice (some ⟨g, o, none⟩) dLen dCap)) (hy : ev ρ y = some (.slice A m c)) (ht : P.underlying t = some (.slice e)) (hs : szB P e = some sz)
    (hr : ∀ {w}, Mem b X S w → Rd w sz A k news) (hk : k = min m dLen) (hfit : o + k * sz ≤ cur.length) (h1 : ∀ u ∈ news, u.oneCell' = true)
    (kk : K (.int .i64 (k : Nat)) (RBlk g bt (splice cur o news) :: X.eraseIdx i) S) : XH P Q N D ρ b X S (.call ⟨.builtin .copy, #[x, y], #[t, t']⟩) ty K := fun w mm => x_copy hx hy ht hs (hr mm) hk (mm.blk i hi) hfit h1 fun w' hf hb hsz => ⟨_, _, by
    have m' := mm.perm (takeR_perm [i] X [RBlk g bt cur] (X.eraseIdx i) (by simp [takeR, hi]))
    exact m'.change hf hb (fun k hk => .inl hk), kk⟩
end
theorem hmemE {P : Program} {fn : Func} {R : Value → List Res → List Res → Prop} {N : Nat} {D : List Deferred} {ρ : Env} {b : Base} {X X' S S' : List Res} (h : ∀ w, Mem b X S w → Mem b X' S' w) (k : HE P fn b R N D ρ X' S') : HE P fn b R N D ρ X S := fun w m => k w (h w m)
end Go.Eng
end
section
/- The engine over things in memory, seventh part: several things that are only read as one, contracts said over other things. No statement is proved here. -/
set_option linter.unusedVariables false
set_option linter.unusedSimpArgs false
set_option linter.unusedSectionVars false
namespace Go.Eng
open Go.RowKit
/-- several things that are only read, as one; they may share blocks -/
def RAll (L : List Res) : Res where
  foot := feet L
  holds w := ∀ x ∈ L, x.holds w
  keep f h p := fun x hx => x.keep f (fun k hk => h k ⟨x, hx, hk⟩) (p x hx)
  low p hk := by
    obtain ⟨x, hx, hk⟩ := hk
    exact x.low (p x hx) hk
/-- what is read and comes of what is read -/
def Der (S S' : List Res) : Prop := ∀ s ∈ S', (∀ w, (∀ t ∈ S, t.holds w) → s.holds w) ∧ ∀ k, s.foot k → ∃ t ∈ S, t.foot k
theorem Der.all {S L : List Res} (h : ∀ s ∈ L, s ∈ S) : Der S (RAll L :: S) := by
  intro s hs
  rcases List.mem_cons.1 hs with rfl | hs
  · exact ⟨fun w hw x hx => hw x (h x hx), fun k hk => by obtain ⟨x, hx, hk⟩ := hk; exact ⟨x, h x hx, hk⟩⟩
  · exact ⟨fun w hw => hw s hs, fun k hk => ⟨s, hs, hk⟩⟩
theorem Der.nil {S : List Res} : Der S [] := fun s hs => by cases hs
theorem Der.cons {S S' : List Res} {L : List Res} (h : ∀ s ∈ L, (∃ t ∈ S, View t s)) (k : Der S S') : Der S (RAll L :: S') := by
  intro s hs
  rcases List.mem_cons.1 hs with rfl | hs
  · refine ⟨fun w hw x hx => ?_, fun i hi => ?_⟩
    · obtain ⟨t, ht, hv⟩ := h x hx
      exact hv.ok.1 w (hw t ht)
    · obtain ⟨x, hx, hk⟩ := hi
      obtain ⟨t, ht, hv⟩ := h x hx
      exact ⟨t, ht, hv.ok.2 i hk⟩
  · exact k s hs
/-- other arguments, the same -/
theorem Con.mono {P : Program} {f : Nat} {vs : List Value} {X0 S0 : List Res} {R R' : Value → List Res → List Res → Prop} (h : Con P f vs X0 S0 R) (hR : ∀ v X S, R v X S → R' v X S) : Con P f vs X0 S0 R' := fun w m => by
  refine Calls.mono (h w m) ?_
  rintro e w' ⟨v, X', S', rfl, hr, m'⟩
  exact ⟨v, X', S', rfl, hR _ _ _ hr, m'⟩
end Go.Eng
end
section
/- The engine: words of 32 bits as values; slices of one's own cut at the front. No statement is proved here. -/
set_option linter.unusedVariables false
set_option linter.unusedSimpArgs false
set_option linter.unusedSectionVars false
namespace Go.Eng
open Go.RowKit
abbrev Wd (x : UInt32) : Value := .int .u32 (x.toNat : Int)
def wds (l : List UInt32) : List Value := l.map Wd
theorem wds_length (l : List UInt32) : (wds l).length = l.length := by simp [wds]
theorem wds_one {l : List UInt32} : ∀ u ∈ wds l, u.oneCell' = true := by
  intro u hu
  obtain ⟨x, _, rfl⟩ := List.mem_map.1 hu
  rfl
theorem wds_cells {l : List UInt32} : ∀ u ∈ wds l, u.cells.toList = [u] := by
  intro u hu
  obtain ⟨x, _, rfl⟩ := List.mem_map.1 hu
  rfl
theorem wds_size {l : List UInt32} : ∀ u ∈ wds l, u.cells.size = 1 := by
  intro u hu
  obtain ⟨x, _, rfl⟩ := List.mem_map.1 hu
  rfl
theorem wds_get {l : List UInt32} {i : Nat} (h : i < l.length) : (wds l)[i]? = some (Wd (l.getD i 0)) := by simp [wds, List.getElem?_map, List.getElem?_eq_getElem h, List.getD]
theorem wds_append (a b : List UInt32) : wds (a ++ b) = wds a ++ wds b := by simp [wds]
theorem wds_set (l : List UInt32) (i : Nat) (x : UInt32) : (wds l).set i (Wd x) = wds (l.set i x) := by simp [wds, List.map_set]
theorem wrap32 (n : Nat) : IntKind.u32.wrap (n : Int) = ((n % 4294967296 : Nat) : Int) := by
  simp [IntKind.wrap, IntKind.signed, IntKind.bits]
section
variable {P : Program} {N : Nat} {D : List Deferred} {ρ : Env} {w : World} {x y : Operand} {ty t t' e : TypeId} {a b : UInt32}
theorem y_wadd (hx : ev ρ x = some (Wd a)) (hy : ev ρ y = some (Wd b)) : Yl P N D ρ w (.binOp .add t x y t') ty (Wd (a + b)) := y_add hx hy (by
  rw [← Int.natCast_add, wrap32, UInt32.toNat_add])
theorem y_wmul (hx : ev ρ x = some (Wd a)) (hy : ev ρ y = some (Wd b)) : Yl P N D ρ w (.binOp .mul t x y t') ty (Wd (a * b)) := y_mul hx hy (by
  rw [← Int.natCast_mul, wrap32, UInt32.toNat_mul])
theorem y_wand (hx : ev ρ x = some (Wd a)) (hy : ev ρ y = some (Wd b)) : Yl P N D ρ w (.binOp .and t x y t') ty (Wd (a &&& b)) := y_bits (by simp) hx hy (by
  rw [u32_and_nat _ _ a.toNat_lt b.toNat_lt, UInt32.toNat_and])
theorem y_wor (hx : ev ρ x = some (Wd a)) (hy : ev ρ y = some (Wd b)) : Yl P N D ρ w (.binOp .or t x y t') ty (Wd (a ||| b)) := y_bits (by simp) hx hy (by
  rw [u32_or_nat _ _ a.toNat_lt b.toNat_lt, UInt32.toNat_or])
theorem y_wxor (hx : ev ρ x = some (Wd a)) (hy : ev ρ y = some (Wd b)) : Yl P N D ρ w (.binOp .xor t x y t') ty (Wd (a ^^^ b)) := y_bits (by simp) hx hy (by
  rw [u32_xor_nat _ _ a.toNat_lt b.toNat_lt, UInt32.toNat_xor])
theorem y_wquo (h0 : b.toNat ≠ 0) (hx : ev ρ x = some (Wd a)) (hy : ev ρ y = some (Wd b)) : Yl P N D ρ w (.binOp .quo t x y t') ty (Wd (a / b)) := y_quo hx hy (by omega) (by omega) (by
  rw [← Int.natCast_ediv, wrap32, UInt32.toNat_div]
  have := a.toNat_lt
  have h2 := Nat.div_le_self a.toNat b.toNat
  rw [Nat.mod_eq_of_lt (by omega)])
theorem y_wrem (h0 : b.toNat ≠ 0) (hx : ev ρ x = some (Wd a)) (hy : ev ρ y = some (Wd b)) : Yl P N D ρ w (.binOp .rem t x y t') ty (Wd (a % b)) := by
  have h := y_rem (P := P) (N := N) (D := D) (w := w) (ty := ty) (t := t) (t' := t') hx hy (by omega) (by omega)
  have e : ((a.toNat : Int) % (b.toNat : Int)) = ((a % b).toNat : Int) := by rw [UInt32.toNat_mod]; rfl
  rwa [e] at h
theorem y_wshr {k : Nat} {k' : IntKind} (hk : k < 32) (hx : ev ρ x = some (Wd a)) (hy : ev ρ y = some (.int k' (k : Int))) : Yl P N D ρ w (.binOp .shr t x y t') ty (Wd (.ofNat (a.toNat / 2 ^ k))) := by
  have h := y_shr (P := P) (N := N) (D := D) (w := w) (ty := ty) (t := t) (t' := t') (p := ((2 ^ k : Nat) : Int)) hx hy (by omega) (by simp [IntKind.bits]; omega) (by simp)
  have e : ((a.toNat : Int) / ((2 ^ k : Nat) : Int)) = ((UInt32.ofNat (a.toNat / 2 ^ k)).toNat : Int) := by
    rw [UInt32.toNat_ofNat', ← Int.natCast_ediv]
    have := a.toNat_lt
    have h2 := Nat.div_le_self a.toNat (2 ^ k)
    rw [Nat.mod_eq_of_lt (by omega)]
  rwa [e] at h
theorem y_wshl {k : Nat} {k' : IntKind} (hk : k < 32) (hx : ev ρ x = some (Wd a)) (hy : ev ρ y = some (.int k' (k : Int))) : Yl P N D ρ w (.binOp .shl t x y t') ty (Wd (.ofNat (a.toNat * 2 ^ k))) := by
  refine y_shl (p := ((2 ^ k : Nat) : Int)) hx hy (by omega) (by simp [IntKind.bits]; omega) (by simp) ?_
  rw [← Int.natCast_mul, wrap32, UInt32.toNat_ofNat']
theorem y_wshrD {k : Nat} {k' : IntKind} (hk : k < 32) (hb : b.toNat = 2 ^ k) (hx : ev ρ x = some (Wd a)) (hy : ev ρ y = some (.int k' (k : Int))) : Yl P N D ρ w (.binOp .shr t x y t') ty (Wd (a / b)) := by
  have h := y_wshr (P := P) (N := N) (D := D) (w := w) (ty := ty) (t := t) (t' := t') hk hx hy
  have e : UInt32.ofNat (a.toNat / 2 ^ k) = a / b := by
    apply UInt32.toNat_inj.1
    have := a.toNat_lt
    have h2 := Nat.div_le_self a.toNat (2 ^ k)
    rw [UInt32.toNat_ofNat', UInt32.toNat_div, hb, Nat.mod_eq_of_lt (by omega)]
  rwa [e] at h
theorem y_wshlD {k : Nat} {k' : IntKind} (hk : k < 32) (hb : b.toNat = 2 ^ k) (hx : ev ρ x = some (Wd a)) (hy : ev ρ y = some (.int k' (k : Int))) : Yl P N D ρ w (.binOp .shl t x y t') ty (Wd (a * b)) := by
  have h := y_wshl (P := P) (N := N) (D := D) (w := w) (ty := ty) (t := t) (t' := t') hk hx hy
  have e : UInt32.ofNat (a.toNat * 2 ^ k) = a * b := by
    apply UInt32.toNat_inj.1
    rw [UInt32.toNat_ofNat', UInt32.toNat_mul, hb]
  rwa [e] at h
theorem y_wsub1 (hx : ev ρ x = some (.int .u32 4294967295)) (hy : ev ρ y = some (Wd b)) : Yl P N D ρ w (.binOp .sub t x y t') ty (Wd (~~~b)) := y_sub hx hy (by
  have := b.toNat_lt
  rw [UInt32.toNat_not, show (4294967295 : Int) - (b.toNat : Int) = ((4294967295 - b.toNat : Nat) : Int) by omega, wrap32, Nat.mod_eq_of_lt (by omega)]
  rfl)
theorem y_wnot (hx : ev ρ x = some (Wd a)) : Yl P N D ρ w (.unOp .xor t x) ty (Wd (~~~a)) := by
  have h := y_inv32 (P := P) (N := N) (D := D) (w := w) (ty := ty) (t := t) hx a.toNat_lt
  have e : 4294967295 ^^^ a.toNat = (~~~a).toNat := by
    have h1 : (BitVec.allOnes 32 ^^^ BitVec.ofNat 32 a.toNat) = ~~~ BitVec.ofNat 32 a.toNat := BitVec.allOnes_xor
    have h2 := congrArg BitVec.toNat h1
    rw [BitVec.toNat_xor, BitVec.toNat_not, BitVec.toNat_allOnes, BitVec.toNat_ofNat, Nat.mod_eq_of_lt a.toNat_lt] at h2
    rw [UInt32.toNat_not]
    exact h2
  rwa [e] at h
theorem y_w8 {c : UInt8} {k : TypeDesc} (hx : ev ρ x = some (B8 c)) (ht : P.underlying t = some k) (ht' : P.underlying t' = some (.int .u32)) : Yl P N D ρ w (.convert t t' x) ty (Wd c.toUInt32) := y_conv hx ht ht' (by
  have := c.toNat_lt
  rw [wrap32, Nat.mod_eq_of_lt (by omega), UInt8.toNat_toUInt32])
theorem y_8w {k : TypeDesc} (hx : ev ρ x = some (Wd a)) (ht : P.underlying t = some k) (ht' : P.underlying t' = some (.int .u8)) : Yl P N D ρ w (.convert t t' x) ty (B8 (UInt8.ofNat a.toNat)) := y_conv hx ht ht' (by
  simp [IntKind.wrap, IntKind.signed, IntKind.bits])
end
theorem bld_all {P : Program} {pl : Nat → Option (Nat × Nat)} : ∀ (vs : List Value) (k : Nat) (d r : List Value), d.length = k → r.length = vs.length → (∀ i, i < k + vs.length → pl i = some (i, 1)) → (∀ v ∈ vs, v.cells.toList = [v]) → Bld P pl (d ++ r) ((List.range' k vs.length).zip vs) (d ++ vs)
  | [], k, d, r, hd, hr, hp, h1 => by
    obtain rfl := List.eq_nil_of_length_eq_zero hr
    exact .nil
  | v :: vs, k, d, r, hd, hr, hp, h1 => by
    match r, hr with
    | x :: r, hr =>
      have hs : splice (d ++ x :: r) k [v] = (d ++ [v]) ++ r := by
        subst hd
        simp [splice]
      have ih := bld_all (P := P) (pl := pl) vs (k + 1) (d ++ [v]) r (by simp [hd]) (by simpa using hr) (fun i hi => hp i (by simp at hi ⊢; omega)) (fun u hu => h1 u (List.mem_cons_of_mem _ hu))
      rw [List.length_cons, List.range'_succ, List.zip_cons_cons]
      refine .cons (hp k (by simp)) (h1 v (List.mem_cons_self ..)) rfl (by simp [hd]) ?_
      rw [hs, show d ++ v :: vs = (d ++ [v]) ++ vs by simp]
      exact ih
theorem y_buildA {P : Program} {N : Nat} {D : List Deferred} {ρ : Env} {w : World} {t ty : TypeId} {parts : List (Nat × Operand)} {vs : List Value} {z : Value} {sz bytes n : Nat} (hT : TI P t z sz bytes) (hz : z.cells.toList.length = n) (hv : evs ρ (parts.map (·.2)) = some vs) (hp : (plB P t 0).isSome = true) (hn : vs.length = n)
    (hi : parts.map (·.1) = List.range' 0 n) (hpl : ((List.range n).all fun i => plB P t i == some (i, 1)) = true) (h1 : ∀ v ∈ vs, v.cells.toList = [v]) : Yl P N D ρ w (.build t parts.toArray) ty (.agg vs.toArray) := by
  refine y_build hT rfl hv hp ?_
  rw [hi, ← hn]
  have h := bld_all (P := P) (pl := plB P t) vs 0 [] z.cells.toList rfl (by omega) (fun i hi => ?_) h1
  · exact h
  · have := List.all_eq_true.1 hpl i (by rw [List.mem_range]; omega)
    simpa using this
theorem Own.drop {w : World} {b : Nat} {e : TypeId} {sz n c k : Nat} {A : Option Addr} {xs : List Value} (h : Own w b e sz (.slice A n c) n xs) (hk : k ≤ n) (hz : k ≤ c) : Own w b e sz (.slice (if c = k then A else A.map (·.add (k * sz))) (n - k) (c - k)) (n - k) (xs.drop (k * sz)) := by
  obtain ⟨hl, hx⟩ := h
  refine ⟨by rw [List.length_drop, hl, Nat.sub_mul], ?_⟩
  rcases hx with ⟨hv, hn⟩ | ⟨g, o, cap, cur, hv, hb, hB, hnc, hcm, hfit, hcs⟩
  · cases hv
    obtain rfl : k = 0 := by omega
    exact .inl ⟨rfl, rfl⟩
  · cases hv
    by_cases hck : c = k
    · subst hck
      obtain rfl : n = c := by omega
      rw [if_pos rfl]
      refine .inr ⟨g, o, n - n, cur, rfl, hb, hB, by omega, by omega, by rw [Nat.sub_self, Nat.zero_mul]; omega, ?_⟩
      rw [Nat.sub_self, Nat.zero_mul, List.take_zero, List.drop_of_length_le (by omega)]
    · rw [if_neg hck]
      refine .inr ⟨g, o + k * sz, c - k, cur, ?_, hb, hB, by omega, by omega, ?_, ?_⟩
      · simp [Addr.add]
      · have : (c - k) * sz + k * sz = c * sz := by rw [← Nat.add_mul]; congr 1; omega
        omega
      · rw [← hcs, List.drop_take, List.drop_drop, Nat.sub_mul]
theorem View.ownDrop {e : TypeId} {sz n c k : Nat} {A : Option Addr} {xs : List Value} (hk : k ≤ n) (hz : n ≤ c) : View (ROwn e sz (.slice A n c) n xs) (ROwn e sz (.slice (if c = k then A else A.map (·.add (k * sz))) (n - k) (c - k)) (n - k) (xs.drop (k * sz))) :=
  .of (fun w h => Own.drop h hk (by omega)) (fun i hi => by
    cases A with
    | none => by_cases hc : c = k <;> simp [ROwn, vblk, hc] at hi
    | some a =>
      by_cases hc : c = k
      · simpa [ROwn, vblk, hc] using hi
      · have h2 : i = (a.add (k * sz)).block := by simpa [ROwn, vblk, hc] using hi
        show i = a.block
        rw [h2, add_block])
theorem Mem.viewX {b : Base} {X S : List Res} {w : World} {r r' : Res} (m : Mem b (r :: X) S w) (v : View r r') : Mem b (r' :: X) S w := m.asX (v.ok.1 w) v.ok.2
end Go.Eng
end
section
/- The digest of bytes, over plain lists. No program. -/
set_option linter.unusedVariables false
set_option linter.unusedSimpArgs false
namespace Go.Hx
open Go.Eng
def rotr (n : Nat) (x : UInt32) : UInt32 := .ofNat (x.toNat / 2 ^ n + x.toNat % 2 ^ n * 2 ^ (32 - n))
theorem rotr_val {n : Nat} (hn : n ≤ 32) (x : UInt32) : (rotr n x).toNat = x.toNat / 2 ^ n + x.toNat % 2 ^ n * 2 ^ (32 - n) := by
  rw [rotr, UInt32.toNat_ofNat', Nat.mod_eq_of_lt]
  have h1 := x.toNat_lt
  have h2 : 2 ^ n * 2 ^ (32 - n) = 2 ^ 32 := by rw [← Nat.pow_add]; congr 1; omega
  have h3 : x.toNat % 2 ^ n < 2 ^ n := Nat.mod_lt _ (Nat.two_pow_pos n)
  have h4 : x.toNat / 2 ^ n < 2 ^ (32 - n) := Nat.div_lt_of_lt_mul (by omega)
  have h5 : x.toNat % 2 ^ n * 2 ^ (32 - n) ≤ (2 ^ n - 1) * 2 ^ (32 - n) := Nat.mul_le_mul_right _ (by omega)
  have h6 : (2 ^ n - 1) * 2 ^ (32 - n) + 2 ^ (32 - n) = 2 ^ 32 := by
    rw [← h2, Nat.sub_mul, Nat.one_mul]
    have := Nat.le_mul_of_pos_left (2 ^ (32 - n)) (Nat.two_pow_pos n)
    omega
  omega
/-- one turn to the right -/
def turn1 (x : UInt32) : UInt32 := x / 2 + x % 2 * 2147483648
theorem turn1_val (x : UInt32) : (turn1 x).toNat = x.toNat / 2 + x.toNat % 2 * 2147483648 := by
  have h1 := x.toNat_lt
  rw [turn1, UInt32.toNat_add, UInt32.toNat_mul, UInt32.toNat_div, UInt32.toNat_mod]
  show (x.toNat / 2 + x.toNat % 2 * 2147483648 % 4294967296) % 4294967296 = _
  have : x.toNat % 2 < 2 := Nat.mod_lt _ (by decide)
  omega
theorem rotr_zero (x : UInt32) : rotr 0 x = x := by
  apply UInt32.toNat_inj.1
  rw [rotr_val (by decide)]
  simp [Nat.mod_one]
theorem rotr_succ {n : Nat} (hn : n < 32) (x : UInt32) : rotr (n + 1) x = turn1 (rotr n x) := by
  apply UInt32.toNat_inj.1
  rw [turn1_val, rotr_val (by omega), rotr_val (by omega)]
  obtain ⟨k, hk⟩ : ∃ k, 32 - n = k + 1 := ⟨31 - n, by omega⟩
  have hk2 : 32 - (n + 1) = k := by omega
  rw [hk, hk2, Nat.pow_succ 2 k, Nat.pow_succ 2 n]
  have hq : x.toNat / (2 ^ n * 2) = x.toNat / 2 ^ n / 2 := (Nat.div_div_eq_div_mul ..).symm
  have hm : x.toNat % (2 ^ n * 2) = x.toNat % 2 ^ n + 2 ^ n * (x.toNat / 2 ^ n % 2) := Nat.mod_mul ..
  rw [hq, hm]
  generalize x.toNat / 2 ^ n = q
  generalize x.toNat % 2 ^ n = m
  have h31 : 2 ^ n * 2 ^ k = 2147483648 := by rw [← Nat.pow_add, show n + k = 31 by omega]
  have e1 : (q + m * (2 ^ k * 2)) / 2 = q / 2 + m * 2 ^ k := by
    rw [show m * (2 ^ k * 2) = (m * 2 ^ k) * 2 by rw [Nat.mul_assoc]]; omega
  have e2 : (q + m * (2 ^ k * 2)) % 2 = q % 2 := by
    rw [show m * (2 ^ k * 2) = (m * 2 ^ k) * 2 by rw [Nat.mul_assoc]]; omega
  rw [e1, e2, Nat.add_mul, Nat.mul_right_comm (2 ^ n), h31]
  omega
/-- the program's turn -/
theorem rotl_or {n : Nat} (h0 : 0 < n) (hn : n < 32) (x : UInt32) : UInt32.ofNat (x.toNat * 2 ^ (32 - n)) ||| UInt32.ofNat (x.toNat / 2 ^ n) = rotr n x := by
  apply UInt32.toNat_inj.1
  have h1 := x.toNat_lt
  rw [rotr_val (by omega), UInt32.toNat_or, UInt32.toNat_ofNat', UInt32.toNat_ofNat']
  have h2 : 2 ^ n * 2 ^ (32 - n) = 2 ^ 32 := by rw [← Nat.pow_add]; congr 1; omega
  have h4 : x.toNat / 2 ^ n < 2 ^ (32 - n) := Nat.div_lt_of_lt_mul (by omega)
  have h5 : x.toNat / 2 ^ n ≤ x.toNat := Nat.div_le_self ..
  rw [Nat.mod_eq_of_lt (a := x.toNat / 2 ^ n) (by omega)]
  have h6 : x.toNat * 2 ^ (32 - n) % 2 ^ 32 = 2 ^ (32 - n) * (x.toNat % 2 ^ n) := by
    rw [← h2, Nat.mul_mod_mul_right, Nat.mul_comm]
  rw [h6, ← Nat.two_pow_add_eq_or_of_lt h4, Nat.mul_comm, Nat.add_comm]
def rootsL : List UInt32 := [1116352408, 1899447441, 3049323471, 3921009573, 961987163, 1508970993, 2453635748, 2870763221, 3624381080, 310598401, 607225278, 1426881987, 1925078388, 2162078206, 2614888103, 3248222580, 3835390401, 4022224774, 264347078, 604807628, 770255983, 1249150122, 1555081692, 1996064986, 2554220882, 2821834349, 2952996808, 3210313671, 3336571891, 3584528711, 113926993, 338241895, 666307205, 773529912, 1294757372, 1396182291, 1695183700, 1986661051, 2177026350, 2456956037, 2730485921, 2820302411, 3259730800, 3345764771, 3516065817, 3600352804, 4094571909, 275423344, 430227734, 506948616, 659060556, 883997877, 958139571, 1322822218, 1537002063, 1747873779, 1955562222, 2024104815, 2227730452, 2361852424, 2428436474, 2756734187, 3204031479, 3329325298]
def h0L : List UInt32 := [1779033703, 3144134277, 1013904242, 2773480762, 1359893119, 2600822924, 528734635, 1541459225]
def turns (a b c : Nat) (x : UInt32) : UInt32 := rotr a x ^^^ rotr b x ^^^ rotr c x
def at8 (b : List UInt8) (i : Nat) : Nat := (b.getD i 0).toNat
def word4 (b : List UInt8) (i : Nat) : UInt32 := .ofNat (at8 b i * 16777216 + at8 b (i + 1) * 65536 + at8 b (i + 2) * 256 + at8 b (i + 3))
/-- so many bytes as a number -/
def wp (b : List UInt8) (i : Nat) : Nat → Nat
  | 0 => 0
  | j + 1 => wp b i j * 256 + at8 b (i + j)
theorem at8_lt (b : List UInt8) (i : Nat) : at8 b i < 256 := (b.getD i 0).toNat_lt
theorem wp_lt (b : List UInt8) (i : Nat) : ∀ j, wp b i j < 256 ^ j
  | 0 => Nat.one_pos
  | j + 1 => by
    have h1 := wp_lt b i j
    have h2 := at8_lt b (i + j)
    rw [wp, Nat.pow_succ]
    omega
theorem wp_step {b : List UInt8} {i j : Nat} (hj : j < 4) : (UInt32.ofNat (wp b i j) * 256) ||| (b.getD (i + j) 0).toUInt32 = UInt32.ofNat (wp b i (j + 1)) := by
  apply UInt32.toNat_inj.1
  have h1 := wp_lt b i j
  have h0 : 256 ^ j ≤ 256 ^ 3 := Nat.pow_le_pow_right (by decide) (by omega)
  have h2 := at8_lt b (i + j)
  have h3 : wp b i j < 16777216 := Nat.lt_of_lt_of_le h1 h0
  rw [UInt32.toNat_or, UInt32.toNat_mul, UInt32.toNat_ofNat', UInt8.toNat_toUInt32, UInt32.toNat_ofNat', wp]
  show (wp b i j % 4294967296 * 256 % 4294967296 ||| at8 b (i + j)) = _
  rw [Nat.mod_eq_of_lt (a := wp b i j) (by omega), Nat.mod_eq_of_lt (a := wp b i j * 256) (by omega), Nat.mod_eq_of_lt (a := wp b i j * 256 + _) (by omega), show wp b i j * 256 = 2 ^ 8 * wp b i j by omega, Nat.two_pow_add_eq_or_of_lt (i := 8) h2]
theorem wp_val (b : List UInt8) (i : Nat) : wp b i 4 = at8 b i * 16777216 + at8 b (i + 1) * 65536 + at8 b (i + 2) * 256 + at8 b (i + 3) := by
  have e1 : wp b i 1 = wp b i 0 * 256 + at8 b (i + 0) := rfl
  have e2 : wp b i 2 = wp b i 1 * 256 + at8 b (i + 1) := rfl
  have e3 : wp b i 3 = wp b i 2 * 256 + at8 b (i + 2) := rfl
  have e4 : wp b i 4 = wp b i 3 * 256 + at8 b (i + 3) := rfl
  have e0 : wp b i 0 = 0 := rfl
  rw [Nat.add_zero] at e1
  rw [e4, e3, e2, e1, e0]
  generalize at8 b i = p
  generalize at8 b (i + 1) = q
  generalize at8 b (i + 2) = r
  generalize at8 b (i + 3) = s
  omega
theorem wp_four (b : List UInt8) (i : Nat) : UInt32.ofNat (wp b i 4) = word4 b i := congrArg UInt32.ofNat (wp_val b i)
theorem word4_sum (b : List UInt8) (i : Nat) : (b.getD i 0).toUInt32 * 16777216 + (b.getD (i + 1) 0).toUInt32 * 65536 + (b.getD (i + 2) 0).toUInt32 * 256 + (b.getD (i + 3) 0).toUInt32 = word4 b i := by
  apply UInt32.toNat_inj.1
  have h0 : (b.getD i 0).toNat < 256 := at8_lt b i
  have h1 : (b.getD (i + 1) 0).toNat < 256 := at8_lt b (i + 1)
  have h2 : (b.getD (i + 2) 0).toNat < 256 := at8_lt b (i + 2)
  have h3 : (b.getD (i + 3) 0).toNat < 256 := at8_lt b (i + 3)
  have k1 : (16777216 : UInt32).toNat = 16777216 := rfl
  have k2 : (65536 : UInt32).toNat = 65536 := rfl
  have k3 : (256 : UInt32).toNat = 256 := rfl
  simp only [word4, at8, UInt32.toNat_add, UInt32.toNat_mul, UInt8.toNat_toUInt32, UInt32.toNat_ofNat', k1, k2, k3]
  generalize (b.getD i 0).toNat = p at *
  generalize (b.getD (i + 1) 0).toNat = q at *
  generalize (b.getD (i + 2) 0).toNat = r at *
  generalize (b.getD (i + 3) 0).toNat = s at *
  omega
def wmix (x : UInt32) : UInt32 := rotr 7 x ^^^ rotr 18 x ^^^ (x / 8)
def wmix2 (x : UInt32) : UInt32 := rotr 17 x ^^^ rotr 19 x ^^^ (x / 1024)
def wnext (w : List UInt32) (i : Nat) : UInt32 := w.getD (i - 16) 0 + wmix (w.getD (i - 15) 0) + w.getD (i - 7) 0 + wmix2 (w.getD (i - 2) 0)
/-- the first words -/
def wl (b : List UInt8) : Nat → List UInt32
  | 0 => []
  | i + 1 => wl b i ++ [if i < 16 then word4 b (4 * i) else wnext (wl b i) i]
theorem wl_length (b : List UInt8) : ∀ i, (wl b i).length = i
  | 0 => rfl
  | i + 1 => by rw [wl, List.length_append, wl_length b i]; rfl
def v_ (v : List UInt32) (i : Nat) : UInt32 := v.getD i 0
def rt (v : List UInt32) (k w : UInt32) : UInt32 := v_ v 7 + turns 6 11 25 (v_ v 4) + ((v_ v 4 &&& v_ v 5) ^^^ (~~~(v_ v 4) &&& v_ v 6)) + k + w
def ru (v : List UInt32) : UInt32 := turns 2 13 22 (v_ v 0) + ((v_ v 0 &&& v_ v 1) ^^^ (v_ v 0 &&& v_ v 2) ^^^ (v_ v 1 &&& v_ v 2))
def rnd (v : List UInt32) (k w : UInt32) : List UInt32 := [rt v k w + ru v, v_ v 0, v_ v 1, v_ v 2, v_ v 3 + rt v k w, v_ v 4, v_ v 5, v_ v 6]
def rnds (w v : List UInt32) : Nat → List UInt32
  | 0 => v
  | i + 1 => rnd (rnds w v i) (rootsL.getD i 0) (w.getD i 0)
theorem rnds_length {w v : List UInt32} (h : v.length = 8) : ∀ i, (rnds w v i).length = 8
  | 0 => h
  | i + 1 => rfl
/-- the first so many sums at the end -/
def hsum (v h : List UInt32) (i : Nat) : List UInt32 := (List.range v.length).map fun j => if j < i then v_ v j + v_ h j else v_ v j
def blockL (h : List UInt32) (b : List UInt8) : List UInt32 := hsum (rnds (wl b 64) h 64) h 8
theorem blockL_length {h : List UInt32} (hl : h.length = 8) (b : List UInt8) : (blockL h b).length = 8 := by simp [blockL, hsum, rnds_length hl]
theorem hsum_zero {v h : List UInt32} : hsum v h 0 = v := by
  apply List.ext_getElem?
  intro i
  simp only [hsum, Nat.not_lt_zero, if_false, List.getElem?_map]
  by_cases hi : i < v.length
  · simp [hi, v_, List.getD]
  · rw [List.getElem?_eq_none (by simpa using hi), List.getElem?_eq_none (by omega)]; rfl
theorem hsum_succ {v h : List UInt32} {i : Nat} (hi : i < v.length) : hsum v h (i + 1) = (hsum v h i).set i (v_ (hsum v h i) i + v_ h i) := by
  apply List.ext_getElem?
  intro j
  have e : v_ (hsum v h i) i = v_ v i := by simp [hsum, v_, List.getD, hi]
  rw [e]
  by_cases hj : j < v.length
  · by_cases hij : i = j
    · subst hij
      simp [hsum, hi]
    · rw [List.getElem?_set_ne hij]
      simp only [hsum, List.getElem?_map, List.getElem?_range hj, Option.map_some]
      congr 1
      by_cases h1 : j < i
      · rw [if_pos h1, if_pos (by omega)]
      · rw [if_neg h1, if_neg (by omega)]
  · rw [List.getElem?_eq_none (by simp [hsum]; omega), List.getElem?_eq_none (by simp [hsum]; omega)]
def foldN : Nat → List UInt32 → List UInt8 → List UInt32
  | 0, h, _ => h
  | n + 1, h, l => foldN n (blockL h (l.take 64)) (l.drop 64)
def foldB (h : List UInt32) (l : List UInt8) : List UInt32 := foldN (l.length / 64) h l
theorem foldN_snoc : ∀ (n : Nat) (h : List UInt32) (l b : List UInt8), l.length = 64 * n → b.length = 64 → foldN (n + 1) h (l ++ b) = blockL (foldN n h l) b
  | 0, h, l, b, hl, hb => by
    obtain rfl := List.eq_nil_of_length_eq_zero hl
    simp only [foldN, List.nil_append]
    rw [List.take_of_length_le (by omega)]
  | n + 1, h, l, b, hl, hb => by
    have h1 : (l ++ b).take 64 = l.take 64 := by rw [List.take_append_of_le_length (by omega)]
    have h2 : (l ++ b).drop 64 = l.drop 64 ++ b := by rw [List.drop_append_of_le_length (by omega)]
    rw [foldN, h1, h2, foldN_snoc n _ (l.drop 64) b (by rw [List.length_drop]; omega) hb]
    rfl
theorem foldB_snoc {h : List UInt32} {l b : List UInt8} (hl : l.length % 64 = 0) (hb : b.length = 64) : foldB h (l ++ b) = blockL (foldB h l) b := by
  unfold foldB
  rw [List.length_append, hb, show (l.length + 64) / 64 = l.length / 64 + 1 by omega]
  exact foldN_snoc _ h l b (by omega) hb
theorem foldN_length : ∀ (n : Nat) (h : List UInt32) (l : List UInt8), h.length = 8 → (foldN n h l).length = 8
  | 0, h, l, hl => hl
  | n + 1, h, l, hl => foldN_length n _ _ (blockL_length hl _)
theorem foldB_length {h : List UInt32} (l : List UInt8) (hl : h.length = 8) : (foldB h l).length = 8 := foldN_length _ _ _ hl
def be4 (x : UInt32) : List UInt8 := [.ofNat (x / 16777216).toNat, .ofNat (x / 65536).toNat, .ofNat (x / 256).toNat, .ofNat x.toNat]
def digOf (h : List UInt32) : List UInt8 := h.flatMap be4
def be8 (n : Nat) : List UInt8 := (List.range 8).map fun i => .ofNat (n / 256 ^ (7 - i))
def padZ (n : Nat) : Nat := (119 - n % 64) % 64
def padL (b : List UInt8) : List UInt8 := b ++ (128 :: List.replicate (padZ b.length) 0) ++ be8 (8 * b.length)
theorem padL_length (b : List UInt8) : (padL b).length % 64 = 0 := by
  simp only [padL, List.length_append, List.length_cons, List.length_replicate, be8, List.length_map, List.length_range, padZ]
  omega
def shaL (b : List UInt8) : List UInt8 := digOf (foldB h0L (padL b))
theorem digOf_length {h : List UInt32} (hl : h.length = 8) : (digOf h).length = 32 := by
  match h, hl with
  | [a, b, c, d, e, f, g, i], _ => rfl
theorem shaL_length (b : List UInt8) : (shaL b).length = 32 := digOf_length (foldB_length _ rfl)
end Go.Hx
end
section
/- Closed facts on the types of this seat, printed by a program of mine. No statement is proved here. -/
namespace Go.Proofs.YtfikjheicjamhaaDoor
open Go.Eng
theorem ag3 : aggB Tryd.prog 3 = some false := by kernel_rfl
theorem sz3 : szB Tryd.prog 3 = some 1 := by kernel_rfl
theorem ti3 : TI Tryd.prog 3 (.int .i64 0) 1 8 := by unfold TI; kernel_rfl
theorem ag5 : aggB Tryd.prog 5 = some false := by kernel_rfl
theorem sz5 : szB Tryd.prog 5 = some 1 := by kernel_rfl
theorem ti5 : TI Tryd.prog 5 (.int .u8 0) 1 1 := by unfold TI; kernel_rfl
theorem ag9 : aggB Tryd.prog 9 = some false := by kernel_rfl
theorem sz9 : szB Tryd.prog 9 = some 1 := by kernel_rfl
theorem ag23 : aggB Tryd.prog 23 = some true := by kernel_rfl
theorem sz23 : szB Tryd.prog 23 = some 32 := by kernel_rfl
theorem ti23 : TI Tryd.prog 23 (.agg (b8s (List.replicate 32 0) : List Value).toArray) 32 32 := by unfold TI; kernel_rfl
theorem klD23 {l : List UInt8} (h : l.length = 32) : Tryd.prog.keyLits 2 23 (b8s l) = some (l.map fun b => Lit.int .u8 (b.toNat : Int)) := keyLits_b8 (D := 0) Tryd.underlying23 Tryd.underlying5 (by kernel_rfl) (by kernel_rfl) h
theorem y_eqD23 {N : Nat} {D : List Deferred} {ρ : Env} {w : World} {ty t' : TypeId} {x y : Operand} {l m : List UInt8} (hx : ev ρ x = some (.agg (b8s l).toArray)) (hy : ev ρ y = some (.agg (b8s m).toArray)) (hl : l.length = 32) (hm : m.length = 32) : Yl Tryd.prog N D ρ w (.binOp .eql 23 x y t') ty (.bool (decide (l = m))) :=
  y_eqK (m := 5) hx hy (by decide) (by kernel_rfl) (by kernel_rfl) ag23 (by rw [b8s_length, hl]; kernel_rfl) (by rw [b8s_length, hm]; kernel_rfl) (klD23 hl) (klD23 hm) lits_b8_inj
theorem y_neD23 {N : Nat} {D : List Deferred} {ρ : Env} {w : World} {ty t' : TypeId} {x y : Operand} {l m : List UInt8} (hx : ev ρ x = some (.agg (b8s l).toArray)) (hy : ev ρ y = some (.agg (b8s m).toArray)) (hl : l.length = 32) (hm : m.length = 32) : Yl Tryd.prog N D ρ w (.binOp .neq 23 x y t') ty (.bool (decide (¬ l = m))) :=
  y_neK (m := 5) hx hy (by decide) (by kernel_rfl) (by kernel_rfl) ag23 (by rw [b8s_length, hl]; kernel_rfl) (by rw [b8s_length, hm]; kernel_rfl) (klD23 hl) (klD23 hm) lits_b8_inj
theorem ag32 : aggB Tryd.prog 32 = some false := by kernel_rfl
theorem sz32 : szB Tryd.prog 32 = some 1 := by kernel_rfl
theorem ti32 : TI Tryd.prog 32 (.slice none 0 0) 1 24 := by unfold TI; kernel_rfl
theorem ag94 : aggB Tryd.prog 94 = some true := by kernel_rfl
theorem sz94 : szB Tryd.prog 94 = some 35 := by kernel_rfl
theorem ti94 : TI Tryd.prog 94 (.agg (([.int .i64 0]) ++ ([.int .i64 0]) ++ (b8s (List.replicate 32 0)) ++ ([.string ⟨#[]⟩]) : List Value).toArray) 35 64 := by unfold TI; kernel_rfl
theorem fa94_0 : faB Tryd.prog 94 0 = some (0, 1, 3) := by kernel_rfl
theorem pl94_0 : plB Tryd.prog 94 0 = some (0, 1) := by kernel_rfl
theorem fa94_1 : faB Tryd.prog 94 1 = some (1, 1, 3) := by kernel_rfl
theorem pl94_1 : plB Tryd.prog 94 1 = some (1, 1) := by kernel_rfl
theorem fa94_2 : faB Tryd.prog 94 2 = some (2, 32, 23) := by kernel_rfl
theorem pl94_2 : plB Tryd.prog 94 2 = some (2, 32) := by kernel_rfl
theorem fa94_3 : faB Tryd.prog 94 3 = some (34, 1, 9) := by kernel_rfl
theorem pl94_3 : plB Tryd.prog 94 3 = some (34, 1) := by kernel_rfl
theorem ag96 : aggB Tryd.prog 96 = some true := by kernel_rfl
theorem sz96 : szB Tryd.prog 96 = some 38 := by kernel_rfl
theorem ti96 : TI Tryd.prog 96 (.agg (([.int .i64 0]) ++ ([.int .i64 0]) ++ (([.int .i64 0]) ++ ([.int .i64 0]) ++ (b8s (List.replicate 32 0)) ++ ([.string ⟨#[]⟩])) ++ ([.slice none 0 0]) : List Value).toArray) 38 104 := by unfold TI; kernel_rfl
theorem fa96_0 : faB Tryd.prog 96 0 = some (0, 1, 3) := by kernel_rfl
theorem fa96_1 : faB Tryd.prog 96 1 = some (1, 1, 3) := by kernel_rfl
theorem fa96_2 : faB Tryd.prog 96 2 = some (2, 35, 94) := by kernel_rfl
theorem fa96_3 : faB Tryd.prog 96 3 = some (37, 1, 32) := by kernel_rfl
theorem ag111 : aggB Tryd.prog 111 = some true := by kernel_rfl
theorem sz111 : szB Tryd.prog 111 = some 35 := by kernel_rfl
theorem ti111 : TI Tryd.prog 111 (.agg (([.int .i64 0]) ++ ([.int .i64 0]) ++ (b8s (List.replicate 32 0)) ++ ([.slice none 0 0]) : List Value).toArray) 35 72 := by unfold TI; kernel_rfl
theorem fa111_0 : faB Tryd.prog 111 0 = some (0, 1, 3) := by kernel_rfl
theorem pl111_0 : plB Tryd.prog 111 0 = some (0, 1) := by kernel_rfl
theorem fa111_1 : faB Tryd.prog 111 1 = some (1, 1, 3) := by kernel_rfl
theorem pl111_1 : plB Tryd.prog 111 1 = some (1, 1) := by kernel_rfl
theorem fa111_2 : faB Tryd.prog 111 2 = some (2, 32, 23) := by kernel_rfl
theorem pl111_2 : plB Tryd.prog 111 2 = some (2, 32) := by kernel_rfl
theorem fa111_3 : faB Tryd.prog 111 3 = some (34, 1, 32) := by kernel_rfl
theorem ag120 : aggB Tryd.prog 120 = some false := by kernel_rfl
theorem sz120 : szB Tryd.prog 120 = some 1 := by kernel_rfl
theorem ti120 : TI Tryd.prog 120 (.int .u32 0) 1 4 := by unfold TI; kernel_rfl
theorem ag157 : aggB Tryd.prog 157 = some false := by kernel_rfl
theorem ag167 : aggB Tryd.prog 167 = some true := by kernel_rfl
theorem sz167 : szB Tryd.prog 167 = some 33 := by kernel_rfl
theorem ti167 : TI Tryd.prog 167 (.agg ((b8s (List.replicate 32 0)) ++ ([.string ⟨#[]⟩]) : List Value).toArray) 33 48 := by unfold TI; kernel_rfl
theorem fa167_0 : faB Tryd.prog 167 0 = some (0, 32, 23) := by kernel_rfl
theorem pl167_0 : plB Tryd.prog 167 0 = some (0, 32) := by kernel_rfl
theorem fa167_1 : faB Tryd.prog 167 1 = some (32, 1, 9) := by kernel_rfl
theorem pl167_1 : plB Tryd.prog 167 1 = some (32, 1) := by kernel_rfl
theorem ag222 : aggB Tryd.prog 222 = some true := by kernel_rfl
theorem sz222 : szB Tryd.prog 222 = some 8 := by kernel_rfl
theorem ti222 : TI Tryd.prog 222 (.agg ((List.replicate 8 ([.int .u32 0])).flatten : List Value).toArray) 8 32 := by unfold TI; kernel_rfl
theorem ti224 : TI Tryd.prog 224 (.agg (((List.replicate 8 ([.int .u32 0])).flatten) ++ ([.int .i64 0]) ++ ([.slice none 0 0]) : List Value).toArray) 10 64 := by unfold TI; kernel_rfl
theorem fa224_0 : faB Tryd.prog 224 0 = some (0, 8, 222) := by kernel_rfl
theorem fa224_1 : faB Tryd.prog 224 1 = some (8, 1, 3) := by kernel_rfl
theorem fa224_2 : faB Tryd.prog 224 2 = some (9, 1, 32) := by kernel_rfl
theorem ag238 : aggB Tryd.prog 238 = some false := by kernel_rfl
theorem ag250 : aggB Tryd.prog 250 = some true := by kernel_rfl
theorem sz250 : szB Tryd.prog 250 = some 2 := by kernel_rfl
theorem ti250 : TI Tryd.prog 250 (.agg (([.int .i64 0]) ++ ([.int .i64 0]) : List Value).toArray) 2 16 := by unfold TI; kernel_rfl
theorem fa250_0 : faB Tryd.prog 250 0 = some (0, 1, 3) := by kernel_rfl
theorem fa250_1 : faB Tryd.prog 250 1 = some (1, 1, 3) := by kernel_rfl
theorem ag254 : aggB Tryd.prog 254 = some true := by kernel_rfl
theorem sz254 : szB Tryd.prog 254 = some 64 := by kernel_rfl
theorem ti254 : TI Tryd.prog 254 (.agg ((List.replicate 64 ([.int .u32 0])).flatten : List Value).toArray) 64 256 := by unfold TI; kernel_rfl
theorem ag257 : aggB Tryd.prog 257 = some false := by kernel_rfl
theorem ti259 : TI Tryd.prog 259 (.agg (([.slice none 0 0]) ++ ([.map none]) ++ ([.int .i64 0]) : List Value).toArray) 3 40 := by unfold TI; kernel_rfl
theorem fa259_0 : faB Tryd.prog 259 0 = some (0, 1, 32) := by kernel_rfl
theorem fa259_1 : faB Tryd.prog 259 1 = some (1, 1, 257) := by kernel_rfl
theorem fa259_2 : faB Tryd.prog 259 2 = some (2, 1, 3) := by kernel_rfl
theorem ti263 : TI Tryd.prog 263 (.slice none 0 0) 1 24 := by unfold TI; kernel_rfl
theorem ag265 : aggB Tryd.prog 265 = some true := by kernel_rfl
theorem sz265 : szB Tryd.prog 265 = some 4 := by kernel_rfl
theorem ti265 : TI Tryd.prog 265 (.agg (b8s (List.replicate 4 0) : List Value).toArray) 4 4 := by unfold TI; kernel_rfl
end Go.Proofs.YtfikjheicjamhaaDoor
end
section
/- The check sum, over plain lists. No program. -/
set_option linter.unusedVariables false
set_option linter.unusedSimpArgs false
namespace Go.Hx
open Go.Eng
def cstep (x : Nat) : Nat := if x % 2 = 1 then (x / 2) ^^^ 2197175160 else x / 2
theorem cstep_lt {x : Nat} (h : x < 4294967296) : cstep x < 4294967296 := by
  unfold cstep
  split
  · exact Nat.xor_lt_two_pow (n := 32) (by omega) (by decide)
  · omega
def csteps : Nat → Nat → Nat
  | 0, x => x
  | n + 1, x => cstep (csteps n x)
theorem csteps_lt {x : Nat} (h : x < 4294967296) : ∀ n, csteps n x < 4294967296
  | 0 => h
  | n + 1 => cstep_lt (csteps_lt h n)
def cmore (n : Nat) (l : List UInt8) : Nat := l.foldl (fun n b => csteps 8 (n ^^^ b.toNat)) n
theorem cmore_lt {n : Nat} (h : n < 4294967296) : ∀ l : List UInt8, cmore n l < 4294967296 := by
  intro l
  induction l generalizing n with
  | nil => exact h
  | cons a r ih => exact ih (csteps_lt (Nat.xor_lt_two_pow (n := 32) h (by have := a.toNat_lt; omega)) 8)
theorem cmore_snoc (n : Nat) (l : List UInt8) (b : UInt8) : cmore n (l ++ [b]) = csteps 8 (cmore n l ^^^ b.toNat) := by simp [cmore]
theorem xor_ones {m : Nat} (h : m < 4294967296) : 4294967295 ^^^ m = 4294967295 - m := by
  have h1 : (BitVec.allOnes 32 ^^^ BitVec.ofNat 32 m) = ~~~ BitVec.ofNat 32 m := BitVec.allOnes_xor
  have h2 := congrArg BitVec.toNat h1
  rw [BitVec.toNat_xor, BitVec.toNat_not, BitVec.toNat_allOnes, BitVec.toNat_ofNat, Nat.mod_eq_of_lt h] at h2
  exact h2
def crcSum (l : List UInt8) : Nat := 4294967295 - cmore 4294967295 l
theorem crcSum_lt (l : List UInt8) : crcSum l < 4294967296 := by unfold crcSum; omega
/-- four bytes of a number, the lowest one first -/
def le4 (n : Nat) : List UInt8 := [UInt8.ofNat n, UInt8.ofNat (n / 256), UInt8.ofNat (n / 65536), UInt8.ofNat (n / 16777216)]
def shr8 : Nat → Nat → Nat
  | 0, n => n
  | k + 1, n => shr8 k n / 256
def lek (k n : Nat) : List UInt8 := (List.range k).map fun i => UInt8.ofNat (shr8 i n)
theorem lek_succ (k n : Nat) : lek (k + 1) n = lek k n ++ [UInt8.ofNat (shr8 k n)] := by simp [lek, List.range_succ]
theorem lek_four (n : Nat) : lek 4 n = le4 n := by
  simp only [lek, List.range_succ, List.range_zero, List.nil_append, List.cons_append, List.map_cons, List.map_nil, shr8, le4, Nat.div_div_eq_div_mul]
theorem shr8_lt {n b : Nat} (h : n < b) : ∀ k, shr8 k n < b
  | 0 => h
  | k + 1 => by have := shr8_lt h k; simp only [shr8]; omega
theorem le4_length (n : Nat) : (le4 n).length = 4 := rfl
def putL (l : List UInt8) : List UInt8 := l ++ le4 (crcSum l)
theorem putL_length (l : List UInt8) : (putL l).length = l.length + 4 := by simp [putL, le4_length]
theorem step_bits (x : Nat) (h : x < 4294967296) : (x / 2) ^^^ (2197175160 * (x % 2)) = cstep x := by
  unfold cstep
  split
  · rename_i h1; rw [h1]
  · rename_i h1
    have : x % 2 = 0 := by omega
    rw [this]; simp
theorem u8mod (n : Nat) : IntKind.u8.wrap (n : Int) = ((UInt8.ofNat n).toNat : Int) := by
  simp [IntKind.wrap, IntKind.signed, IntKind.bits]
theorem and1 (x : Nat) (h : x < 4294967296) : bits .and .u32 (x : Int) 1 = ((x % 2 : Nat) : Int) := by
  have := u32_and_nat x 1 h (by decide)
  rw [Nat.and_one_is_mod] at this
  exact this
theorem xor_step (x : Nat) (h : x < 4294967296) : bits .xor .u32 ((x : Int) / 2) (2197175160 * ((x % 2 : Nat) : Int)) = ((cstep x : Nat) : Int) := by
  have h2 : x % 2 = 0 ∨ x % 2 = 1 := by omega
  have h3 : 2197175160 * (x % 2) < 4294967296 := by rcases h2 with h2 | h2 <;> rw [h2] <;> decide
  have := u32_xor_nat (x / 2) (2197175160 * (x % 2)) (by omega) h3
  rw [step_bits x h] at this
  rw [← this]
  congr 1
theorem xor_byte (x : Nat) (h : x < 4294967296) (b : UInt8) : bits .xor .u32 (x : Int) (b.toNat : Int) = ((x ^^^ b.toNat : Nat) : Int) := u32_xor_nat x b.toNat h (by have := b.toNat_lt; omega)
theorem xor_poly (x : Nat) (h : x < 4294967296) : bits .xor .u32 ((x : Int) / 2) 2197175160 = (((x / 2) ^^^ 2197175160 : Nat) : Int) := u32_xor_nat (x / 2) 2197175160 (by omega) (by decide)
theorem xor_byte_lt {x : Nat} (h : x < 4294967296) (b : UInt8) : x ^^^ b.toNat < 4294967296 := Nat.xor_lt_two_pow (n := 32) h (by have := b.toNat_lt; omega)
end Go.Hx
end
section
/- Digits: plain lists, no program. -/
set_option linter.unusedVariables false
set_option linter.unusedSimpArgs false
namespace Go.Hx
open Go.Eng
def hexd : List UInt8 := [48, 49, 50, 51, 52, 53, 54, 55, 56, 57, 97, 98, 99, 100, 101, 102]
def hex1 (b : UInt8) : List UInt8 := [hexd.getD (b.toNat / 16) 0, hexd.getD (b.toNat % 16) 0]
def hexs (l : List UInt8) : List UInt8 := l.flatMap hex1
theorem hexs_append (l m : List UInt8) : hexs (l ++ m) = hexs l ++ hexs m := by simp [hexs]
theorem take_snoc {l : List UInt8} {k : Nat} (h : k < l.length) : l.take (k + 1) = l.take k ++ [l.getD k 0] := by
  rw [List.take_succ_eq_append_getElem h]; simp [List.getD, List.getElem?_eq_getElem h]
theorem hexs_snoc {l : List UInt8} {k : Nat} (h : k < l.length) : hexs (l.take (k + 1)) = hexs (l.take k) ++ hex1 (l.getD k 0) := by
  rw [take_snoc h, hexs_append]; simp [hexs]
theorem hexd_at (i : Int) (h0 : 0 ≤ i) (h : i < 16) : (#[48, 49, 50, 51, 52, 53, 54, 55, 56, 57, 97, 98, 99, 100, 101, 102] : Array UInt8)[i.toNat]? = some (hexd.getD i.toNat 0) := by
  have : i.toNat < 16 := by omega
  generalize i.toNat = j at this
  revert j
  decide
theorem hexd_hi (x : UInt8) : (#[48, 49, 50, 51, 52, 53, 54, 55, 56, 57, 97, 98, 99, 100, 101, 102] : Array UInt8)[((x.toNat : Int) / 16).toNat]? = some (hexd.getD (x.toNat / 16) 0) := by
  have h := x.toNat_lt
  rw [hexd_at _ (by omega) (by omega)]
  rfl
theorem hexd_lo (x : UInt8) : (#[48, 49, 50, 51, 52, 53, 54, 55, 56, 57, 97, 98, 99, 100, 101, 102] : Array UInt8)[((x.toNat % 16 : Nat) : Int).toNat]? = some (hexd.getD (x.toNat % 16) 0) := by
  rw [hexd_at _ (by omega) (by omega)]
  rfl
theorem and15 (x : UInt8) : bits .and .u8 (x.toNat : Int) 15 = ((x.toNat % 16 : Nat) : Int) := by
  have := u8_and_nat x.toNat 15 (by have := x.toNat_lt; omega) (by decide)
  rw [show ((15 : Nat) : Int) = 15 from rfl] at this
  rw [this]
  congr 1
  exact Nat.and_two_pow_sub_one_eq_mod x.toNat 4
end Go.Hx
end
