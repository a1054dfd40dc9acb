/- The engine, tenth part: copy; append of zeros; a literal's block as it is. No statement is proved here. -/
import Derived.Test.YtflcokdkobhieaaEng9
import Derived.Lib.AppendZerosOnto
import Derived.Lib.Overlaps
set_option linter.unusedVariables false
set_option linter.unusedSimpArgs false
namespace Go.Eng
open Go.RowKit
theorem splice_app {a b c vs : List Value} {o : Nat} (ha : a.length = o) (hb : vs.length = b.length) : splice (a ++ b ++ c) o vs = a ++ vs ++ c := by
  subst ha
  unfold splice
  have e1 : (a ++ b ++ c).take a.length = a := by rw [List.append_assoc, List.take_left]
  have e2 : (a ++ b ++ c).drop (a.length + vs.length) = c := by rw [show a.length + vs.length = (a ++ b).length by simp [hb], List.drop_left]
  rw [e1, e2]
/-- a window of a block, read -/
theorem Blk.win {w : World} {g o sz n : Nat} {t : TypeId} {cs vs : List Value} (h : Blk w g t cs) (hl : vs.length = n * sz) (hv : (cs.drop o).take (n * sz) = vs) : Rd w sz (Option.some ⟨g, o, Option.none⟩) n vs := by
  refine ⟨hl, fun _ e => (by cases e), fun j u hu => ?_⟩
  rw [Option.getD_some, addr_add]
  refine h.cell ?_
  have hj : j < n * sz := by rw [← hl]; exact (List.getElem?_eq_some_iff.1 hu).1
  rw [← hv, List.getElem?_take, if_pos hj, List.getElem?_drop] at hu
  exact hu
section
variable {P : Program} {Q : Exit → Act → World → Prop} {N : Nat} {D : List Deferred} {ρ : Env} {w : World} {x y : Operand} {ty t t' e : TypeId} {v : Value} {K : Value → World → Prop}
theorem y_capS {A : Option Addr} {n c : Nat} (hx : ev ρ x = some (.slice A n c)) (ht : P.underlying t = some (.slice e)) : Yl P N D ρ w (.call ⟨.builtin .cap, #[x], #[t]⟩) ty (.int .i64 c) :=
  fun a _ _ _ _ ha => by simp [execOp, resolve, invoke, builtin, Builtin.cap_, ha.eval hx, run_underlying ht, goInt]
theorem x_copy {A : Option Addr} {g o sz m c dLen dCap k : Nat} {bt : TypeId} {cur news : List Value} (hx : ev ρ x = some (.slice (some ⟨g, o, none⟩) dLen dCap)) (hy : ev ρ y = some (.slice A m c)) (ht : P.underlying t = some (.slice e)) (hs : szB P e = some sz)
    (hr : Rd w sz A k news) (hk : k = min m dLen) (hb : Blk w g bt cur) (hfit : o + k * sz ≤ cur.length) (h1 : ∀ u ∈ news, u.oneCell' = true)
    (kk : ∀ w', Fr (fun i => i = g) w w' → Blk w' g bt (splice cur o news) → w'.heap.size = w.heap.size → K (.int .i64 (k : Nat)) w') : XW P Q N D ρ w (.call ⟨.builtin .copy, #[x, y], #[t, t']⟩) ty K := by
  have hl := hr.1
  obtain ⟨w', hst, hb', hf, hsz⟩ := run_stores (P := P) news o 0 cur w hb (by omega) h1
  refine xw_of_run (v' := .int .i64 (k : Nat)) (w' := w') (fun a _ _ _ _ ha => ?_) (kk w' hf (by simpa using hb') hsz)
  have hfc : (Builtin.firstCells sz k (.slice A m c)).run P w = .ok news.toArray w := by
    cases A with
    | none =>
      have h0 : k = 0 := by
        rcases Nat.eq_zero_or_pos k with h | h
        · exact h
        · exact absurd rfl (hr.2.1 h)
      subst h0
      obtain rfl : news = [] := List.eq_nil_of_length_eq_zero (by simpa using hl)
      simp [Builtin.firstCells]
    | some ad => exact run_firstCells_some (P := P) w sz k ad m c news hl (fun j v hv => hr.2.2 j v hv)
  have hm : Nat.min m dLen = k := hk.symm
  simp [execOp, resolve, invoke, builtin, Builtin.copy_, ha.eval hx, ha.eval hy, run_underlying ht, Builtin.lenOf, run_sizeOf hs, hm, hfc, hst, goInt]
/-- zeros put behind, where there is no room -/
theorem x_appZ {A : Option Addr} {sz bytes n c m : Nat} {z : Value} {xs : List Value} {kq kn : IntKind} (hx : ev ρ x = some (.slice A n c)) (hy : ev ρ y = some (.int kq (m : Int))) (ht : P.underlying t = some (.slice e)) (ht' : P.underlying t' = some (.int kn))
    (hT : TI P e z sz bytes) (hz : z.cells.size = sz) (hr : Rd w sz A n xs) (hm0 : 0 < m) (hsz : 0 < sz) (hg : c < n + m) (hm : n + m ≤ maxLen) (hb : (n + m) * bytes ≤ 140737488355328)
    (k : ∀ g w' cap rest, w.heap.size ≤ g → Fr No w w' → n + m ≤ cap → cap ≤ maxLen → (xs ++ rest).length = cap * sz → Blk w' g e (xs ++ rest) → K (.slice (some ⟨g, 0, none⟩) (n + m) cap) w') : XW P Q N D ρ w (.call ⟨.builtin .append, #[x, y], #[t, t']⟩) ty K := by
  obtain ⟨i, hi, hzero, hsize, hby⟩ := hT.get
  have hge := grownCap_ge w (n + m) c e
  have hcm : grownCap w (n + m) c e ≤ maxLen := grownCap_le_maxLen w (n + m) c e hm
  have hfit := growslice_fits (bytes := bytes) hg hb
  have hold : (Builtin.firstCells i.size n (.slice A n c)).run P w.drew = .ok xs.toArray w.drew := by
    rw [hsize]
    have hr' := hr.fr0 (Fr.drew w)
    cases A with
    | none =>
      have h0 : n = 0 := by
        rcases Nat.eq_zero_or_pos n with h | h
        · exact h
        · exact absurd rfl (hr.2.1 h)
      subst h0
      obtain rfl : xs = [] := List.eq_nil_of_length_eq_zero (by simpa using hr.1)
      simp [Builtin.firstCells]
    | some ad => exact run_firstCells_some (P := P) w.drew sz n ad n c xs hr.1 (fun j v hv => hr'.2.2 j v hv)
  have hmb : m * bytes ≤ 281474976710656 := by
    have := Nat.mul_le_mul_right bytes (Nat.le_add_left m n)
    omega
  have hrun := Lib.run_append_grow_zeros (P := P) w t t' ty e i z kq kn ht ht' hi hzero A n c xs hold m hm0 (by rw [hsize]; exact hsz) hg (by unfold maxLen at hm; omega) (by rw [hby]; exact hmb) (by rw [hby]; exact Nat.le_trans hfit (by decide))
  refine xw_of_run (w' := w.drew.alloc (.cells (xs.toArray ++ Builtin.zeroCells z.cells m ++ Builtin.zeroCells z.cells (grownCap w (n + m) c e - (n + m))) e)) (fun a _ _ _ _ ha => ?_) (k w.heap.size _ (grownCap w (n + m) c e) ((Builtin.zeroCells z.cells m).toList ++ (Builtin.zeroCells z.cells (grownCap w (n + m) c e - (n + m))).toList) (Nat.le_refl _) ((Fr.drew w).trans0 (Fr.alloc w.drew _)) hge hcm ?_ ?_)
  · simp [execOp, resolve, invoke, builtin, ha.eval hx, ha.eval hy, hrun]
  · rw [List.length_append, hr.1, List.length_append, Array.length_toList, Array.length_toList, size_zeroCells', size_zeroCells', hz, ← Nat.add_mul, ← Nat.add_mul]
    congr 1
    omega
  · have := Blk.new w.drew e (xs ++ ((Builtin.zeroCells z.cells m).toList ++ (Builtin.zeroCells z.cells (grownCap w (n + m) c e - (n + m))).toList))
    have e4 : (xs ++ ((Builtin.zeroCells z.cells m).toList ++ (Builtin.zeroCells z.cells (grownCap w (n + m) c e - (n + m))).toList)).toArray = xs.toArray ++ Builtin.zeroCells z.cells m ++ Builtin.zeroCells z.cells (grownCap w (n + m) c e - (n + m)) := by
      apply Array.ext'
      simp
    rw [e4] at this
    exact this
end
/-! a guard that was not wanted itself -/
theorem unwanted {ops : Array Oper} {op : Op} {ty : TypeId} {pos : String} {af : Array Edge} {d : Nat} {N : Nat} {D : List Deferred} {ρ : Env} {a : Act} {g gd : Nat} {want : Bool} {o : Oper} (ha : Ag N D ρ a) (ho : ops[g]? = some o) (hod : o.dst = some gd) (hb : get ρ gd = some undef) :
    Region.wanted (⟨some d, op, ty, pos, af, some (g, want)⟩ : Oper) (yielded ops a.tmps) = false := by
  simp [Region.wanted, yielded, ho, hod, ha.gt _ _ hb, undef]
section
variable {P : Program} {ops : Array Oper} {Q : Exit → Act → World → Prop} {N : Nat} {D : List Deferred} {ρ : Env} {w : World} {op : Op} {ty : TypeId} {pos : String} {af : Array Edge} {d k m : Nat} {g gd : Nat} {want : Bool} {o : Oper}
theorem nskipU {rest : List Oper} (ho : ops[g]? = some o) (hod : o.dst = some gd) (hb : get ρ gd = some undef) (kk : WL P ops Q N D rest ((d, undef) :: ρ) w) (hd : d < N := by decide) :
    WL P ops Q N D (⟨some d, op, ty, pos, af, some (g, want)⟩ :: rest) ρ w := by
  intro a ha
  unfold wpList
  rw [if_neg (by rw [unwanted ha ho hod hb]; decide)]
  exact kk _ (ha.put hd)
theorem sskipU {S : World → Prop} {x : Bool} {rest : List (Bool × Oper)} (ho : ops[g]? = some o) (hod : o.dst = some gd) (hb : get ρ gd = some undef) (kk : WS P ops Q S N D rest ((d, undef) :: ρ) w) (hd : d < N := by decide) :
    WS P ops Q S N D ((x, ⟨some d, op, ty, pos, af, some (g, want)⟩) :: rest) ρ w := by
  intro a ha
  have hw := unwanted (op := op) (ty := ty) (pos := pos) (af := af) (d := d) (want := want) ha ho hod hb
  cases x with
  | true =>
    unfold wpSeq
    rw [if_neg (by rw [hw]; decide)]
    exact kk _ (ha.put hd)
  | false => exact ⟨undef, .inr ⟨hw, rfl⟩, kk _ (ha.put hd)⟩
theorem tskipU {T : Nat → World → Prop} {rest : List (Option Nat × Oper)} (ho : ops[g]? = some o) (hod : o.dst = some gd) (hb : get ρ gd = some undef) (kk : WT P ops Q T N D k rest ((d, undef) :: ρ) w) (hd : d < N := by decide) :
    WT P ops Q T N D k ((some m, ⟨some d, op, ty, pos, af, some (g, want)⟩) :: rest) ρ w := by
  intro a ha
  exact ⟨undef, .inr ⟨unwanted ha ho hod hb, rfl⟩, kk _ (ha.put hd)⟩
end
end Go.Eng
