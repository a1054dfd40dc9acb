/- The engine, third part: operations that make and write memory, calls, the way in and out of a function. No statement is proved here. -/
import Derived.Test.YtflcokdkobhieaaEng2
set_option linter.unusedVariables false
set_option linter.unusedSimpArgs false
namespace Go.Eng
open Go.RowKit
section
variable {P : Program} {Q : Exit → Act → World → Prop} {N : Nat} {D : List Deferred} {ρ : Env} {w : World} {ty t u e : TypeId} {x y : Operand} {v : Value} {K : Value → World → Prop}
theorem xw_of_run {op : Op} {v' : Value} {w' : World} (h : ∀ a dst pos af g, Ag N D ρ a → (execOp a.eval ⟨dst, op, ty, pos, af, g⟩).run P w = .ok (.value v') w') (k : K v' w') : XW P Q N D ρ w op ty K := by
  intro a dst pos af g ha
  unfold Oper.wp
  rw [h a dst pos af g ha]
  exact ⟨v', rfl, k⟩
theorem xw_of_run0 {op : Op} {w' : World} (h : ∀ a dst pos af g, Ag N D ρ a → (execOp a.eval ⟨dst, op, ty, pos, af, g⟩).run P w = .ok .skip w') (k : K undef w') : XW P Q N D ρ w op ty K := by
  intro a dst pos af g ha
  unfold Oper.wp
  rw [h a dst pos af g ha]
  exact ⟨undef, rfl, k⟩
theorem x_call {f : Nat} {l : List Operand} {vs : List Value} {tys : Array TypeId} {R : Ending → World → Prop} (hv : evs ρ l = some vs) (hf : ∀ args w, (callFunc f args).run P w = .ok (.enter f args) w)
    (hc : Calls P f vs.toArray w R) (hR : ∀ e w', R e w' → ∃ v, e = .returned v ∧ K v w') : XW P Q N D ρ w (.call ⟨.value (.func f), l.toArray, tys⟩) ty K := by
  intro a dst pos af g ha
  unfold Oper.wp
  have : (execOp a.eval ⟨dst, .call ⟨.value (.func f), l.toArray, tys⟩, ty, pos, af, g⟩).run P w = .ok (.enter f vs.toArray) w := by
    simp [execOp, resolve, Deferred.ofValue, Act.eval, invoke, ha.evals hv, hf]
  rw [this]
  refine Calls.mono hc ?_
  intro e w' he
  obtain ⟨v, rfl, hk⟩ := hR e w' he
  exact ⟨v, rfl, hk⟩
theorem x_callv {f : Nat} {l : List Operand} {vs first cap : List Value} {tys : Array TypeId} {R : Ending → World → Prop} (hx : ev ρ x = some (.func (.func f) first.toArray cap.toArray)) (hv : evs ρ l = some vs) (hf : ∀ args w, (callFunc f args).run P w = .ok (.enter f args) w)
    (hc : Calls P f (first ++ vs ++ cap).toArray w R) (hR : ∀ e w', R e w' → ∃ v, e = .returned v ∧ K v w') : XW P Q N D ρ w (.call ⟨.value x, l.toArray, tys⟩) ty K := by
  intro a dst pos af g ha
  unfold Oper.wp
  have : (execOp a.eval ⟨dst, .call ⟨.value x, l.toArray, tys⟩, ty, pos, af, g⟩).run P w = .ok (.enter f (first ++ vs ++ cap).toArray) w := by
    simp [execOp, resolve, Deferred.ofValue, ha.eval hx, invoke, ha.evals hv, hf]
  rw [this]
  refine Calls.mono hc ?_
  intro e w' he
  obtain ⟨v, rfl, hk⟩ := hR e w' he
  exact ⟨v, rfl, hk⟩
theorem x_box (hx : ev ρ x = some v) (k : ∀ g w', w.heap.size ≤ g → Fr No w w' → Blk w' g t v.cells.toList → K (.pointer (some ⟨g, 0, none⟩)) w') : XW P Q N D ρ w (.box t x) ty K :=
  xw_of_run (w' := w.alloc (.cells v.cells t)) (fun a _ _ _ _ ha => by simp [execOp, ha.eval hx, Instr.box, newVar, newRow])
    (k _ _ (Nat.le_refl _) (Fr.alloc w _) (by have := Blk.new w t v.cells.toList; simpa using this))
theorem x_alloc {z : Value} {sz bytes : Nat} (hT : TI P t z sz bytes) (k : ∀ g w', w.heap.size ≤ g → Fr No w w' → Blk w' g t z.cells.toList → K (.pointer (some ⟨g, 0, none⟩)) w') : XW P Q N D ρ w (.alloc t) ty K := by
  obtain ⟨i, hi, hz, _, _⟩ := hT.get
  exact xw_of_run (w' := w.alloc (.cells z.cells t)) (fun a _ _ _ _ _ => by simp [execOp, Instr.alloc, zeroValue, typeInfo, hi, hz, newVar, newRow])
    (k _ _ (Nat.le_refl _) (Fr.alloc w _) (by have := Blk.new w t z.cells.toList; simpa using this))
theorem x_app {base sz bytes n m : Nat} {src z : Value} {xs news : List Value} {du : TypeDesc} (hx : ev ρ x = some v) (hy : ev ρ y = some src) (ht : P.underlying t = some (.slice e)) (hu : P.underlying u = some du) (hnu : du = .slice e ∨ du = .string)
    (hT : TI P e z sz bytes) (hz : z.cells.size = sz) (h : Own w base e sz v n xs) (hs : Src P w sz m src news) (h1 : ∀ u ∈ news, u.oneCell' = true) (hm : n + m ≤ maxLen) (hb : (n + m) * bytes ≤ 140737488355328) (hbase : base ≤ w.heap.size)
    (k : ∀ v' w', Own w' base e sz v' (n + m) (xs ++ news) → Fr (vblk v) w w' → (∀ k, vblk v' k → vblk v k ∨ w.heap.size ≤ k) → K v' w') : XW P Q N D ρ w (.call ⟨.builtin .append, #[x, y], #[t, u]⟩) ty K := by
  obtain ⟨v', w', hr, ho, hf, hk⟩ := run_append (P := P) (ty := ty) ht hu hnu hT hz h hs h1 hm hb hbase
  exact xw_of_run (v' := v') (w' := w') (fun a _ _ _ _ ha => by simp [execOp, resolve, invoke, builtin, ha.eval hx, ha.eval hy, hr]) (k v' w' ho hf hk)
theorem x_st1 {g o : Nat} {bt : TypeId} {cs : List Value} (hx : ev ρ x = some (.pointer (some ⟨g, o, none⟩))) (hy : ev ρ y = some v) (hs : szB P t = some 1) (hv : v.oneCell' = true) (hb : Blk w g bt cs) (ho : o < cs.length)
    (k : ∀ w', Fr (fun i => i = g) w w' → Blk w' g bt (cs.set o v) → w'.heap.size = w.heap.size → K undef w') : XW P Q N D ρ w (.store t x y) ty K := by
  have hc : v.cells = #[v] := by cases v <;> simp [Value.oneCell'] at hv <;> rfl
  refine xw_of_run0 (w' := w.setCell ⟨g, o, none⟩ v) (fun a _ _ _ _ ha => ?_) (k _ (Fr.setCell w ⟨g, o, none⟩ v) (hb.set o v) (size_setCell _ _ _))
  have := run_store1 (P := P) hb ho hv
  simp [execOp, ha.eval hx, ha.eval hy, Instr.storeAt, Instr.sureAddr, storeVar, hc, run_sizeOf hs, storeCells, addr_add, this]
theorem x_stN {g o sz : Nat} {bt : TypeId} {cs vs : List Value} (hx : ev ρ x = some (.pointer (some ⟨g, o, none⟩))) (hy : ev ρ y = some (.agg vs.toArray)) (hs : szB P t = some sz) (hl : vs.length = sz) (hv : ∀ v ∈ vs, v.oneCell' = true) (hb : Blk w g bt cs) (ho : o + sz ≤ cs.length)
    (k : ∀ w', Fr (fun i => i = g) w w' → Blk w' g bt (splice cs o vs) → w'.heap.size = w.heap.size → K undef w') : XW P Q N D ρ w (.store t x y) ty K := by
  obtain ⟨w', hr, hb', hf, hsz⟩ := run_stores (P := P) vs o 0 cs w hb (by omega) hv
  refine xw_of_run0 (w' := w') (fun a _ _ _ _ ha => ?_) (k _ hf (by simpa using hb') hsz)
  simp [execOp, ha.eval hx, ha.eval hy, Instr.storeAt, Instr.sureAddr, storeVar, Value.cells, run_sizeOf hs, hl, hr]
end

/-! ### In and out -/
def argsEnv : List Value → Nat → Env
  | [], _ => []
  | v :: r, i => (i, v) :: argsEnv r (i + 1)
theorem get_argsEnv : ∀ (vs : List Value) (i t : Nat) (v : Value), get (argsEnv vs i) t = some v → i ≤ t ∧ vs[t - i]? = some v
  | [], _, _, _, h => by simp [argsEnv, get] at h
  | u :: r, i, t, v, h => by
    simp only [argsEnv, get] at h
    cases hb : Nat.beq i t with
    | true =>
      have : i = t := Nat.eq_of_beq_eq_true hb
      subst this
      rw [hb] at h
      simp at h
      simp [h]
    | false =>
      have hne : i ≠ t := Nat.ne_of_beq_eq_false hb
      rw [hb] at h
      simp only [cond_false] at h
      obtain ⟨h1, h2⟩ := get_argsEnv r (i + 1) t v h
      refine ⟨by omega, ?_⟩
      have : t - i = (t - (i + 1)) + 1 := by omega
      rw [this, List.getElem?_cons_succ]
      exact h2
theorem enter {P : Program} {f : Nat} {fn : Func} {c : Code} {vs : List Value} {w : World} {R : Ending → World → Prop} {N : Nat} (hf : P.funcs[f]? = some fn) (hb : fn.body = some c) (hN : fn.ntmps = N) (hl : vs.length ≤ N)
    (h : WC P (bodyPost P fn R) N [] c (argsEnv vs 0) w) : Calls P f vs.toArray w R := by
  refine calls_of_wp hf hb (h _ ⟨?_, rfl, fun t v ht => ?_⟩)
  · simp [hN]; omega
  · obtain ⟨_, h2⟩ := get_argsEnv vs 0 t v ht
    have hlt := (List.getElem?_eq_some_iff.1 h2).1
    rw [Array.getElem?_append_left (by simpa using hlt)]
    simpa using h2
section
variable {P : Program} {fn : Func} {R : Ending → World → Prop} {N : Nat} {ρ : Env} {w : World} {e : Exit}
def Leaves : Exit → Prop
  | .normal | .ret => True
  | _ => False
theorem wq_leave {v : Value} (he : Leaves e) (h : ∀ a, Ag N [] ρ a → (results fn a.tmps).run P w = .ok v w) (hR : R (.returned v) w) : WQ (bodyPost P fn R) N [] e ρ w := by
  intro a ha
  cases e <;> first | exact he.elim | exact ⟨ha.df, v, h a ha, hR⟩
theorem Ag.getD {D : List Deferred} {a : Act} {t : Nat} {v : Value} (ha : Ag N D ρ a) (h : get ρ t = some v) : a.tmps.getD t undef = v := by
  have := ha.gt t v h
  simp [this]
theorem ret0 (he : Leaves e) (hr : fn.results = #[]) (hR : R (.returned (.tuple #[])) w) : WQ (bodyPost P fn R) N [] e ρ w := wq_leave he (fun a _ => by simp [results, hr]) hR
theorem ret1 {t : Nat} {v : Value} (he : Leaves e) (hr : fn.results = #[.tmp t]) (hv : get ρ t = some v) (hR : R (.returned v) w) : WQ (bodyPost P fn R) N [] e ρ w :=
  wq_leave he (fun a ha => by have := ha.getD hv; simp at this; simp [results, hr, this]) hR
theorem ret2 {t t' : Nat} {v v' : Value} (he : Leaves e) (hr : fn.results = #[.tmp t, .tmp t']) (hv : get ρ t = some v) (hv' : get ρ t' = some v') (hR : R (.returned (.tuple #[v, v'])) w) : WQ (bodyPost P fn R) N [] e ρ w :=
  wq_leave he (fun a ha => by have h1 := ha.getD hv; have h2 := ha.getD hv'; simp at h1 h2; simp [results, hr, h1, h2]) hR
/-- one result that lies in memory, an array or a struct -/
theorem run_loadN {t : TypeId} {p : Addr} {sz : Nat} {cs : List Value} (ha : aggB P t = some true) (hs : szB P t = some sz) (hl : cs.length = sz) (hc : ∀ j u, cs[j]? = some u → w.cell? (p.add j) = some u) : (loadVar t p).run P w = .ok (.agg cs.toArray) w := by
  have := run_loadCells_list (P := P) w p cs hc
  rw [hl] at this
  simp [loadVar, run_isAgg ha, run_sizeOf hs, this]
theorem retN {t sz : Nat} {ty : TypeId} {p : Addr} {cs : List Value} (he : Leaves e) (hr : fn.results = #[.cell t ty]) (hv : get ρ t = some (.pointer (some p))) (ha : aggB P ty = some true) (hs : szB P ty = some sz) (hl : cs.length = sz)
    (hc : ∀ j u, cs[j]? = some u → w.cell? (p.add j) = some u) (hR : R (.returned (.agg cs.toArray)) w) : WQ (bodyPost P fn R) N [] e ρ w :=
  wq_leave he (fun a hA => by have h1 := hA.getD hv; simp at h1; simp [results, hr, h1, asAddr, run_loadN ha hs hl hc]) hR
theorem retN1 {t t' sz : Nat} {ty : TypeId} {p : Addr} {cs : List Value} {v' : Value} (he : Leaves e) (hr : fn.results = #[.cell t ty, .tmp t']) (hv : get ρ t = some (.pointer (some p))) (hv' : get ρ t' = some v') (ha : aggB P ty = some true) (hs : szB P ty = some sz) (hl : cs.length = sz)
    (hc : ∀ j u, cs[j]? = some u → w.cell? (p.add j) = some u) (hR : R (.returned (.tuple #[.agg cs.toArray, v'])) w) : WQ (bodyPost P fn R) N [] e ρ w :=
  wq_leave he (fun a hA => by have h1 := hA.getD hv; have h2 := hA.getD hv'; simp at h1 h2; simp [results, hr, h1, h2, asAddr, run_loadN ha hs hl hc]) hR
end
end Go.Eng
