/- The engine over things in memory, fifth part: operations on maps, ranges over maps, locks, what is done at a function's end. No statement is proved here. -/
import Derived.Test.YtflcokdkobhieaaMem4
import Derived.Conc.MuLone
import Derived.Defers
import Derived.WalkSpells
set_option linter.unusedVariables false
set_option linter.unusedSimpArgs false
set_option linter.unusedSectionVars false
namespace Go.Eng
open Go.RowKit
open Go.ChangeMaps (setBlock)
/-! ### a range over a map -/
/-- Block r is an iterator over the map in block b, of which these are left; cur: the one that came last. -/
def RngAt {κ : Type} (enc : κ → Value) (w : World) (r b : Nat) (l left : List (κ × Value)) (cur : Option (κ × Value)) : Prop :=
  ∃ es clock since seen, r ≠ b ∧ w.heap[b]? = some (.map es clock) ∧ w.heap[r]? = some (.mapIter (some b) since seen clock) ∧ since ≤ clock ∧ es.toList.map (fun e => (e.key, e.val)) = l.map (fun p => (enc p.1, p.2)) ∧ (akeys l).Nodup ∧
    (∀ e ∈ es.toList, e.born < clock) ∧ (∀ e ∈ es.toList, e.born < since) ∧ (es.toList.map (·.born)).Nodup ∧ (leftOf es seen).toList.map (fun e => (e.key, e.val)) = left.map (fun p => (enc p.1, p.2)) ∧
    ∀ p, cur = some p → ∃ (e : MapEntry) (seen' : Array Nat), e ∈ es.toList ∧ seen = seen'.push e.born ∧ e.key = enc p.1 ∧ e.val = p.2
def RRng {κ : Type} (enc : κ → Value) (r b : Nat) (l left : List (κ × Value)) (cur : Option (κ × Value)) : Res where
  foot k := k = r ∨ k = b
  holds w := RngAt enc w r b l left cur
  keep f h m := by
    obtain ⟨es, clock, since, seen, hne, hb, hr, rest⟩ := m
    exact ⟨es, clock, since, seen, hne, (f.block b (lt_of_heap hb) (h b (.inr rfl))).trans hb, (f.block r (lt_of_heap hr) (h r (.inl rfl))).trans hr, rest⟩
  low m hk := by
    obtain ⟨es, clock, since, seen, hne, hb, hr, rest⟩ := m
    rcases hk with rfl | rfl
    · exact lt_of_heap hr
    · exact lt_of_heap hb
theorem filter_push {α : Type} {f : α → Nat} : ∀ {L : List α} {j : Nat} {e : α}, (L.map f).Nodup → L[j]? = some e → L.filter (fun x => decide (f x ≠ f e)) = L.eraseIdx j
  | [], j, e, _, h => by simp at h
  | a :: r, 0, e, hn, h => by
    simp only [List.getElem?_cons_zero, Option.some.injEq] at h
    subst h
    simp only [List.map_cons, List.nodup_cons] at hn
    rw [List.filter_cons_of_neg (by simp), List.eraseIdx_cons_zero, List.filter_eq_self]
    intro x hx
    have : f x ≠ f a := fun e => hn.1 (by rw [← e]; exact List.mem_map.2 ⟨x, hx, rfl⟩)
    simpa using this
  | a :: r, j + 1, e, hn, h => by
    simp only [List.getElem?_cons_succ] at h
    simp only [List.map_cons, List.nodup_cons] at hn
    have : f a ≠ f e := fun e' => hn.1 (by rw [e']; exact List.mem_map.2 ⟨e, List.mem_of_getElem? h, rfl⟩)
    rw [List.filter_cons_of_pos (by simpa using this), List.eraseIdx_cons_succ, filter_push hn.2 h]
theorem leftOf_push {es : Array MapEntry} {seen : Array Nat} {j : Nat} {e : MapEntry} (hn : (es.toList.map (·.born)).Nodup) (h : (leftOf es seen).toList[j]? = some e) : (leftOf es (seen.push e.born)).toList = (leftOf es seen).toList.eraseIdx j := by
  have hs : ((leftOf es seen).toList.map (·.born)).Nodup := by
    unfold leftOf
    rw [Array.toList_filter]
    exact hn.sublist (List.Sublist.map _ List.filter_sublist)
  rw [← filter_push (f := (·.born)) hs h]
  unfold leftOf
  rw [Array.toList_filter, Array.toList_filter, List.filter_filter]
  congr 1
  funext x
  simp only [Array.contains_push]
  by_cases h1 : x.born = e.born
  · simp [h1]
  · have : ¬ e.born = x.born := fun e' => h1 e'.symm
    simp [h1, this]
section
variable {P : Program} {Q : Exit → Act → World → Prop} {N : Nat} {D : List Deferred} {ρ : Env} {b : Base} {X S : List Res} {ty t t' kt et : TypeId} {x y z : Operand} {v : Value} {K : Value → List Res → List Res → Prop}
variable {κ : Type} [DecidableEq κ] {enc : κ → Value} {g : Nat} {l : List (κ × Value)}
theorem y_lookM {w : World} {zv : Value} {sz bytes : Nat} {ok : Bool} {k : κ} (hx : ev ρ x = some (.map (some g))) (hy : ev ρ y = some (enc k)) (ht : P.underlying t = some (.map kt et)) (hT : TI P et zv sz bytes) (KK : KeyK P kt enc) (h : MapAt enc w g l) :
    Yl P N D ρ w (.lookup t x y ok) ty (lookVal ok zv (aget l k)) := fun a _ _ _ _ ha => by
  have := run_lookupM (ok := ok) ht hT KK h k
  simp [execOp, ha.eval hx, ha.eval hy, this]
theorem y_lenM {w : World} (hx : ev ρ x = some (.map (some g))) (ht : P.underlying t = some (.map kt et)) (h : MapAt enc w g l) : Yl P N D ρ w (.call ⟨.builtin .len, #[x], #[t]⟩) ty (.int .i64 (l.length : Nat)) := fun a _ _ _ _ ha => by
  have := run_lenM ht h ty
  simp [execOp, resolve, invoke, builtin, ha.eval hx, this]
theorem Mem.mapX {w : World} (m : Mem b X S w) (i : Nat) (h : X[i]? = some (RMap enc g l)) : MapAt enc w g l := m.hx _ (List.mem_of_getElem? h)
theorem xh_mapup {k : κ} (i : Nat) (hi : X[i]? = some (RMap enc g l)) (hx : ev ρ x = some (.map (some g))) (hy : ev ρ y = some (enc k)) (hz : ev ρ z = some v) (ht : P.underlying t = some (.map kt et)) (KK : KeyK P kt enc)
    (k' : K undef (RMap enc g (aput l k v) :: X.eraseIdx i) S) : XH P Q N D ρ b X S (.mapUpdate t x y z) ty K := fun w m => by
  obtain ⟨w', hr, hm, hf, hs⟩ := run_updateM (P := P) ht KK (m.mapX i hi) k v
  refine xw_of_run0 (w' := w') (fun a _ _ _ _ ha => ?_) ⟨_, _, ?_, k'⟩
  · simp [execOp, ha.eval hx, ha.eval hy, ha.eval hz, hr]
  · have m' := m.perm (takeR_perm [i] X [RMap enc g l] (X.eraseIdx i) (by simp [takeR, hi]))
    exact m'.change (r' := RMap enc g (aput l k v)) hf hm (fun k hk => .inl hk)
theorem xh_mapins {k : κ} (i : Nat) (hi : X[i]? = some (RMap enc g l)) (hx : ev ρ x = some (.map (some g))) (hy : ev ρ y = some (enc k)) (hz : ev ρ z = some v) (ht : P.underlying t = some (.map kt et)) (KK : KeyK P kt enc)
    (k' : K undef (RMap enc g (aput l k v) :: X.eraseIdx i) S) : XH P Q N D ρ b X S (.insert t x y z) ty K := fun w m => by
  obtain ⟨w', hr, hm, hf, hs⟩ := run_updateM (P := P) ht KK (m.mapX i hi) k v
  refine xw_of_run0 (w' := w') (fun a _ _ _ _ ha => ?_) ⟨_, _, ?_, k'⟩
  · simp [execOp, ha.eval hx, ha.eval hy, ha.eval hz, hr]
  · have m' := m.perm (takeR_perm [i] X [RMap enc g l] (X.eraseIdx i) (by simp [takeR, hi]))
    exact m'.change (r' := RMap enc g (aput l k v)) hf hm (fun k hk => .inl hk)
theorem xh_mapdel {k : κ} (i : Nat) (hi : X[i]? = some (RMap enc g l)) (hx : ev ρ x = some (.map (some g))) (hy : ev ρ y = some (enc k)) (ht : P.underlying t = some (.map kt et)) (KK : KeyK P kt enc)
    (k' : K (.tuple #[]) (RMap enc g (adel l k) :: X.eraseIdx i) S) : XH P Q N D ρ b X S (.call ⟨.builtin .delete, #[x, y], #[t, t']⟩) ty K := fun w m => by
  obtain ⟨w', hr, hm, hf, hs⟩ := run_deleteM (P := P) ht KK (m.mapX i hi) k t' ty
  refine xw_of_run (v' := .tuple #[]) (w' := w') (fun a _ _ _ _ ha => ?_) ⟨_, _, ?_, k'⟩
  · simp [execOp, resolve, invoke, builtin, ha.eval hx, ha.eval hy, hr]
  · have m' := m.perm (takeR_perm [i] X [RMap enc g l] (X.eraseIdx i) (by simp [takeR, hi]))
    exact m'.change (r' := RMap enc g (adel l k)) hf hm (fun k hk => .inl hk)
theorem mapAt_new (enc : κ → Value) (w : World) : MapAt enc (w.alloc (.map #[] 0)) w.heap.size ([] : List (κ × Value)) := ⟨#[], 0, heap_alloc_new w _, rfl, by simp [akeys], by simp, by simp⟩
theorem xh_mkmap (enc : κ → Value) (k : ∀ g, K (.map (some g)) (RMap enc g ([] : List (κ × Value)) :: X) S) : XH P Q N D ρ b X S (.makeMap t none) ty K := fun w m => by
  refine xw_of_run (v' := .map (some w.heap.size)) (w' := w.alloc (.map #[] 0)) (fun a _ _ _ _ ha => ?_) ⟨_, _, m.addX (r' := RMap enc w.heap.size ([] : List (κ × Value))) (Fr.alloc w _) (mapAt_new enc w) (fun k hk => Nat.le_of_eq (Eq.symm hk)), k _⟩
  simp [execOp, Instr.makeMap, newObj, Sem.run]
theorem leftOf_empty (es : Array MapEntry) : leftOf es #[] = es := by
  unfold leftOf
  rw [Array.filter_eq_self]
  intro e _
  simp
theorem xh_range (i : Nat) (hi : X[i]? = some (RMap enc g l)) (hx : ev ρ x = some (.map (some g))) (ht : P.underlying t = some (.map kt et)) (k : ∀ r, K (.pointer (some ⟨r, 0, none⟩)) (RRng enc r g l l none :: X.eraseIdx i) S) : XH P Q N D ρ b X S (.range t x) ty K := fun w m => by
  obtain ⟨es, clock, hb, hl, hn, hborn, hnb⟩ := m.mapX i hi
  have hg : (getObj g).run P w = .ok (.map es clock) w := by simp [getObj, Sem.run, hb]
  refine xw_of_run (v' := .pointer (some ⟨w.heap.size, 0, none⟩)) (w' := w.alloc (.mapIter (some g) clock #[] clock)) (fun a _ _ _ _ ha => ?_) ⟨_, _, ?_, k _⟩
  · simp [execOp, ha.eval hx, Instr.range, run_underlying ht, hg, newObj, Sem.run]
  · have m' := m.perm (takeR_perm [i] X [RMap enc g l] (X.eraseIdx i) (by simp [takeR, hi]))
    have hlt := lt_of_heap hb
    have hf := Fr.alloc w (.mapIter (some g) clock #[] clock)
    have hb' := (hf.block g hlt (fun e => e)).trans hb
    refine m'.change (r' := RRng enc w.heap.size g l l none) (hf.mono (fun _ _ e => e.elim)) ⟨es, clock, clock, #[], by omega, hb', heap_alloc_new w _, Nat.le_refl _, hl, hn, hborn, hborn, hnb, by rw [leftOf_empty, hl], fun p hp => by cases hp⟩ (fun k hk => ?_)
    rcases hk with rfl | rfl
    · exact .inr (Nat.le_refl _)
    · exact .inl rfl
theorem xh_next {r : Nat} {left : List (κ × Value)} {cur : Option (κ × Value)} (i : Nat) (hi : X[i]? = some (RRng enc r g l left cur)) (hx : ev ρ x = some (.pointer (some ⟨r, 0, none⟩)))
    (h0 : left = [] → K (.tuple #[.bool false]) X S) (h1 : ∀ j p, left[j]? = some p → K (.tuple #[.bool true, enc p.1, p.2]) (RRng enc r g l (left.eraseIdx j) (some p) :: X.eraseIdx i) S) : XH P Q N D ρ b X S (.next x false) ty K := fun w m => by
  have hm : RngAt enc w r g l left cur := m.hx _ (List.mem_of_getElem? hi)
  obtain ⟨es, clock, since, seen, hne, hb, hr, hsc, hl, hn, hborn, hsince, hnb, hleft, hcur⟩ := hm
  rcases run_next_at (P := P) w ty r g since clock seen es clock hr hb hsince hsc with ⟨h0', hrun⟩ | ⟨e, he, w1, hw1, hrun⟩
  · have hz : left = [] := by
      have := congrArg List.length hleft
      simp only [List.length_map, Array.length_toList, h0'] at this
      exact List.eq_nil_of_length_eq_zero this.symm
    exact xw_of_run (fun a _ _ _ _ ha => by simp [execOp, ha.eval hx, hrun]) ⟨X, S, m, h0 hz⟩
  · obtain ⟨j, hj⟩ := List.mem_iff_getElem?.1 he
    obtain ⟨p, hp, hpk, hpv⟩ := map_pairs_get hleft hj
    have hfr : Fr No w w1 := by rcases hw1 with rfl | rfl; exact .refl _ _; exact Fr.drew w
    have m1 := m.lift hfr
    have hr1 : w1.heap[r]? = some (.mapIter (some g) since seen clock) := (hfr.block r (lt_of_heap hr) (fun e => e)).trans hr
    have hb1 : w1.heap[g]? = some (.map es clock) := (hfr.block g (lt_of_heap hb) (fun e => e)).trans hb
    have m' := m1.perm (takeR_perm [i] X [RRng enc r g l left cur] (X.eraseIdx i) (by simp [takeR, hi]))
    have hmem : e ∈ es.toList := by
      unfold leftOf at he
      rw [Array.toList_filter] at he
      exact (List.mem_filter.1 he).1
    refine xw_of_run (v' := .tuple #[.bool true, enc p.1, p.2]) (w' := setBlock w1 r (.mapIter (some g) since (seen.push e.born) clock)) (fun a _ _ _ _ ha => by simp [execOp, ha.eval hx, hrun, hpk, hpv]) ⟨_, _, ?_, h1 j p hp⟩
    have hb2 := (setBlock_fr (w := w1) (b := r) (o' := .mapIter (some g) since (seen.push e.born) clock)).block g (lt_of_heap hb1) (fun e => hne e.symm)
    have hl2 : (leftOf es (seen.push e.born)).toList.map (fun e => (e.key, e.val)) = (left.eraseIdx j).map (fun p => (enc p.1, p.2)) := by rw [leftOf_push hnb hj, map_eraseIdx, hleft, map_eraseIdx]
    refine m'.change (r' := RRng enc r g l (left.eraseIdx j) (some p)) (setBlock_fr.mono (fun k _ hk => .inl hk)) ⟨es, clock, since, seen.push e.born, hne, hb2.trans hb1, setBlock_at hr1, hsc, hl, hn, hborn, hsince, hnb, hl2, fun q hq => ?_⟩ (fun k hk => .inl hk)
    cases hq
    exact ⟨e, seen, hmem, rfl, hpk, hpv⟩
theorem Mem.rngX {w : World} {r : Nat} {left : List (κ × Value)} {cur : Option (κ × Value)} (m : Mem b X S w) (i : Nat) (h : X[i]? = some (RRng enc r g l left cur)) : RngAt enc w r g l left cur := m.hx _ (List.mem_of_getElem? h)
theorem y_entryM {w : World} {r : Nat} {left : List (κ × Value)} {p : κ × Value} (hx : ev ρ x = some (.pointer (some ⟨r, 0, none⟩))) (h : RngAt enc w r g l left (some p)) : Yl P N D ρ w (.entry x) ty (.tuple #[enc p.1, p.2]) := fun a _ _ _ _ ha => by
  obtain ⟨es, clock, since, seen, hne, hb, hr, hsc, hl, hn, hborn, hsince, hnb, hleft, hcur⟩ := h
  obtain ⟨e, seen', he, rfl, hk, hv⟩ := hcur p rfl
  have := run_entry_at (P := P) w r g since seen' es clock e hr hb he hnb
  simp [execOp, ha.eval hx, this, hk, hv]
theorem rng_map {w : World} {r : Nat} {left : List (κ × Value)} {cur : Option (κ × Value)} (h : RngAt enc w r g l left cur) : MapAt enc w g l := by
  obtain ⟨es, clock, since, seen, hne, hb, hr, hsc, hl, hn, hborn, hsince, hnb, hleft, hcur⟩ := h
  exact ⟨es, clock, hb, hl, hn, hborn, hnb⟩
/-- the range is over -/
theorem Mem.rngEnd {w : World} {r : Nat} {left : List (κ × Value)} {cur : Option (κ × Value)} (m : Mem b X S w) (i : Nat) (h : X[i]? = some (RRng enc r g l left cur)) : Mem b (RMap enc g l :: X.eraseIdx i) S w := by
  have m' := m.perm (takeR_perm [i] X [RRng enc r g l left cur] (X.eraseIdx i) (by simp [takeR, h]))
  exact m'.asX (r' := RMap enc g l) rng_map (fun k hk => .inr hk)
end
/-! ### digests as keys -/
abbrev Dg := {l : List UInt8 // l.length = 32}
def DK (d : Dg) : Value := DV d.1
theorem same_u8s (n : Nat) : ∀ l : List UInt8, ((b8s l).zip (b8s l)).all (fun (x, y) => Instr.sameBits n x y) = true
  | [] => rfl
  | a :: r => by
    have := same_u8s n r
    simp only [b8s, List.map_cons, List.zip_cons_cons, List.all_cons, Bool.and_eq_true] at this ⊢
    refine ⟨?_, this⟩
    cases n <;> simp [Instr.sameBits, B8]
theorem digKey {P : Program} {kt e : TypeId} {n : Nat} (hn : n = 32) (ht : P.underlying kt = some (.array n e)) (he : P.underlying e = some (.int .u8)) (hs : P.cellsOf kt = n) (hse : P.cellsOf e = 1) (hk : P.keyTypeAt 2 kt = true) : KeyK P kt DK where
  inj a b h := Subtype.ext (DV_inj h)
  check w em d := by
    subst hn
    have h1 : (DK d).formed P kt = true := by simp [Value.formed, DK, DV, ht, b8s_length, d.2, hs]
    have h2 := keyLits_b8 (P := P) (D := 0) (l := d.1) ht he hs hse d.2
    exact run_checkKey_deep em 9998 2 kt hk w 2 (DK d) _ h1 (by simpa [DK, DV, Value.cells] using h2)
  find w k es h := by
    subst hn
    have hag : aggB P kt = some true := by simp [aggB, ht]
    have heq : ∀ q : Dg, (Op.equal kt (DK k) (DK q)).run P w = .ok (decide (k = q)) w := fun q => by
      have h2 := keyLits_b8 (P := P) (D := 0) (l := k.1) ht he hs hse k.2
      have h3 := keyLits_b8 (P := P) (D := 0) (l := q.1) ht he hs hse q.2
      exact run_eqlK (m := 2) (p := k = q) (by decide) hk hag (by rw [b8s_length, hs]; exact k.2) (by rw [b8s_length, hs]; exact q.2) h2 h3 (by rw [lits_b8_inj]; exact ⟨fun e => Subtype.ext e, fun e => by rw [e]⟩)
    have hnow : ∀ (es : List MapEntry) (i : Nat), es ≠ [] → Instr.findNow (.array 32 e) (DK k) es i = none := fun es i hne => by
      cases es with
      | nil => exact absurd rfl hne
      | cons x r => rfl
    have hask : ∀ (es : List MapEntry) (i : Nat), (∀ x ∈ es, ∃ q, x.key = DK q) → (∃ j x, es[j]? = some x ∧ x.key = DK k ∧ (Instr.findAsking kt (DK k) es i).run P w = .ok (some (i + j, x.val)) w) ∨ ((∀ x ∈ es, x.key ≠ DK k) ∧ (Instr.findAsking kt (DK k) es i).run P w = .ok none w) := by
      intro es
      induction es with
      | nil => intro i _; exact .inr ⟨by simp, rfl⟩
      | cons x r ih =>
        intro i h
        obtain ⟨q, hq⟩ := h x (by simp)
        have hx := heq q
        rw [← hq] at hx
        by_cases hkq : k = q
        · rw [decide_eq_true hkq] at hx
          exact .inl ⟨0, x, rfl, by rw [hq, hkq], by simp [Instr.findAsking, hx]⟩
        · rw [decide_eq_false hkq] at hx
          rcases ih (i + 1) (fun y hy => h y (by simp [hy])) with ⟨j, y, hj, hy, hf⟩ | ⟨hall, hf⟩
          · refine .inl ⟨j + 1, y, by simpa using hj, hy, ?_⟩
            simp [Instr.findAsking, hx, hf]
            omega
          · refine .inr ⟨fun y hy => ?_, by simp [Instr.findAsking, hx, hf]⟩
            rcases List.mem_cons.1 hy with rfl | hy
            · rw [hq]; exact fun e => hkq (Subtype.ext (DV_inj e)).symm
            · exact hall y hy
    cases es with
    | nil => exact .inr ⟨by simp, by simp [Instr.findKey, run_underlying ht, Instr.findNow]⟩
    | cons x r =>
      have h0 := hnow (x :: r) 0 (by simp)
      rcases hask (x :: r) 0 h with ⟨j, y, hj, hy, hf⟩ | ⟨hall, hf⟩
      · refine .inl ⟨j, y, hj, hy, ?_⟩
        simp [Instr.findKey, run_underlying ht, h0, hf]
      · exact .inr ⟨hall, by simp [Instr.findKey, run_underlying ht, h0, hf]⟩
  stays w k := by
    have : Instr.sameBits 10000 (DK k) (DK k) = true := by
      show ((b8s k.1).toArray.size == (b8s k.1).toArray.size && ((b8s k.1).toArray.toList.zip (b8s k.1).toArray.toList).all fun (x, y) => Instr.sameBits 9999 x y) = true
      simp only [beq_self_eq_true, Bool.true_and]
      exact same_u8s 9999 k.1
    simp [Instr.keyThatStays, this]
theorem xh_ext {P : Program} {Q : Exit → Act → World → Prop} {N : Nat} {D : List Deferred} {ρ : Env} {b : Base} {X S : List Res} {ty : TypeId} {K : Value → List Res → List Res → Prop} {f : Nat} {fn : Func} {l : List Operand} {vs : List Value} {tys : Array TypeId} {g : Array Value → Sem Value} (hv : evs ρ l = some vs) (hf : P.funcs[f]? = some fn) (hname : (fn.name == "runtime.NumGoroutine") = false)
    (hb : fn.body.isNone = true) (hn : Extern.findNext fn = none) (he : Extern.find fn = some g) (hr : ∀ w, Mem b X S w → ∃ v w' X' S', (g vs.toArray).run P w = .ok v w' ∧ Mem b X' S' w' ∧ K v X' S') : XH P Q N D ρ b X S (.call ⟨.value (.func f), l.toArray, tys⟩) ty K := fun w m => by
  obtain ⟨v, w', X', S', hrun, m', k⟩ := hr w m
  refine xw_of_run (v' := v) (w' := w') (fun a _ _ _ _ ha => ?_) ⟨X', S', m', k⟩
  simp [execOp, resolve, Deferred.ofValue, Act.eval, invoke, ha.evals hv, run_callFunc_extern hf hname hb hn he, hrun]
theorem mapclone {P : Program} {κ : Type} [DecidableEq κ] {enc : κ → Value} {b : Base} {X S : List Res} {w : World} {g : Nat} {l : List (κ × Value)} {t : TypeId} (m : Mem b X S w) (i : Nat) (hi : X[i]? = some (RMap enc g l)) :
    ∃ g' w', (Extern.MapsClone.clone #[.iface t (.map (some g))]).run P w = .ok (.iface t (.map (some g'))) w' ∧ Mem b (RMap enc g' l :: X) S w' := by
  obtain ⟨es, clock, hb, rest⟩ := m.mapX i hi
  have hg : (getObj g).run P w = .ok (.map es clock) w := by simp [getObj, Sem.run, hb]
  refine ⟨w.heap.size, w.alloc (.map es clock), ?_, m.addX (r' := RMap enc w.heap.size l) (Fr.alloc w _) ⟨es, clock, heap_alloc_new w _, rest⟩ (fun k hk => Nat.le_of_eq (Eq.symm hk))⟩
  have e : Extern.MapsClone.clone #[.iface t (.map (some g))] = (do
    let .map entries clock ← getObj g | stuck "maps.clone: a map expected"
    pure (.iface t (.map (some (← newObj (.map entries clock)))))) := rfl
  rw [e]
  simp [hg, newObj, Sem.run]
theorem Mem.noRows {b : Base} {X S : List Res} {w : World} (m : Mem b X S w) : Mem b (RRows [] :: X) S w := m.addX (r' := RRows []) (.refl _ _) (fun r hr => by cases hr) (fun k hk => by obtain ⟨r, hr, _⟩ := hk; cases hr)
/-- a row more -/
theorem Mem.rowAdd {b : Base} {X S : List Res} {w : World} {rows rows' : List BRow} {e : TypeId} {A : Option Addr} {n c : Nat} {l : List UInt8} (m : Mem b (RRows rows :: ROwn e 1 (.slice A n c) n (b8s l) :: X) S w) (h : ∀ r ∈ rows', r ∈ rows ∨ r = ⟨A, n, c, l⟩) : Mem b (RRows rows' :: X) S w := by
  refine m.merge (r := RRows rows') (fun h1 h2 r hr => ?_) (fun k hk => ?_)
  · rcases h r hr with h' | rfl
    · exact h1 r h'
    · obtain ⟨_, h3, h4⟩ := Own.rd h2
      exact ⟨h4, h3⟩
  · obtain ⟨r, hr, hk⟩ := hk
    rcases h r hr with h' | rfl
    · exact .inl ⟨r, h', hk⟩
    · exact .inr (View.own.ok.2 k hk)
/-- the first half of a row -/
def BRow.half (r : BRow) : BRow := ⟨r.A, r.n / 2, r.c, r.l.take (r.n / 2)⟩
theorem Mem.rowHalf {b : Base} {X S : List Res} {w : World} {rows rows' : List BRow} (m : Mem b (RRows rows :: X) S w) (h : ∀ r ∈ rows', ∃ q ∈ rows, r = q ∨ ∃ k, k ≤ q.n ∧ r = ⟨q.A, k, q.c, q.l.take k⟩) : Mem b (RRows rows' :: X) S w :=
  m.asX (r' := RRows rows') (fun h1 r hr => by
    obtain ⟨q, hq, rfl | ⟨k, hk, rfl⟩⟩ := h r hr
    · exact h1 r hq
    · obtain ⟨h2, h3⟩ := h1 q hq
      exact ⟨(View.take hk).ok.1 w h2, Nat.le_trans hk h3⟩) (fun i hi => by
    obtain ⟨r, hr, hi⟩ := hi
    obtain ⟨q, hq, rfl | ⟨k, hk, rfl⟩⟩ := h r hr
    · exact ⟨r, hq, hi⟩
    · exact ⟨q, hq, (View.take hk).ok.2 i hi⟩)
theorem Mem.rowSub {b : Base} {X S : List Res} {w : World} {rows rows' : List BRow} (m : Mem b (RRows rows :: X) S w) (h : ∀ r ∈ rows', r ∈ rows) : Mem b (RRows rows' :: X) S w :=
  m.asX (r' := RRows rows') (fun h1 r hr => h1 r (h r hr)) (fun k hk => by
    obtain ⟨r, hr, hk⟩ := hk
    exact ⟨r, h r hr, hk⟩)
theorem xh_mclone {P : Program} {Q : Exit → Act → World → Prop} {N : Nat} {D : List Deferred} {ρ : Env} {b : Base} {X S : List Res} {ty t : TypeId} {K : Value → List Res → List Res → Prop} {κ : Type} [DecidableEq κ] {enc : κ → Value} {g : Nat} {l : List (κ × Value)} {f : Nat} {fn : Func} {x : Operand} {tys : Array TypeId} (i : Nat) (hi : X[i]? = some (RMap enc g l)) (hx : ev ρ x = some (.iface t (.map (some g)))) (hf : P.funcs[f]? = some fn) (hname : (fn.name == "runtime.NumGoroutine") = false)
    (hb : fn.body.isNone = true) (hn : Extern.findNext fn = none) (he : Extern.find fn = some Extern.MapsClone.clone) (k : ∀ g', K (.iface t (.map (some g'))) (RMap enc g' l :: X) S) : XH P Q N D ρ b X S (.call ⟨.value (.func f), #[x], tys⟩) ty K :=
  xh_ext (l := [x]) (vs := [.iface t (.map (some g))]) (by simp [evs, hx]) hf hname hb hn he fun w m => by
    obtain ⟨g', w', hrun, m'⟩ := mapclone (P := P) (t := t) m i hi
    exact ⟨_, w', _, _, hrun, m', k g'⟩
theorem y_eqMn {P : Program} {N : Nat} {D : List Deferred} {ρ : Env} {w : World} {ty t t' kt et : TypeId} {x y : Operand} {r : Option Nat} (hx : ev ρ x = some (.map r)) (hy : ev ρ y = some (.map none)) (ht : P.underlying t = some (.map kt et)) : Yl P N D ρ w (.binOp .eql t x y t') ty (.bool r.isNone) := fun _ _ _ _ _ ha => by
  simp only [execOp, ha.eval hx, ha.eval hy]
  simp [eqGuard, run_eql_map_nil w t kt et r ht]
/-- bytes as bytes -/
theorem xh_cvS {P : Program} {Q : Exit → Act → World → Prop} {N : Nat} {D : List Deferred} {ρ : Env} {b : Base} {X S : List Res} {ty t e0 e : TypeId} {K : Value → List Res → List Res → Prop} {g n c sz : Nat} {xs : List Value} {x : Operand} (i : Nat) (hi : X[i]? = some (ROwn e sz (.slice (some ⟨g, 0, none⟩) n c) n xs)) (hx : ev ρ x = some (.slice (some ⟨g, 0, none⟩) n c)) (ht : P.underlying t = some (.slice e0)) (he : P.underlying e0 = some (.int .u8))
    (k : K (.slice (some ⟨g, 0, none⟩) n c) (ROwn e sz (.slice (some ⟨g, 0, none⟩) n c) n xs :: X.eraseIdx i) S) : XH P Q N D ρ b X S (.convert t t x) ty K := fun w m => by
  have ho := m.own i hi
  rcases ho with ⟨hl, ⟨h1, _⟩ | ⟨g', o, cap, cur, h1, hb, hg, hn, hm, hc, hxs⟩⟩
  · cases h1
  · cases h1
    refine x_cvS hx ht he hg fun w' hf hb' hsz => ⟨_, _, ?_, k⟩
    have m' := m.perm (takeR_perm [i] X [ROwn e sz (.slice (some ⟨g, 0, none⟩) n c) n xs] (X.eraseIdx i) (by simp [takeR, hi]))
    exact m'.change (r' := ROwn e sz (.slice (some ⟨g, 0, none⟩) n c) n xs) hf ⟨hl, .inr ⟨g, 0, c, cur, rfl, Nat.zero_le _, hb', hn, hm, hc, hxs⟩⟩ (fun k hk => .inl hk)
/-! ### a method of an interface -/
section
variable {P : Program} {Q : Exit → Act → World → Prop} {N : Nat} {D : List Deferred} {ρ : Env} {b : Base} {X X' X0 Xr S S' S0 : List Res} {ty dt : TypeId} {x : Operand} {v recv : Value} {m' : String} {f : Nat} {l : List Operand} {vs : List Value} {tys : Array TypeId} {R : Value → List Res → List Res → Prop} {K : Value → List Res → List Res → Prop}
theorem x_inv {w : World} {R : Ending → World → Prop} {K : Value → World → Prop} (hx : ev ρ x = some (.iface dt v)) (hv : evs ρ l = some vs) (hm : ∀ w, (Go.method (P.types.size + Made.depth) dt v m').run P w = .ok (f, recv) w) (hf : ∀ args w, (callFunc f args).run P w = .ok (.enter f args) w)
    (hc : Calls P f (recv :: vs).toArray w R) (hR : ∀ e w', R e w' → ∃ v, e = .returned v ∧ K v w') : XW P Q N D ρ w (.call ⟨.invoke x m', l.toArray, tys⟩) ty K := by
  intro a dst pos af g ha
  unfold Oper.wp
  have h0 : (program).run P w = .ok P w := rfl
  have : (execOp a.eval ⟨dst, .call ⟨.invoke x m', l.toArray, tys⟩, ty, pos, af, g⟩).run P w = .ok (.enter f (recv :: vs).toArray) w := by
    have e : (#[recv] ++ vs.toArray) = (recv :: vs).toArray := by simp
    have := hf (#[recv] ++ vs.toArray) w
    simp [execOp, resolve, invoke, callMethod, h0, ha.evals hv, ha.eval hx, hm]
    simpa using this
  rw [this]
  refine Calls.mono hc ?_
  intro e w' he
  obtain ⟨v, rfl, hk⟩ := hR e w' he
  exact ⟨v, rfl, hk⟩
theorem xh_inv (hx : ev ρ x = some (.iface dt v)) (hv : evs ρ l = some vs) (hm : ∀ w, (Go.method (P.types.size + Made.depth) dt v m').run P w = .ok (f, v) w) (hf : ∀ args w, (callFunc f args).run P w = .ok (.enter f args) w)
    (hc : Con P f (v :: vs) X0 S0 R) (is : List Nat) (hX : takeR is X = some (X0, Xr)) (js : List Nat) (hS : getR js S = some S0) (k : ∀ v X' S', R v X' S' → K v (X' ++ Xr) (S' ++ S)) : XH P Q N D ρ b X S (.call ⟨.invoke x m', l.toArray, tys⟩) ty K := fun w m => by
  have m1 := m.perm (takeR_perm _ _ _ _ hX)
  refine x_inv hx hv hm hf (hc w (m1.part (getR_sub _ _ _ hS))) ?_
  rintro e w' ⟨v, X', S', rfl, hR, m'⟩
  exact ⟨v, rfl, _, _, m1.frame (getR_sub _ _ _ hS) m', k v X' S' hR⟩
/-- a method's value, of an interface that holds no nil pointer -/
theorem y_nilm {w : World} {name : String} {t : TypeId} {u : Value} {c : Array Value} (hx : ev ρ x = some (.func (.method name) #[.iface t u] c)) (hn : (nilAhead (P.types.size + Made.depth) t u name).run P w = .ok (some false) w) : Yl P N D ρ w (.nilCheck x) ty (.func (.method name) #[.iface t u] c) := fun _ _ _ _ _ ha => by
  have h0 : (program).run P w = .ok P w := rfl
  simp [execOp, ha.eval hx, h0, hn]
theorem y_nilf {w : World} {f : Nat} {a c : Array Value} (hx : ev ρ x = some (.func (.func f) a c)) : Yl P N D ρ w (.nilCheck x) ty (.func (.func f) a c) := fun _ _ _ _ _ ha => by
  simp [execOp, ha.eval hx]
end
/-! ### At a function's end -/
section
variable {P : Program} {ops : Array Oper} {Q : Exit → Act → World → Prop} {N : Nat} {D : List Deferred} {ρ : Env} {b : Base} {X X' Xr S S' : List Res} {rest : List Oper} {ty : TypeId} {pos : String} {af : Array Edge}
theorem hdefer {f : Nat} {l : List Operand} {vs : List Value} {tys : Array TypeId} (hv : evs ρ l = some vs) (k : HL P ops Q N (⟨.fn (.func f) #[], vs.toArray⟩ :: D) rest ρ b X S) : HL P ops Q N D (⟨none, .defer ⟨.value (.func f), l.toArray, tys⟩, ty, pos, af, none⟩ :: rest) ρ b X S := fun w m a ha => by
  unfold wpList
  rw [if_pos (by simp [Region.wanted])]
  refine .inl ?_
  unfold Oper.wp
  have : (execOp a.eval ⟨none, .defer ⟨.value (.func f), l.toArray, tys⟩, ty, pos, af, none⟩).run P w = .ok (.defer ⟨.fn (.func f) #[], vs.toArray⟩) w := by
    simp [execOp, resolve, Deferred.ofValue, Act.eval, ha.evals hv]
  rw [this]
  refine k w m _ ⟨ha.sz, ?_, ha.gt⟩
  show _ :: a.defers = _
  rw [ha.df]
/-- a closure at the end -/
theorem hdeferv {f : Nat} {x : Operand} {l : List Operand} {vs first cap : List Value} {tys : Array TypeId} (hx : ev ρ x = some (.func (.func f) first.toArray cap.toArray)) (hv : evs ρ l = some vs) (k : HL P ops Q N (⟨.fn (.func f) cap.toArray, (first ++ vs).toArray⟩ :: D) rest ρ b X S) :
    HL P ops Q N D (⟨none, .defer ⟨.value x, l.toArray, tys⟩, ty, pos, af, none⟩ :: rest) ρ b X S := fun w m a ha => by
  unfold wpList
  rw [if_pos (by simp [Region.wanted])]
  refine .inl ?_
  unfold Oper.wp
  have : (execOp a.eval ⟨none, .defer ⟨.value x, l.toArray, tys⟩, ty, pos, af, none⟩).run P w = .ok (.defer ⟨.fn (.func f) cap.toArray, (first ++ vs).toArray⟩) w := by
    simp [execOp, resolve, Deferred.ofValue, ha.eval hx, ha.evals hv]
  rw [this]
  refine k w m _ ⟨ha.sz, ?_, ha.gt⟩
  show _ :: a.defers = _
  rw [ha.df]
end
theorem henterD {P : Program} {f : Nat} {fn : Func} {c : Code} {vs : List Value} {R : Value → List Res → List Res → Prop} {N : Nat} {X0 S0 : List Res} (hf : P.funcs[f]? = some fn) (hb : fn.body = some c) (hN : fn.ntmps = N) (hl : vs.length ≤ N)
    (h : ∀ b, HC P (bodyPostD P fn (RB b R)) N [] c (argsEnv vs 0) b X0 S0) : Con P f vs X0 S0 R := fun w m => by
  refine calls_of_wp_defers hf hb (h _ w m _ ⟨?_, rfl, fun t v ht => ?_⟩)
  · simp [hN]; omega
  · obtain ⟨_, h2⟩ := get_argsEnv vs 0 t v ht
    have hlt := (List.getElem?_eq_some_iff.1 h2).1
    rw [Array.getElem?_append_left (by simpa using hlt)]
    simpa using h2
/-- where a function with calls at its end leaves -/
def HE (P : Program) (fn : Func) (b : Base) (R : Value → List Res → List Res → Prop) (N : Nat) (D : List Deferred) (ρ : Env) (X S : List Res) : Prop := ∀ w, Mem b X S w → ∀ tmps : Array Value, (∀ t v, get ρ t = some v → tmps[t]? = some v) → Go.Leaves P fn tmps (RB b R) D .returning w
section
variable {P : Program} {fn : Func} {R : Value → List Res → List Res → Prop} {N : Nat} {D : List Deferred} {ρ : Env} {b : Base} {X X' Xz Xr S S' : List Res} {e : Exit}
theorem hleave (he : Leaves e) (h : HE P fn b R N D ρ X S) : HQ (bodyPostD P fn (RB b R)) N D e ρ b X S := fun w m a ha => by
  have := h w m a.tmps ha.gt
  cases e <;> first | exact he.elim | (show Go.Leaves P fn a.tmps (RB b R) a.defers .returning w; rw [ha.df]; exact this)
theorem hlast {v : Value} (hr : ∀ tmps : Array Value, (∀ t v, get ρ t = some v → tmps[t]? = some v) → ∀ w, (results fn tmps).run P w = .ok v w) (is : List Nat) (hX : takeR is X = some (X', Xz)) (js : List Nat) (hS : getR js S = some S') (hR : R v X' S') : HE P fn b R N [] ρ X S := fun w m tmps ht =>
  ⟨v, hr tmps ht w, _, _, _, rfl, hR, m.out is hX js hS⟩
theorem tmps_getD {tmps : Array Value} (h : ∀ t v, get ρ t = some v → tmps[t]? = some v) {t : Nat} {v : Value} (hv : get ρ t = some v) : tmps.getD t undef = v := by
  have := h t v hv
  simp [this]
theorem hlast1 {t : Nat} {v : Value} (hr : fn.results = #[.tmp t]) (hv : get ρ t = some v) (is : List Nat) (hX : takeR is X = some (X', Xz)) (js : List Nat) (hS : getR js S = some S') (hR : R v X' S') : HE P fn b R N [] ρ X S :=
  hlast (fun tmps h w => by have := tmps_getD h hv; simp at this; simp [results, hr, this]) is hX js hS hR
theorem hlast2 {t t' : Nat} {v v' : Value} (hr : fn.results = #[.tmp t, .tmp t']) (hv : get ρ t = some v) (hv' : get ρ t' = some v') (is : List Nat) (hX : takeR is X = some (X', Xz)) (js : List Nat) (hS : getR js S = some S') (hR : R (.tuple #[v, v']) X' S') : HE P fn b R N [] ρ X S :=
  hlast (fun tmps h w => by have h1 := tmps_getD h hv; have h2 := tmps_getD h hv'; simp at h1 h2; simp [results, hr, h1, h2]) is hX js hS hR
theorem hlastN1 {t t' sz : Nat} {ty : TypeId} {p : Addr} {cs : List Value} {v' : Value} (hr : fn.results = #[.cell t ty, .tmp t']) (hv : get ρ t = some (.pointer (some p))) (hv' : get ρ t' = some v') (ha : aggB P ty = some true) (hs : szB P ty = some sz) (hl : cs.length = sz)
    (hc : ∀ {w}, Mem b X S w → ∀ j u, cs[j]? = some u → w.cell? (p.add j) = some u) (is : List Nat) (hX : takeR is X = some (X', Xz)) (js : List Nat) (hS : getR js S = some S') (hR : R (.tuple #[.agg cs.toArray, v']) X' S') : HE P fn b R N [] ρ X S := fun w m tmps h =>
  ⟨.tuple #[.agg cs.toArray, v'], by have h1 := tmps_getD h hv; have h2 := tmps_getD h hv'; simp at h1 h2; simp [results, hr, h1, h2, asAddr, run_loadN ha hs hl (hc m)], _, _, _, rfl, hR, m.out is hX js hS⟩
/-- the lock is let go at the end -/
theorem hunlock {L : Conc.Locks.MuLink} (H : Conc.Locks.MuLib P L) {g o : Nat} {t : TypeId} {cs : List Value} (i : Nat) (hi : X[i]? = some (RBlk g t cs)) (hc : cs[o]? = some (.int .i32 1)) (hcall : ∀ args w, (callFunc L.unlock args).run P w = .ok (.enter L.unlock args) w)
    (k : HE P fn b R N D ρ (RBlk g t (cs.set o (.int .i32 0)) :: X.eraseIdx i) S) : HE P fn b R N (⟨.fn (.func L.unlock) #[], #[.pointer (some ⟨g, o, none⟩)]⟩ :: D) ρ X S := fun w m tmps ht => by
  have hb := m.blk i hi
  have hlt := (List.getElem?_eq_some_iff.1 hc).1
  refine ⟨by simp, .func L.unlock, #[], L.unlock, #[.pointer (some ⟨g, o, none⟩)], rfl, ?_, ?_⟩
  · simp [invoke, hcall]
  · refine CallsD.mono (Go.MuLone.unlock_deferred H ⟨g, o, none⟩ .returning w (hb.cell hc) (hb.frozen hlt)) ?_
    rintro e u' w' ⟨rfl, rfl, rfl⟩
    have m' := m.perm (takeR_perm [i] X [RBlk g t cs] (X.eraseIdx i) (by simp [takeR, hi]))
    exact k _ (m'.change (r' := RBlk g t (cs.set o (.int .i32 0))) (Fr.setCell w ⟨g, o, none⟩ _) (hb.set o _) (fun k hk => .inl hk)) tmps ht
end
section
variable {P : Program} {Q : Exit → Act → World → Prop} {N : Nat} {D : List Deferred} {ρ : Env} {b : Base} {X S : List Res} {ty : TypeId} {K : Value → List Res → List Res → Prop}
theorem lockC {L : Conc.Locks.MuLink} (H : Conc.Locks.MuLib P L) {g o : Nat} {t : TypeId} {cs : List Value} (hc : cs[o]? = some (.int .i32 0)) : Con P L.lock [.pointer (some ⟨g, o, none⟩)] [RBlk g t cs] [] fun v X S => v = .tuple #[] ∧ X = [RBlk g t (cs.set o (.int .i32 1))] ∧ S = [] := fun w m => by
  have hb := m.blk 0 rfl
  have hlt := (List.getElem?_eq_some_iff.1 hc).1
  refine Calls.mono (Go.MuLone.lock_free H ⟨g, o, none⟩ w (hb.cell hc) (hb.frozen hlt)) ?_
  rintro e w' ⟨rfl, rfl⟩
  exact ⟨_, _, _, rfl, ⟨rfl, rfl, rfl⟩, m.change (r' := RBlk g t (cs.set o (.int .i32 1))) (Fr.setCell w ⟨g, o, none⟩ _) (hb.set o _) (fun k hk => .inl hk)⟩
end
end Go.Eng
