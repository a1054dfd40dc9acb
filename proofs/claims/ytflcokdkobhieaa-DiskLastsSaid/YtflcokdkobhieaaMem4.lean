/- The engine over things in memory, fourth part: maps. No statement is proved here. -/
import Derived.Test.YtflcokdkobhieaaMem3
import Derived.Maps.RangeRun
set_option linter.unusedVariables false
set_option linter.unusedSimpArgs false
set_option linter.unusedSectionVars false
namespace Go.Eng
open Go.RowKit
open Go.ChangeMaps (setBlock)
/-! ### Lists by keys -/
section
variable {κ α : Type} [DecidableEq κ]
def aget : List (κ × α) → κ → Option α
  | [], _ => none
  | (k, v) :: r, q => if k = q then some v else aget r q
def aput : List (κ × α) → κ → α → List (κ × α)
  | [], q, u => [(q, u)]
  | (k, v) :: r, q, u => if k = q then (k, u) :: r else (k, v) :: aput r q u
def adel : List (κ × α) → κ → List (κ × α)
  | [], _ => []
  | (k, v) :: r, q => if k = q then r else (k, v) :: adel r q
def akeys (l : List (κ × α)) : List κ := l.map (·.1)
theorem aput_keys : ∀ (l : List (κ × α)) (q : κ) (u : α), akeys (aput l q u) = if q ∈ akeys l then akeys l else akeys l ++ [q]
  | [], q, u => by simp [akeys, aput]
  | (k, v) :: r, q, u => by
    have ih := aput_keys r q u
    unfold aput
    by_cases h : k = q
    · simp [h, akeys]
    · have h' : ¬ q = k := fun e => h e.symm
      rw [if_neg h]
      simp only [akeys, List.map_cons, List.mem_cons, h', false_or] at ih ⊢
      by_cases hm : q ∈ List.map (fun x => x.fst) r <;> simp [hm, ih]
theorem nodup_snoc {l : List κ} {q : κ} (h : l.Nodup) (hq : ¬ q ∈ l) : (l ++ [q]).Nodup := by
  rw [List.nodup_append]
  refine ⟨h, by simp, fun a ha b hb e => ?_⟩
  rcases List.mem_singleton.1 hb with rfl
  exact hq (e ▸ ha)
theorem aput_nodup {l : List (κ × α)} {q : κ} {u : α} (h : (akeys l).Nodup) : (akeys (aput l q u)).Nodup := by
  rw [aput_keys]
  split
  · exact h
  · rename_i hq
    exact nodup_snoc h hq
theorem adel_keys : ∀ (l : List (κ × α)) (q : κ), akeys (adel l q) = (akeys l).erase q
  | [], q => by simp [akeys, adel]
  | (k, v) :: r, q => by
    have ih := adel_keys r q
    unfold adel
    by_cases h : k = q
    · simp [h, akeys]
    · rw [if_neg h]
      simp only [akeys, List.map_cons] at ih ⊢
      rw [List.erase_cons, ih]
      simp [h]
theorem adel_nodup {l : List (κ × α)} {q : κ} (h : (akeys l).Nodup) : (akeys (adel l q)).Nodup := by
  rw [adel_keys]
  exact h.sublist List.erase_sublist
theorem aget_none {l : List (κ × α)} {q : κ} : aget l q = none ↔ ¬ q ∈ akeys l := by
  induction l with
  | nil => simp [aget, akeys]
  | cons p r ih =>
    obtain ⟨k, v⟩ := p
    simp only [aget, akeys, List.map_cons, List.mem_cons] at ih ⊢
    by_cases h : k = q
    · simp [h]
    · have h' : ¬ q = k := fun e => h e.symm
      rw [if_neg h, ih]; simp [h']
theorem aget_mem {l : List (κ × α)} {q : κ} {v : α} (h : aget l q = some v) : (q, v) ∈ l := by
  induction l with
  | nil => simp [aget] at h
  | cons p r ih =>
    obtain ⟨k, u⟩ := p
    simp only [aget] at h
    split at h
    · rename_i e; cases h; simp [e]
    · exact List.mem_cons_of_mem _ (ih h)
theorem aget_of_mem {l : List (κ × α)} {q : κ} {v : α} (hn : (akeys l).Nodup) (h : (q, v) ∈ l) : aget l q = some v := by
  induction l with
  | nil => simp at h
  | cons p r ih =>
    obtain ⟨k, u⟩ := p
    simp only [akeys, List.map_cons, List.nodup_cons] at hn
    simp only [aget]
    rcases List.mem_cons.1 h with e | h
    · cases e; simp
    · have : k ≠ q := fun e => hn.1 (by rw [e]; exact List.mem_map.2 ⟨_, h, rfl⟩)
      rw [if_neg this]
      exact ih hn.2 h
theorem aget_aput {l : List (κ × α)} {q p : κ} {u : α} : aget (aput l q u) p = if q = p then some u else aget l p := by
  induction l with
  | nil => simp only [aput, aget]
  | cons x r ih =>
    obtain ⟨k, v⟩ := x
    simp only [aput]
    by_cases h : k = q
    · subst h
      rw [if_pos rfl]
      simp only [aget]
      split <;> simp_all
    · rw [if_neg h]
      simp only [aget, ih]
      by_cases h1 : k = p
      · have : ¬ q = p := fun e => h (by rw [h1, e])
        simp [h1, this]
      · simp [h1]
theorem aget_adel {l : List (κ × α)} {q p : κ} (hn : (akeys l).Nodup) : aget (adel l q) p = if q = p then none else aget l p := by
  induction l with
  | nil => simp [adel, aget]
  | cons x r ih =>
    obtain ⟨k, v⟩ := x
    simp only [akeys, List.map_cons, List.nodup_cons] at hn
    simp only [adel]
    by_cases h : k = q
    · subst h
      rw [if_pos rfl]
      simp only [aget]
      by_cases h1 : k = p
      · subst h1
        rw [if_pos rfl]
        exact aget_none.2 hn.1
      · rw [if_neg h1, if_neg h1]
    · rw [if_neg h]
      simp only [aget, ih hn.2]
      by_cases h1 : k = p
      · have : ¬ q = p := fun e => h (by rw [h1, e])
        simp [h1, this]
      · simp [h1]
end
/-! ### Keys -/
/-- what the machine does with keys of a type -/
structure KeyK (P : Program) (kt : TypeId) {κ : Type} (enc : κ → Value) : Prop where
  inj : ∀ a b, enc a = enc b → a = b
  check : ∀ w e k, (Instr.checkKey e 10000 kt (enc k)).run P w = .ok () w
  find : ∀ w (k : κ) (es : List MapEntry), (∀ x ∈ es, ∃ q, x.key = enc q) →
    (∃ i x, es[i]? = some x ∧ x.key = enc k ∧ (Instr.findKey kt (enc k) es).run P w = .ok (some (i, x.val)) w) ∨ ((∀ x ∈ es, x.key ≠ enc k) ∧ (Instr.findKey kt (enc k) es).run P w = .ok none w)
  stays : ∀ w k, (Instr.keyThatStays (enc k) (enc k)).run P w = .ok (enc k) w
def SV (s : List UInt8) : Value := .string (strOf s)
def DV (d : List UInt8) : Value := .agg (b8s d).toArray
theorem SV_inj {a b : List UInt8} (h : SV a = SV b) : a = b := by
  simp only [SV, Value.string.injEq] at h
  exact strOf_inj.1 h
theorem DV_inj {a b : List UInt8} (h : DV a = DV b) : a = b := by
  simp only [DV, Value.agg.injEq] at h
  exact b8s_inj (List.toArray_inj h)
theorem strBeq (a b : ByteArray) : (a == b) = decide (a = b) := by
  by_cases h : a = b
  · subst h
    rw [decide_eq_true rfl]
    cases a with | mk d =>
    show (d == d) = true
    simp
  · rw [decide_eq_false h]
    cases a with | mk d =>
    cases b with | mk d' =>
    show (d == d') = false
    have : d ≠ d' := fun e => h (by rw [e])
    simpa using this
theorem findNow_str (k : List UInt8) : ∀ (es : List MapEntry) (i : Nat), (∀ x ∈ es, ∃ q, x.key = SV q) →
    (∃ j x, es[j]? = some x ∧ x.key = SV k ∧ Instr.findNow .string (SV k) es i = some (some (i + j, x.val))) ∨ ((∀ x ∈ es, x.key ≠ SV k) ∧ Instr.findNow .string (SV k) es i = some none)
  | [], i, _ => .inr ⟨by simp, rfl⟩
  | e :: es, i, h => by
    obtain ⟨q, hq⟩ := h e (by simp)
    have hs : Instr.sameNow .string (SV k) e.key = some (decide (k = q)) := by
      rw [hq, show Instr.sameNow .string (SV k) (SV q) = some (strOf k == strOf q) from rfl, strBeq]
      congr 1
      simp only [strOf_inj]
    by_cases hk : k = q
    · refine .inl ⟨0, e, rfl, by rw [hq, hk], ?_⟩
      subst hk
      unfold Instr.findNow
      rw [hs]
      simp
    · rw [decide_eq_false hk] at hs
      rcases findNow_str k es (i + 1) (fun x hx => h x (by simp [hx])) with ⟨j, x, hj, hx, hf⟩ | ⟨hall, hf⟩
      · refine .inl ⟨j + 1, x, by simpa using hj, hx, ?_⟩
        unfold Instr.findNow
        rw [hs]
        simp only [hf]
        rw [show i + 1 + j = i + (j + 1) by omega]
      · refine .inr ⟨fun x hx => ?_, ?_⟩
        · rcases List.mem_cons.1 hx with rfl | hx
          · rw [hq]; exact fun e => hk (SV_inj e).symm
          · exact hall x hx
        · unfold Instr.findNow
          rw [hs]
          exact hf
theorem strKey {P : Program} {kt : TypeId} (ht : P.underlying kt = some .string) : KeyK P kt SV where
  inj _ _ := SV_inj
  check w e k := by
    unfold Instr.checkKey
    simp [run_underlying ht, SV]
  find w k es h := by
    rcases findNow_str k es 0 h with ⟨j, x, hj, hx, hf⟩ | ⟨hall, hf⟩
    · refine .inl ⟨j, x, hj, hx, ?_⟩
      simp [Instr.findKey, run_underlying ht, hf]
    · exact .inr ⟨hall, by simp [Instr.findKey, run_underlying ht, hf]⟩
  stays w k := by
    have : Instr.sameBits 10000 (SV k) (SV k) = true := by
      show (strOf k == strOf k) = true
      rw [strBeq]; simp
    simp [Instr.keyThatStays, this]
/-! ### A map -/
section
variable {κ : Type} {enc : κ → Value}
/-- Block b is a map of these, in the order in which they came. -/
def MapAt (enc : κ → Value) (w : World) (b : Nat) (l : List (κ × Value)) : Prop :=
  ∃ es clock, w.heap[b]? = some (.map es clock) ∧ es.toList.map (fun e => (e.key, e.val)) = l.map (fun p => (enc p.1, p.2)) ∧ (akeys l).Nodup ∧ (∀ e ∈ es.toList, e.born < clock) ∧ (es.toList.map (·.born)).Nodup
def RMap (enc : κ → Value) (b : Nat) (l : List (κ × Value)) : Res where
  foot k := k = b
  holds w := MapAt enc w b l
  keep f h m := by
    obtain ⟨es, clock, hb, rest⟩ := m
    exact ⟨es, clock, (f.block b (lt_of_heap hb) (h b rfl)).trans hb, rest⟩
  low m hk := by
    obtain ⟨es, clock, hb, rest⟩ := m
    exact hk ▸ lt_of_heap hb
variable {P : Program} {w : World} {b : Nat} {l : List (κ × Value)} {kt et t : TypeId}
theorem MapAt.keys (h : MapAt enc w b l) : (akeys l).Nodup := by
  obtain ⟨_, _, _, _, hn, _⟩ := h
  exact hn
theorem map_pairs_get {es : List MapEntry} {l : List (κ × Value)} (h : es.map (fun e => (e.key, e.val)) = l.map (fun p => (enc p.1, p.2))) {i : Nat} {x : MapEntry} (hx : es[i]? = some x) : ∃ p, l[i]? = some p ∧ x.key = enc p.1 ∧ x.val = p.2 := by
  have := congrArg (fun q : List (Value × Value) => q[i]?) h
  simp only [List.getElem?_map, hx, Option.map_some] at this
  cases hp : l[i]? with
  | none => rw [hp] at this; simp at this
  | some p =>
    rw [hp] at this
    simp only [Option.map_some, Option.some.injEq, Prod.mk.injEq] at this
    exact ⟨p, rfl, this.1, this.2⟩
theorem entries_enc {es : List MapEntry} {l : List (κ × Value)} (h : es.map (fun e => (e.key, e.val)) = l.map (fun p => (enc p.1, p.2))) : ∀ x ∈ es, ∃ q, x.key = enc q := by
  intro x hx
  obtain ⟨i, hi⟩ := List.mem_iff_getElem?.1 hx
  obtain ⟨p, _, hk, _⟩ := map_pairs_get h hi
  exact ⟨p.1, hk⟩
variable [DecidableEq κ]
theorem aget_at {l : List (κ × Value)} (hn : (akeys l).Nodup) {i : Nat} {p : κ × Value} (h : l[i]? = some p) : aget l p.1 = some p.2 := aget_of_mem hn (List.mem_of_getElem? h)
/-- what stands at a key -/
theorem MapAt.found (h : MapAt enc w b l) (K : KeyK P kt enc) (k : κ) : ∃ es clock, w.heap[b]? = some (.map es clock) ∧ es.toList.map (fun e => (e.key, e.val)) = l.map (fun p => (enc p.1, p.2)) ∧
    (∀ e ∈ es.toList, e.born < clock) ∧ (es.toList.map (·.born)).Nodup ∧
    ((∃ i x, es.toList[i]? = some x ∧ l[i]? = some (k, x.val) ∧ aget l k = some x.val ∧ x.key = enc k ∧ (Instr.findKey kt (enc k) es.toList).run P w = .ok (some (i, x.val)) w) ∨
     (aget l k = none ∧ (Instr.findKey kt (enc k) es.toList).run P w = .ok none w)) := by
  obtain ⟨es, clock, hb, hl, hn, hborn, hnb⟩ := h
  refine ⟨es, clock, hb, hl, hborn, hnb, ?_⟩
  rcases K.find w k es.toList (entries_enc hl) with ⟨i, x, hi, hx, hf⟩ | ⟨hall, hf⟩
  · obtain ⟨p, hp, hpk, hpv⟩ := map_pairs_get hl hi
    have e : p.1 = k := K.inj _ _ (hpk.symm.trans hx)
    have hp' : l[i]? = some (k, x.val) := by rw [hp, hpv, ← e]
    exact .inl ⟨i, x, hi, hp', by have := aget_at hn hp'; exact this, hx, hf⟩
  · refine .inr ⟨aget_none.2 fun hk => ?_, hf⟩
    obtain ⟨p, hp, e⟩ := List.mem_map.1 hk
    obtain ⟨i, hi⟩ := List.mem_iff_getElem?.1 hp
    have h1 := congrArg (fun q : List (Value × Value) => q[i]?) hl
    simp only [List.getElem?_map, hi, Option.map_some] at h1
    cases hx : es.toList[i]? with
    | none => simp [hx] at h1
    | some x =>
      simp only [hx, Option.map_some, Option.some.injEq, Prod.mk.injEq] at h1
      exact hall x (List.mem_of_getElem? hx) (by rw [h1.1, e])
def lookVal (ok : Bool) (z : Value) (o : Option Value) : Value := if ok then .tuple #[o.getD z, .bool o.isSome] else o.getD z
theorem run_zero {z : Value} {sz bytes : Nat} (hT : TI P et z sz bytes) : (zeroValue et).run P w = .ok z w := by
  obtain ⟨i, hi, hz, _, _⟩ := hT.get
  simp [zeroValue, typeInfo, hi, hz]
theorem run_lookupM {z : Value} {sz bytes : Nat} {ok : Bool} (ht : P.underlying t = some (.map kt et)) (hT : TI P et z sz bytes) (K : KeyK P kt enc) (h : MapAt enc w b l) (k : κ) :
    (Instr.lookup t (.map (some b)) (enc k) ok).run P w = .ok (lookVal ok z (aget l k)) w := by
  obtain ⟨es, clock, hb, hl, hborn, hnb, hf⟩ := h.found K k
  have hg : (getObj b).run P w = .ok (.map es clock) w := by simp [getObj, Sem.run, hb]
  have hc := K.check w es.isEmpty k
  have hz := run_zero (w := w) hT
  rcases hf with ⟨i, x, hi, hp, ha, hx, hf⟩ | ⟨ha, hf⟩ <;> cases ok <;> simp [Instr.lookup, run_underlying ht, hg, hc, hf, ha, hz, lookVal]
theorem run_lenM (ht : P.underlying t = some (.map kt et)) (h : MapAt enc w b l) (ty : TypeId) : (Builtin.len_ #[t] ty #[.map (some b)]).run P w = .ok (.int .i64 (l.length : Nat)) w := by
  obtain ⟨es, clock, hb, hl, _⟩ := h
  have hg : (getObj b).run P w = .ok (.map es clock) w := by simp [getObj, Sem.run, hb]
  have : es.size = l.length := by
    have := congrArg List.length hl
    simpa using this
  simp [Builtin.len_, run_underlying ht, hg, goInt, this]
theorem setBlock_fr {o' : Obj} : Fr (fun k => k = b) w (setBlock w b o') :=
  ⟨rfl, rfl, rfl, by simp [setBlock], fun k hk hn => by
    simp only [setBlock]
    rw [Array.getElem?_setIfInBounds_ne (fun e => hn e.symm)]⟩
theorem setBlock_at {o o' : Obj} (h : w.heap[b]? = some o) : (setBlock w b o').heap[b]? = some o' := by
  have hlt := lt_of_heap h
  simp [setBlock, hlt]
theorem run_setObjM {es es' : Array MapEntry} {c c' : Nat} (hb : w.heap[b]? = some (.map es c)) : (setObj b (.map es' c')).run P w = .ok () (setBlock w b (.map es' c')) := by
  simp [setObj, Sem.run, hb, setBlock]
theorem aput_at {l : List (κ × Value)} {k : κ} {v u : Value} : ∀ {i : Nat}, (akeys l).Nodup → l[i]? = some (k, u) → aput l k v = l.set i (k, v) := by
  induction l with
  | nil => intro i _ h; simp at h
  | cons p r ih =>
    intro i hn h
    obtain ⟨q, x⟩ := p
    simp only [akeys, List.map_cons, List.nodup_cons] at hn
    cases i with
    | zero =>
      simp only [List.getElem?_cons_zero, Option.some.injEq, Prod.mk.injEq] at h
      simp [aput, h.1]
    | succ i =>
      simp only [List.getElem?_cons_succ] at h
      have hne : q ≠ k := fun e => hn.1 (by rw [e]; exact List.mem_map.2 ⟨_, List.mem_of_getElem? h, rfl⟩)
      simp only [aput, hne, if_false, List.set_cons_succ]
      rw [ih hn.2 h]
theorem adel_at {l : List (κ × Value)} {k : κ} {u : Value} : ∀ {i : Nat}, (akeys l).Nodup → l[i]? = some (k, u) → adel l k = l.eraseIdx i := by
  induction l with
  | nil => intro i _ h; simp at h
  | cons p r ih =>
    intro i hn h
    obtain ⟨q, x⟩ := p
    simp only [akeys, List.map_cons, List.nodup_cons] at hn
    cases i with
    | zero =>
      simp only [List.getElem?_cons_zero, Option.some.injEq, Prod.mk.injEq] at h
      simp [adel, h.1]
    | succ i =>
      simp only [List.getElem?_cons_succ] at h
      have hne : q ≠ k := fun e => hn.1 (by rw [e]; exact List.mem_map.2 ⟨_, List.mem_of_getElem? h, rfl⟩)
      simp only [adel, hne, if_false, List.eraseIdx_cons_succ]
      rw [ih hn.2 h]
theorem aput_new {l : List (κ × Value)} {k : κ} {v : Value} (h : aget l k = none) : aput l k v = l ++ [(k, v)] := by
  induction l with
  | nil => rfl
  | cons p r ih =>
    obtain ⟨q, x⟩ := p
    simp only [aget] at h
    split at h
    · cases h
    · rename_i hne
      simp only [aput, hne, if_false, ih h, List.cons_append]
theorem adel_none {l : List (κ × Value)} {k : κ} (h : aget l k = none) : adel l k = l := by
  induction l with
  | nil => rfl
  | cons p r ih =>
    obtain ⟨q, x⟩ := p
    simp only [aget] at h
    split at h
    · cases h
    · rename_i hne
      simp only [adel, hne, if_false, ih h]
theorem run_updateM (ht : P.underlying t = some (.map kt et)) (K : KeyK P kt enc) (h : MapAt enc w b l) (k : κ) (v : Value) :
    ∃ w', (Instr.mapUpdate t (.map (some b)) (enc k) v).run P w = .ok () w' ∧ MapAt enc w' b (aput l k v) ∧ Fr (fun i => i = b) w w' ∧ w'.heap.size = w.heap.size := by
  have hn := h.keys
  obtain ⟨es, clock, hb, hl, hborn, hnb, hf⟩ := h.found K k
  have hg : (getObj b).run P w = .ok (.map es clock) w := by simp [getObj, Sem.run, hb]
  have hc := K.check w false k
  rcases hf with ⟨i, x, hi, hp, ha, hx, hf⟩ | ⟨ha, hf⟩
  · have hst := K.stays w k
    have hxi : es[i]? = some x := by simpa using hi
    refine ⟨setBlock w b (.map (es.modify i fun e => { e with key := enc k, val := v }) clock), ?_, ⟨_, clock, setBlock_at hb, ?_, aput_nodup hn, ?_, ?_⟩, setBlock_fr, by simp [setBlock]⟩
    · simp [Instr.mapUpdate, run_underlying ht, hg, hc, hf, hxi, hx, hst, run_setObjM hb]
    · rw [aput_at hn hp, Array.toList_modify]
      apply List.ext_getElem?
      intro j
      have hj := congrArg (fun q : List (Value × Value) => q[j]?) hl
      simp only [List.getElem?_map] at hj
      simp only [List.getElem?_map, List.getElem?_modify, List.getElem?_set]
      by_cases hij : i = j
      · subst hij
        have hlt := (List.getElem?_eq_some_iff.1 hp).1
        simp [hi, hlt]
      · simp only [hij, if_false]
        simpa using hj
    · intro e he
      rw [Array.toList_modify] at he
      obtain ⟨j, hj⟩ := List.mem_iff_getElem?.1 he
      rw [List.getElem?_modify] at hj
      cases hej : es.toList[j]? with
      | none => rw [hej] at hj; simp at hj
      | some e0 =>
        have := hborn e0 (List.mem_of_getElem? hej)
        rw [hej] at hj
        simp only [Option.map_eq_map, Option.map_some, Option.some.injEq] at hj
        subst hj
        split <;> exact this
    · have : (es.modify i fun e => { e with key := enc k, val := v }).toList.map (·.born) = es.toList.map (·.born) := by
        apply List.ext_getElem?
        intro j
        rw [Array.toList_modify]
        simp only [List.getElem?_map, List.getElem?_modify]
        cases es.toList[j]? with
        | none => rfl
        | some e0 => simp only [Option.map_eq_map, Option.map_some]; split <;> rfl
      rw [this]
      exact hnb
  · refine ⟨setBlock w b (.map (es.push { key := enc k, val := v, born := clock }) (clock + 1)), ?_, ⟨_, _, setBlock_at hb, ?_, aput_nodup hn, ?_, ?_⟩, setBlock_fr, by simp [setBlock]⟩
    · simp [Instr.mapUpdate, run_underlying ht, hg, hc, hf, run_setObjM hb]
    · rw [aput_new ha, Array.toList_push, List.map_append, hl]
      simp
    · intro e he
      rw [Array.toList_push] at he
      rcases List.mem_append.1 he with he | he
      · have := hborn e he; omega
      · rcases List.mem_singleton.1 he with rfl
        exact Nat.lt_succ_self _
    · rw [Array.toList_push, List.map_append]
      refine nodup_snoc hnb (fun hm => ?_)
      obtain ⟨e, he, hk⟩ := List.mem_map.1 hm
      have := hborn e he
      simp only at hk
      omega
theorem map_eraseIdx {α β : Type} (f : α → β) : ∀ (l : List α) (i : Nat), (l.eraseIdx i).map f = (l.map f).eraseIdx i
  | [], i => by simp
  | a :: r, 0 => by simp
  | a :: r, i + 1 => by simp [map_eraseIdx f r i]
theorem run_deleteM (ht : P.underlying t = some (.map kt et)) (K : KeyK P kt enc) (h : MapAt enc w b l) (k : κ) (t' ty : TypeId) :
    ∃ w', (Builtin.delete_ #[t, t'] ty #[.map (some b), enc k]).run P w = .ok (.tuple #[]) w' ∧ MapAt enc w' b (adel l k) ∧ Fr (fun i => i = b) w w' ∧ w'.heap.size = w.heap.size := by
  have hn := h.keys
  obtain ⟨es, clock, hb, hl, hborn, hnb, hf⟩ := h.found K k
  have hg : (getObj b).run P w = .ok (.map es clock) w := by simp [getObj, Sem.run, hb]
  have hc := K.check w es.isEmpty k
  rcases hf with ⟨i, x, hi, hp, ha, hx, hf⟩ | ⟨ha, hf⟩
  · refine ⟨setBlock w b (.map (es.eraseIdxIfInBounds i) clock), ?_, ⟨_, clock, setBlock_at hb, ?_, adel_nodup hn, ?_, ?_⟩, setBlock_fr, by simp [setBlock]⟩
    · simp [Builtin.delete_, run_underlying ht, hg, hc, hf, run_setObjM hb]
    · rw [adel_at hn hp]
      have e1 : (es.eraseIdxIfInBounds i).toList = es.toList.eraseIdx i := by simp
      rw [e1, map_eraseIdx, hl, map_eraseIdx]
    · intro e he
      have e1 : (es.eraseIdxIfInBounds i).toList = es.toList.eraseIdx i := by simp
      rw [e1] at he
      exact hborn e (List.mem_of_mem_eraseIdx he)
    · have e1 : (es.eraseIdxIfInBounds i).toList = es.toList.eraseIdx i := by simp
      rw [e1, map_eraseIdx]
      exact hnb.sublist (List.eraseIdx_sublist _ _)
  · refine ⟨setBlock w b (.map es clock), ?_, ⟨es, clock, setBlock_at hb, by rw [adel_none ha]; exact hl, adel_nodup hn, hborn, hnb⟩, setBlock_fr, by simp [setBlock]⟩
    simp [Builtin.delete_, run_underlying ht, hg, hc, hf, run_setObjM hb]
end
end Go.Eng
