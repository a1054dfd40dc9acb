/- What the claim leans on, part 3. -/
import Derived.Test.YtfikjheicjamhaaGreatDoorSP2
import Derived.ChangeSame
section
/- Values that came in, with all that is read through them: cells. No statement is proved here. -/
set_option linter.unusedVariables false
set_option linter.unusedSimpArgs false
namespace Go.Eng
open Go.RowKit Go.ChangeShapes Go.WideShapes
inductive Cell
  | v (x : Value)
  | s (sz : Nat) (A : Option Addr) (n c : Nat) (xs : List Cell)
def Cell.val : Cell → Value
  | .v x => x
  | .s _ A n c _ => .slice A n c
mutual
def Cell.foot : Cell → Nat → Prop
  | .v _ => fun _ => False
  | .s _ A _ _ xs => fun k => (xs ≠ [] ∧ ∃ a, A = some a ∧ k = a.block) ∨ feetC xs k
def feetC : List Cell → Nat → Prop
  | [] => fun _ => False
  | x :: r => fun k => x.foot k ∨ feetC r k
end
mutual
def Cell.holds (w : World) : Cell → Prop
  | .v _ => True
  | .s sz A n c xs => Rd w sz A n (xs.map Cell.val) ∧ n ≤ c ∧ holdC w xs
def holdC (w : World) : List Cell → Prop
  | [] => True
  | x :: r => x.holds w ∧ holdC w r
end
theorem feetC_iff {k : Nat} : ∀ {xs : List Cell}, feetC xs k ↔ ∃ x ∈ xs, x.foot k
  | [] => by simp [feetC]
  | x :: r => by simp only [feetC, feetC_iff (xs := r), List.mem_cons, exists_eq_or_imp]
theorem holdC_iff {w : World} : ∀ {xs : List Cell}, holdC w xs ↔ ∀ x ∈ xs, x.holds w
  | [] => by simp [holdC]
  | x :: r => by simp only [holdC, holdC_iff (xs := r), List.mem_cons, forall_eq_or_imp]
mutual
theorem Cell.keep {S : Nat → Prop} {w w' : World} (f : Fr S w w') : ∀ (c : Cell), (∀ k, c.foot k → ¬ S k) → c.holds w → c.holds w'
  | .v _, _, _ => trivial
  | .s sz A n c xs, h, hh => by
    obtain ⟨h1, h2, h3⟩ := hh
    refine ⟨Rd.keep h1 f (fun k hk => h k ?_), h2, keepC f xs (fun k hk => h k (.inr hk)) h3⟩
    obtain ⟨hne, a, ha, hk⟩ := hk
    exact .inl ⟨fun e => hne (by rw [e]; rfl), a, ha, hk⟩
theorem keepC {S : Nat → Prop} {w w' : World} (f : Fr S w w') : ∀ (xs : List Cell), (∀ k, feetC xs k → ¬ S k) → holdC w xs → holdC w' xs
  | [], _, _ => trivial
  | x :: r, h, hh => ⟨Cell.keep f x (fun k hk => h k (.inl hk)) hh.1, keepC f r (fun k hk => h k (.inr hk)) hh.2⟩
end
mutual
theorem Cell.low {w : World} : ∀ (c : Cell) {k : Nat}, c.holds w → c.foot k → k < w.heap.size
  | .v _, _, _, h => h.elim
  | .s sz A n c xs, k, hh, hk => by
    obtain ⟨h1, h2, h3⟩ := hh
    rcases hk with ⟨hne, a, ha, hk⟩ | hk
    · exact (RRd sz A n (xs.map Cell.val)).low h1 ⟨fun e => hne (List.map_eq_nil_iff.1 e), a, ha, hk⟩
    · exact lowC xs h3 hk
theorem lowC {w : World} : ∀ (xs : List Cell) {k : Nat}, holdC w xs → feetC xs k → k < w.heap.size
  | [], _, _, h => h.elim
  | x :: r, k, hh, hk => by
    rcases hk with hk | hk
    · exact Cell.low x hh.1 hk
    · exact lowC r hh.2 hk
end
def RCell (c : Cell) : Res := ⟨c.foot, fun w => c.holds w, fun f h x => c.keep f h x, fun x hk => c.low x hk⟩
/-- the row itself -/
theorem View.row0 {sz n c : Nat} {A : Option Addr} {xs : List Cell} : View (RCell (.s sz A n c xs)) (RRd sz A n (xs.map Cell.val)) :=
  .of (fun w h => h.1) (fun k hk => by
    obtain ⟨hne, a, ha, hk⟩ := hk
    exact .inl ⟨fun e => hne (by rw [e]; rfl), a, ha, hk⟩)
/-- what is read through one of its cells -/
theorem View.cell {sz n c j : Nat} {A : Option Addr} {xs : List Cell} {y : Cell} (h : xs[j]? = some y) : View (RCell (.s sz A n c xs)) (RCell y) :=
  .of (fun w hh => holdC_iff.1 hh.2.2 y (List.mem_of_getElem? h)) (fun k hk => .inr (feetC_iff.2 ⟨y, List.mem_of_getElem? h, hk⟩))
/-- what types say of cells -/
inductive Ty (P : Program) : TypeId → List Cell → Prop
  | int {t : TypeId} {k : IntKind} {z : Int} (ht : P.underlying t = some (.int k)) (hw : (Lit.int k z).wf = true) : Ty P t [.v (.int k z)]
  | bool {t : TypeId} {b : Bool} (ht : P.underlying t = some .bool) : Ty P t [.v (.bool b)]
  | str {t : TypeId} {s : List UInt8} (ht : P.underlying t = some .string) (hs : s.length ≤ 140737488351232) : Ty P t [.v (.string (strOf s))]
  | slice {t e : TypeId} {A : Option Addr} {n c : Nat} {xs : List Cell} (ht : P.underlying t = some (.slice e)) (hc : n ≤ c) (hn : n * P.bytesOf e ≤ 140737488351232) (hl : xs.length = n * P.cellsOf e)
      (h : ∀ i, i < n → Ty P e ((xs.drop (i * P.cellsOf e)).take (P.cellsOf e))) : Ty P t [.s (P.cellsOf e) A n c xs]
  | arr {t e : TypeId} {n : Nat} {xs : List Cell} (ht : P.underlying t = some (.array n e)) (hl : xs.length = P.cellsOf t) (h : ∀ i, i < n → Ty P e ((xs.drop (i * P.cellsOf e)).take (P.cellsOf e))) : Ty P t xs
  | struct {t : TypeId} {fs : Array Field} {xs : List Cell} (ht : P.underlying t = some (.struct fs)) (hl : xs.length = P.cellsOf t) (h : ∀ (i : Nat) (f : Field), fs[i]? = some f → Ty P f.type ((xs.drop f.offset).take (P.cellsOf f.type))) : Ty P t xs
/-- fields one behind the other -/
def contig (P : Program) : List Field → Nat → Nat → Bool
  | [], o, e => o == e
  | f :: r, o, e => f.offset == o && contig P r (o + P.cellsOf f.type) e
/-- types of whole numbers, bools, texts, slices, arrays, structs, all the way down -/
def parts (P : Program) : Nat → TypeId → Bool
  | 0, _ => false
  | n + 1, t => match P.underlying t with
    | some (.int _) | some .bool | some .string => true
    | some (.slice e) => parts P n e && decide (0 < P.cellsOf e)
    | some (.array m e) => parts P n e && (P.cellsOf t == m * P.cellsOf e)
    | some (.struct fs) => fs.toList.all (fun f => parts P n f.type) && contig P fs.toList 0 (P.cellsOf t)
    | _ => false
section
variable {H : Type} {enc : TypeId × Value → H} {P : Program} {w : World} {base : Nat} {spare : Nat → Bool} {held : Bool}
theorem cells_at' {b : Nat} {a : Addr} {n : Nat} {cs : List Value} (h : w.cells? b a n = some cs) : cs.length = n ∧ ∀ j u, cs[j]? = some u → w.cell? (a.add j) = some u := by
  obtain ⟨hb, hl, hcell⟩ := World.cells?_some h
  refine ⟨hl, fun j u hu => ?_⟩
  have hj : j < n := by rw [← hl]; exact (List.getElem?_eq_some_iff.1 hu).1
  rw [hcell j hj, hu]
theorem weightsAll_mem {e : TypeId} {d : DataW H} {n : Nat} : ∀ {ds : List (DataW H)}, d ∈ ds → n ∈ d.weights P e → n ∈ DataW.weightsAll P e ds
  | [], h, _ => by cases h
  | a :: r, h, hn => by
    simp only [DataW.weightsAll, List.mem_append]
    rcases List.mem_cons.1 h with rfl | h
    · exact .inl hn
    · exact .inr (weightsAll_mem h hn)
/-- pieces one behind the other -/
theorem pieces {sz : Nat} {Q : List Cell → Prop} {R : Nat → List Value → Prop} : ∀ (m : Nat), (∀ i, i < m → ∃ ys : List Cell, ys.length = sz ∧ Q ys ∧ R i (ys.map Cell.val) ∧ holdC w ys) →
    ∃ xs : List Cell, xs.length = m * sz ∧ (∀ i, i < m → Q ((xs.drop (i * sz)).take sz) ∧ R i (((xs.drop (i * sz)).take sz).map Cell.val)) ∧ holdC w xs
  | 0, _ => ⟨[], by simp, fun i hi => absurd hi (by omega), trivial⟩
  | m + 1, h => by
    obtain ⟨xs, h1, h2, h3⟩ := pieces m (fun i hi => h i (by omega))
    obtain ⟨ys, h4, h5, h6, h7⟩ := h m (by omega)
    have hlen : (m + 1) * sz = m * sz + sz := by rw [Nat.add_mul, Nat.one_mul]
    refine ⟨xs ++ ys, by rw [List.length_append, h1, h4, hlen], fun i hi => ?_, holdC_iff.2 fun x hx => ?_⟩
    · by_cases hm : i = m
      · subst hm
        have e : ((xs ++ ys).drop (i * sz)).take sz = ys := by
          rw [← h1, List.drop_left, List.take_of_length_le (by omega)]
        rw [e]
        exact ⟨h5, h6⟩
      · have hi' : i < m := by omega
        have hle : i * sz + sz ≤ m * sz := by
          have := Nat.mul_le_mul_right sz (show i + 1 ≤ m by omega)
          rwa [Nat.add_mul, Nat.one_mul] at this
        have e : ((xs ++ ys).drop (i * sz)).take sz = (xs.drop (i * sz)).take sz := by
          rw [List.drop_append_of_le_length (by omega), List.take_append_of_le_length (by rw [List.length_drop]; omega)]
        rw [e]
        exact h2 i hi'
    · rcases List.mem_append.1 hx with hx | hx
      · exact holdC_iff.1 h3 x hx
      · exact holdC_iff.1 h7 x hx
theorem get_piece {xs : List Value} {sz i j : Nat} (hj : j < sz) : ((xs.drop (i * sz)).take sz)[j]? = xs[i * sz + j]? := by
  rw [List.getElem?_take, if_pos hj, List.getElem?_drop]
theorem structPieces {cs : List Value} : ∀ (fs : List Field) (o e : Nat), contig P fs o e = true → (∀ f ∈ fs, ∃ ys : List Cell, ys.length = P.cellsOf f.type ∧ Ty P f.type ys ∧ ys.map Cell.val = (cs.drop f.offset).take (P.cellsOf f.type) ∧ holdC w ys) →
    o ≤ e ∧ ∃ xs : List Cell, xs.length = e - o ∧ xs.map Cell.val = (cs.drop o).take (e - o) ∧ holdC w xs ∧ ∀ f ∈ fs, o ≤ f.offset ∧ Ty P f.type ((xs.drop (f.offset - o)).take (P.cellsOf f.type))
  | [], o, e, hc, _ => by
    have : o = e := by simpa [contig] using hc
    subst this
    exact ⟨Nat.le_refl _, [], by simp, by simp, trivial, by simp⟩
  | f :: r, o, e, hc, h => by
    simp only [contig, Bool.and_eq_true, beq_iff_eq] at hc
    obtain ⟨h0, hc⟩ := hc
    obtain ⟨hle, xs, h1, h2, h3, h4⟩ := structPieces r _ e hc (fun g hg => h g (List.mem_cons_of_mem _ hg))
    obtain ⟨ys, h5, h6, h7, h8⟩ := h f (List.mem_cons_self ..)
    rw [h0] at h7
    refine ⟨by omega, ys ++ xs, by rw [List.length_append, h1, h5]; omega, ?_, holdC_iff.2 fun x hx => ?_, fun g hg => ?_⟩
    · rw [List.map_append, h7, h2, ← List.drop_drop, show e - o = P.cellsOf f.type + (e - (o + P.cellsOf f.type)) by omega, List.take_add]
    · rcases List.mem_append.1 hx with hx | hx
      · exact holdC_iff.1 h8 x hx
      · exact holdC_iff.1 h3 x hx
    · rcases List.mem_cons.1 hg with rfl | hg
      · refine ⟨by omega, ?_⟩
        rw [h0, Nat.sub_self, List.drop_zero, ← h5, List.take_left]
        exact h6
      · obtain ⟨h9, h10⟩ := h4 g hg
        refine ⟨by omega, ?_⟩
        have e1 : (ys ++ xs).drop (g.offset - o) = xs.drop (g.offset - (o + P.cellsOf f.type)) := by
          rw [List.drop_append, List.drop_of_length_le (by omega), List.nil_append]
          congr 1
          omega
        rw [e1]
        exact h10
theorem open_cells : ∀ (k fuel : Nat) (t : TypeId) (cs : List Value) (x : DataW H × List MemPlace), parts P k t = true → DataW.trod enc P w 0 spare held fuel t cs = some x → (∀ q ∈ DataW.weights P t x.1, q ≤ 140737488351232) → ∃ xs : List Cell, xs.map Cell.val = cs ∧ holdC w xs ∧ Ty P t xs
  | 0, fuel, t, cs, x, hp, _, _ => by simp [parts] at hp
  | k + 1, fuel, t, cs, x, hp, h, hw => by
    unfold parts at hp
    split at hp
    · rename_i q ht
      obtain ⟨z, rfl, _, hz⟩ := DataW.trod_int ht h
      exact ⟨[.v (.int q z)], rfl, ⟨trivial, trivial⟩, .int ht hz⟩
    · rename_i ht
      obtain ⟨b, rfl, _⟩ := DataW.trod_bool ht h
      exact ⟨[.v (.bool b)], rfl, ⟨trivial, trivial⟩, .bool ht⟩
    · rename_i ht
      obtain ⟨s, rfl, hx, _⟩ := DataW.trod_string ht h
      have h1 := hw s.data.toList.length (by rw [hx]; simp [DataW.weights])
      exact ⟨[.v (.string s)], rfl, ⟨trivial, trivial⟩, .str (s := bytesOf s) ht h1⟩
    · rename_i e ht
      simp only [Bool.and_eq_true, decide_eq_true_eq] at hp
      rcases DataW.trod_slice ht h with ⟨rfl, rfl⟩ | ⟨a, len, cap, elems, rest, m, _, rfl, hx, hb, hl, hm, hlen, hel, _, _⟩
      · exact ⟨[.s (P.cellsOf e) none 0 0 []], rfl, ⟨⟨Rd.nil _ _ _, Nat.le_refl _, trivial⟩, trivial⟩, .slice ht (Nat.le_refl _) (by simp) (by simp) (fun i hi => absurd hi (by omega))⟩
      · have hwe : ∀ d ∈ elems.map (·.1), ∀ q ∈ DataW.weights P e d, q ≤ 140737488351232 := fun d hd q hq => hw q (by
          rw [hx]
          simp only [DataW.weights, ht, List.mem_cons, List.mem_append]
          exact .inr (.inl (weightsAll_mem hd hq)))
        obtain ⟨xs, h1, h2, h3⟩ := pieces (w := w) (sz := P.cellsOf e) (Q := Ty P e) (R := fun i vs => ∀ j u, vs[j]? = some u → w.cell? (a.add (i * P.cellsOf e + j)) = some u) len (fun i hi => by
          have h1 := hel i hi
          rw [List.getElem?_eq_getElem (by omega)] at h1
          obtain ⟨c, hc1, hc2⟩ := Option.bind_eq_some_iff.1 h1
          obtain ⟨hcl, hcc⟩ := cells_at' hc1
          obtain ⟨ys, h4, h5, h6⟩ := open_cells k _ e c _ hp.1 hc2 (fun q hq => hwe _ (List.mem_map.2 ⟨_, List.getElem_mem _, rfl⟩) q hq)
          refine ⟨ys, by rw [← hcl, ← h4, List.length_map], h6, fun j u hu => ?_, h5⟩
          rw [h4] at hu
          have := hcc j u hu
          rwa [add_add] at this)
        have hR : Rd w (P.cellsOf e) (some a) len (xs.map Cell.val) := ⟨by rw [List.length_map, h1], fun _ e => (by cases e), fun q u hu => by
          have hq : q < len * P.cellsOf e := by
            have := (List.getElem?_eq_some_iff.1 hu).1
            rwa [List.length_map, h1] at this
          have hd : q / P.cellsOf e < len := (Nat.div_lt_iff_lt_mul hp.2).2 hq
          have hmod := Nat.mod_lt q hp.2
          have hqe : q / P.cellsOf e * P.cellsOf e + q % P.cellsOf e = q := by
            have := Nat.div_add_mod q (P.cellsOf e)
            rw [Nat.mul_comm] at this
            exact this
          have := (h2 _ hd).2 (q % P.cellsOf e) u (by rw [List.map_take, List.map_drop, get_piece hmod, hqe]; exact hu)
          rw [hqe] at this
          simpa using this⟩
        have hn : len * P.bytesOf e ≤ 140737488351232 := by
          have := hw ((elems.length + rest.length) * P.bytesOf e) (by rw [hx]; simp [DataW.weights, ht])
          rw [hlen, Nat.add_mul] at this
          omega
        exact ⟨[.s (P.cellsOf e) (some a) len cap xs], rfl, ⟨⟨hR, hl, h3⟩, trivial⟩, .slice ht hl hn h1 (fun i hi => (h2 i hi).1)⟩
    · rename_i m e ht
      simp only [Bool.and_eq_true, beq_iff_eq] at hp
      obtain ⟨ys, n, _, hx, hlen, hyl, hel⟩ := DataW.trod_array ht h
      have hwe : ∀ d ∈ ys.map (·.1), ∀ q ∈ DataW.weights P e d, q ≤ 140737488351232 := fun d hd q hq => hw q (by
        rw [hx]
        simp only [DataW.weights, ht]
        exact weightsAll_mem hd hq)
      obtain ⟨xs, h1, h2, h3⟩ := pieces (w := w) (sz := P.cellsOf e) (Q := Ty P e) (R := fun i vs => vs = (cs.drop (i * P.cellsOf e)).take (P.cellsOf e)) m (fun i hi => by
        have h1 := hel i hi
        rw [List.getElem?_eq_getElem (by omega)] at h1
        obtain ⟨zs, h4, h5, h6⟩ := open_cells k _ e _ _ hp.1 h1 (fun q hq => hwe _ (List.mem_map.2 ⟨_, List.getElem_mem _, rfl⟩) q hq)
        refine ⟨zs, ?_, h6, h4, h5⟩
        have := congrArg List.length h4
        rw [List.length_map, List.length_take, List.length_drop, hlen, hp.2] at this
        have hle : i * P.cellsOf e + P.cellsOf e ≤ m * P.cellsOf e := by
          have := Nat.mul_le_mul_right (P.cellsOf e) (show i + 1 ≤ m by omega)
          rwa [Nat.add_mul, Nat.one_mul] at this
        omega)
      refine ⟨xs, ?_, h3, .arr ht (by rw [h1, hp.2]) (fun i hi => (h2 i hi).1)⟩
      apply List.ext_getElem?
      intro q
      by_cases hq : q < m * P.cellsOf e
      · have hpos : 0 < P.cellsOf e := by
          rcases Nat.eq_zero_or_pos (P.cellsOf e) with h0 | h0
          · rw [h0, Nat.mul_zero] at hq; omega
          · exact h0
        have hd : q / P.cellsOf e < m := (Nat.div_lt_iff_lt_mul hpos).2 hq
        have hmod := Nat.mod_lt q hpos
        have hqe : q / P.cellsOf e * P.cellsOf e + q % P.cellsOf e = q := by
          have := Nat.div_add_mod q (P.cellsOf e)
          rw [Nat.mul_comm] at this
          exact this
        have h4 := congrArg (fun l : List Value => l[q % P.cellsOf e]?) (h2 _ hd).2
        simp only [List.map_take, List.map_drop] at h4
        rwa [get_piece hmod, get_piece hmod, hqe] at h4
      · rw [List.getElem?_eq_none (by rw [List.length_map, h1]; omega), List.getElem?_eq_none (by rw [hlen, hp.2]; omega)]
    · rename_i fs ht
      simp only [Bool.and_eq_true, List.all_eq_true] at hp
      obtain ⟨ys, n, _, hx, hlen, hyl, hel⟩ := DataW.trod_struct ht h
      have hw2 : ∀ (i : Nat) (f : Field) (d : DataW H), fs[i]? = some f → (ys.map (·.1))[i]? = some d → ∀ q ∈ DataW.weights P f.type d, q ≤ 140737488351232 := fun i f d hf hd q hq => hw q (by
        rw [hx]
        simp only [DataW.weights, ht]
        exact DataW.weights_mem_each (j := i) (t := f.type) (d := d) (by simp [hf]) hd q hq)
      obtain ⟨_, xs, h1, h2, h3, h4⟩ := structPieces (P := P) (w := w) (cs := cs) fs.toList 0 (P.cellsOf t) hp.2 (fun f hf => by
        obtain ⟨i, hi⟩ := List.mem_iff_getElem?.1 hf
        have hi' : fs[i]? = some f := by simpa using hi
        have h1 := hel i f hi'
        have hlt : i < ys.length := by
          rw [hyl]
          exact (Array.getElem?_eq_some_iff.1 hi').1
        rw [List.getElem?_eq_getElem hlt] at h1
        obtain ⟨zs, h5, h6, h7⟩ := open_cells k _ f.type _ _ (hp.1 f hf) h1 (fun q hq => hw2 i f _ hi' (by rw [List.getElem?_map, List.getElem?_eq_getElem hlt]; rfl) q hq)
        have hz : zs.length = P.cellsOf f.type := by
          have hz := congrArg List.length h5
          rw [List.length_map, List.length_take, List.length_drop, hlen] at hz
          have hin : ∀ (l : List Field) (o e : Nat), contig P l o e = true → f ∈ l → f.offset + P.cellsOf f.type ≤ e ∧ o ≤ e := by
            intro l
            induction l with
            | nil => intro o e _ hm; cases hm
            | cons g r ih =>
              intro o e hc hm
              simp only [contig, Bool.and_eq_true, beq_iff_eq] at hc
              have hge : ∀ (l : List Field) (o e : Nat), contig P l o e = true → o ≤ e := by
                intro l
                induction l with
                | nil => intro o e hc; simp [contig] at hc; omega
                | cons g r ih => intro o e hc; simp only [contig, Bool.and_eq_true, beq_iff_eq] at hc; have := ih _ _ hc.2; omega
              rcases List.mem_cons.1 hm with rfl | hm
              · have := hge _ _ _ hc.2
                omega
              · have := ih _ _ hc.2 hm
                omega
          have := hin _ _ _ hp.2 hf
          omega
        exact ⟨zs, hz, h7, h5, h6⟩)
      refine ⟨xs, ?_, h3, .struct ht (by rw [h1]; omega) (fun i f hf => ?_)⟩
      · rw [h2, List.drop_zero, Nat.sub_zero, ← hlen, List.take_length]
      · have := (h4 f (by rw [Array.mem_toList_iff]; exact Array.mem_of_getElem? hf)).2
        rwa [Nat.sub_zero] at this
    · cases hp
end
/-! ### what a type says, read back -/
section
variable {P : Program} {t e : TypeId} {xs : List Cell}
theorem ty_int {k : IntKind} (ht : P.underlying t = some (.int k)) (h : Ty P t xs) : ∃ z, xs = [.v (.int k z)] ∧ (Lit.int k z).wf = true := by
  cases h with
  | int ht' hw => rw [ht] at ht'; cases ht'; exact ⟨_, rfl, hw⟩
  | bool ht' => rw [ht] at ht'; cases ht'
  | str ht' => rw [ht] at ht'; cases ht'
  | slice ht' => rw [ht] at ht'; cases ht'
  | arr ht' => rw [ht] at ht'; cases ht'
  | struct ht' => rw [ht] at ht'; cases ht'
theorem ty_i64 (ht : P.underlying t = some (.int .i64)) (h : Ty P t xs) : ∃ z, xs = [.v (.int .i64 z)] ∧ -9223372036854775808 ≤ z ∧ z ≤ 9223372036854775807 := by
  obtain ⟨z, rfl, hw⟩ := ty_int ht h
  refine ⟨z, rfl, ?_⟩
  simp only [Lit.wf, IntKind.min, IntKind.max, IntKind.signed, IntKind.bits] at hw
  simp at hw
  omega
theorem ty_u8 (ht : P.underlying t = some (.int .u8)) (h : Ty P t xs) : ∃ c : UInt8, xs = [.v (B8 c)] := by
  obtain ⟨z, rfl, hw⟩ := ty_int ht h
  have hb := bounds_u8 hw
  refine ⟨UInt8.ofNat z.toNat, ?_⟩
  rw [B8, UInt8.toNat_ofNat', Nat.mod_eq_of_lt (by omega)]
  congr 3
  omega
theorem ty_bool (ht : P.underlying t = some .bool) (h : Ty P t xs) : ∃ b, xs = [.v (.bool b)] := by
  cases h with
  | int ht' => rw [ht] at ht'; cases ht'
  | bool ht' => exact ⟨_, rfl⟩
  | str ht' => rw [ht] at ht'; cases ht'
  | slice ht' => rw [ht] at ht'; cases ht'
  | arr ht' => rw [ht] at ht'; cases ht'
  | struct ht' => rw [ht] at ht'; cases ht'
theorem ty_slice (ht : P.underlying t = some (.slice e)) (h : Ty P t xs) : ∃ A n c ys, xs = [.s (P.cellsOf e) A n c ys] ∧ n ≤ c ∧ n * P.bytesOf e ≤ 140737488351232 ∧ ys.length = n * P.cellsOf e ∧ ∀ i, i < n → Ty P e ((ys.drop (i * P.cellsOf e)).take (P.cellsOf e)) := by
  cases h with
  | int ht' => rw [ht] at ht'; cases ht'
  | bool ht' => rw [ht] at ht'; cases ht'
  | str ht' => rw [ht] at ht'; cases ht'
  | slice ht' hc hn hl h => rw [ht] at ht'; cases ht'; exact ⟨_, _, _, _, rfl, hc, hn, hl, h⟩
  | arr ht' => rw [ht] at ht'; cases ht'
  | struct ht' => rw [ht] at ht'; cases ht'
theorem ty_struct {fs : Array Field} (ht : P.underlying t = some (.struct fs)) (h : Ty P t xs) : xs.length = P.cellsOf t ∧ ∀ (i : Nat) (f : Field), fs[i]? = some f → Ty P f.type ((xs.drop f.offset).take (P.cellsOf f.type)) := by
  cases h with
  | int ht' => rw [ht] at ht'; cases ht'
  | bool ht' => rw [ht] at ht'; cases ht'
  | str ht' => rw [ht] at ht'; cases ht'
  | slice ht' => rw [ht] at ht'; cases ht'
  | arr ht' => rw [ht] at ht'; cases ht'
  | struct ht' hl h => rw [ht] at ht'; cases ht'; exact ⟨hl, h⟩
theorem bytes_cells (he : P.underlying e = some (.int .u8)) (hc : P.cellsOf e = 1) : ∀ {n : Nat} {ys : List Cell}, ys.length = n → (∀ i, i < n → Ty P e ((ys.drop i).take 1)) → ∃ l : List UInt8, ys.map Cell.val = b8s l ∧ l.length = n := by
  intro n ys hl h
  refine ⟨ys.map fun y => match y.val with | .int _ z => UInt8.ofNat z.toNat | _ => 0, ?_, by simpa using hl⟩
  apply List.ext_getElem?
  intro i
  simp only [b8s, List.map_map, List.getElem?_map]
  by_cases hi : i < n
  · obtain ⟨c, hc⟩ := ty_u8 he (h i hi)
    have h2 : ((ys.drop i).take 1)[0]? = some (.v (B8 c)) := by rw [hc]; rfl
    rw [List.getElem?_take, if_pos (by omega), List.getElem?_drop, Nat.add_zero] at h2
    rw [h2]
    simp [Cell.val, B8]
  · rw [List.getElem?_eq_none (by omega)]
    rfl
theorem ty_bytes (ht : P.underlying t = some (.slice e)) (he : P.underlying e = some (.int .u8)) (hc : P.cellsOf e = 1) (hb : P.bytesOf e = 1) (h : Ty P t xs) : ∃ A n c ys l, xs = [.s 1 A n c ys] ∧ n ≤ c ∧ n ≤ 140737488351232 ∧ ys.map Cell.val = b8s l ∧ l.length = n := by
  obtain ⟨A, n, c, ys, rfl, h1, h2, h3, h4⟩ := ty_slice ht h
  rw [hc] at h3 h4 ⊢
  rw [hb] at h2
  obtain ⟨l, h5, h6⟩ := bytes_cells he hc (by omega : ys.length = n) (fun i hi => by have := h4 i hi; rwa [Nat.mul_one] at this)
  exact ⟨A, n, c, ys, l, rfl, h1, by omega, h5, h6⟩
end
theorem piece_get {α : Type} {xs ys : List α} {sz i o : Nat} {y : α} (h : (xs.drop (i * sz)).take sz = ys) (ho : ys[o]? = some y) : xs[i * sz + o]? = some y := by
  rw [← h, List.getElem?_take] at ho
  split at ho
  · rwa [List.getElem?_drop] at ho
  · cases ho
theorem cell_val {xs : List Cell} {j : Nat} {y : Cell} (h : xs[j]? = some y) : (xs.map Cell.val)[j]? = some y.val := by rw [List.getElem?_map, h]; rfl
theorem rd_fld {w : World} {sz n i o : Nat} {A : Option Addr} {xs : List Value} {u : Value} (h : Rd w sz A n xs) (hu : xs[i * sz + o]? = some u) : w.cell? (((A.getD d0).add (i * sz)).add o) = some u := by
  rw [add_add]
  exact h.cell hu
theorem cellF {w : World} {sz n c : Nat} {A : Option Addr} {xs : List Cell} (h : (RCell (.s sz A n c xs)).holds w) : xs.length = n * sz ∧ (0 < n → A ≠ none) ∧ n ≤ c := ⟨by have := h.1.1; rwa [List.length_map] at this, h.1.2.1, h.2.1⟩
theorem View.rowOf {sz n c : Nat} {A : Option Addr} {xs : List Cell} {vs : List Value} (h : xs.map Cell.val = vs) : View (RCell (.s sz A n c xs)) (RRd sz A n vs) := h ▸ View.row0
theorem View.cellRow {sz n c j sz' n' c' : Nat} {A A' : Option Addr} {xs ys : List Cell} {vs : List Value} (h : xs[j]? = some (.s sz' A' n' c' ys)) (hb : ys.map Cell.val = vs) : View (RCell (.s sz A n c xs)) (RRd sz' A' n' vs) := (View.cell h).trans (View.rowOf hb)
section
variable {H : Type} {enc : TypeId × Value → H} {P : Program} {W : World} {spare : Nat → Bool} {held : Bool} {tss : List TypeId} {dss : List (DataW H)}
/-- a parameter that came in -/
theorem open_param {t : TypeId} {v : Value} {d : DataW H} {ps : List MemPlace} {j : Nat} (k : Nat) (hp : parts P k t = true) (h : DataW.Trod enc P W 0 spare held t v d ps) (hsz : (DataW.weightsEach P tss dss).all (· ≤ reachBytes) = true) (hjt : tss[j]? = some t) (hjd : dss[j]? = some d) :
    ∃ xs : List Cell, xs.map Cell.val = v.cells.toList ∧ holdC W xs ∧ Ty P t xs := by
  obtain ⟨fuel, hf⟩ := h
  refine open_cells k fuel t _ _ hp hf (fun q hq => ?_)
  have := List.all_eq_true.1 hsz q (DataW.weights_mem_each hjt hjd q hq)
  have hr : reachBytes = 140737488351232 := rfl
  simp at this
  omega
theorem open_sl {t e : TypeId} {A : Option Addr} {n c : Nat} {d : DataW H} {ps : List MemPlace} {j : Nat} (k : Nat) (hp : parts P k t = true) (ht : P.underlying t = some (.slice e)) (h : DataW.Trod enc P W 0 spare held t (.slice A n c) d ps) (hsz : (DataW.weightsEach P tss dss).all (· ≤ reachBytes) = true) (hjt : tss[j]? = some t) (hjd : dss[j]? = some d) :
    ∃ ys : List Cell, (RCell (.s (P.cellsOf e) A n c ys)).holds W ∧ Ty P t [.s (P.cellsOf e) A n c ys] := by
  obtain ⟨xs, h1, h2, h3⟩ := open_param k hp h hsz hjt hjd
  obtain ⟨A', n', c', ys, rfl, _⟩ := ty_slice ht h3
  have e1 : [Cell.val (.s (P.cellsOf e) A' n' c' ys)] = [Value.slice A n c] := h1
  simp only [Cell.val, List.cons.injEq, Value.slice.injEq, and_true] at e1
  obtain ⟨rfl, rfl, rfl⟩ := e1
  exact ⟨ys, h2.1, h3⟩
end
end Go.Eng
end
section
/- Contracts: the document's disk (layer 12): names, files, sums. -/
set_option linter.unusedVariables false
set_option linter.unusedSimpArgs false
set_option maxRecDepth 20000
namespace Go.Proofs.YtfikjheicjamhaaGreatDoor
open Go.Eng Go.Hx
theorem y_sge {P : Program} {N : Nat} {D : List Deferred} {ρ : Env} {w : World} {x y : Operand} {ty t t' : TypeId} {a b : ByteArray} (hx : ev ρ x = some (.string a)) (hy : ev ρ y = some (.string b)) : Yl P N D ρ w (.binOp .geq t x y t') ty (.bool (!Op.bytesLess a.toList b.toList)) :=
  fun _ _ _ _ _ ha => by simp [execOp, ha.eval hx, ha.eval hy, eqGuard, binOp, Op.stringOp]
/-- a file: its name and its bytes -/
abbrev FP := List UInt8 × List UInt8
def fc (l : List FP) : List Value := l.flatMap fun x => [SV x.1, SV x.2]
theorem fc_append (a b : List FP) : fc (a ++ b) = fc a ++ fc b := by simp [fc]
theorem fc_get : ∀ (l : List FP) (i : Nat) (x : FP), l[i]? = some x → (fc l)[i * 2]? = some (SV x.1) ∧ (fc l)[i * 2 + 1]? = some (SV x.2)
  | [], i, x, h => by simp at h
  | a :: r, 0, x, h => by
    simp only [List.getElem?_cons_zero, Option.some.injEq] at h
    subst h
    exact ⟨rfl, rfl⟩
  | a :: r, i + 1, x, h => by
    have ih := fc_get r i x (by simpa using h)
    have e : fc (a :: r) = SV a.1 :: SV a.2 :: fc r := by simp [fc]
    rw [e, show (i + 1) * 2 = i * 2 + 2 by omega]
    exact ih
theorem fc_cells {w : World} {A : Option Addr} {n i : Nat} {l : List FP} {x : FP} (h : Rd w 2 A n (fc l)) (hx : l[i]? = some x) : ∀ (j : Nat) (u : Value), [SV x.1, SV x.2][j]? = some u → w.cell? (((A.getD d0).add (i * 2)).add j) = some u := by
  obtain ⟨g0, g1⟩ := fc_get l i x hx
  intro j u hu
  match j, hu with
  | 0, hu => cases hu; exact rd_fld h g0
  | 1, hu => cases hu; exact rd_fld h g1
  | j + 2, hu => simp at hu
theorem fc_one {l : List FP} : ∀ u ∈ fc l, u.oneCell' = true := by
  intro u hu
  obtain ⟨x, _, h⟩ := List.mem_flatMap.1 hu
  simp only [List.mem_cons, List.not_mem_nil, or_false] at h
  rcases h with rfl | rfl <;> rfl
theorem rnamedC {p : List UInt8} (hp : p.length ≤ 1000000000) : Con Tryz.prog 106 [.string (strOf p)] [] [] (fun v_ X_ S_ => v_ = (.bool (decide (Named p))) ∧ X_ = [] ∧ S_ = []) := by
  have hsz := strOf_size p
  refine henter (N := 22) Tryz.func106 rfl rfl (by simp) fun b => ?_
  refine hseq <| hreg <| hy (fun _ => y_assign rfl) <| hend <| hthen <| hseq <| hseq <| hreg <| hy (fun _ => y_assign rfl) <| hend <| hthen <| hblock <| ?_
  refine hloop1 (fun i => p.length - i) (fun i => [(3, .int .i64 (i : Nat))]) (fun i => []) (fun i => []) (fun i => i ≤ p.length ∧ ¬ (0 : UInt8) ∈ p.take i) 0 [(0, _)] ⟨rfl, trivial⟩ [] rfl [] rfl (⟨Nat.zero_le _, by simp⟩) ⟨rfl, trivial⟩ (fun i hI => ?_)
  obtain ⟨hip, hno⟩ := hI
  refine hseq <| hseq <| hreg <| hy (fun _ => y_move rfl) <| hy (fun _ => y_move rfl) <| hy (fun _ => y_lenStr rfl Tryz.underlying9) <| hy (fun _ => y_lss rfl rfl) <| hend <| hsub (ρ' := [(7, _), (3, _), (0, _)]) ⟨rfl, rfl, rfl, trivial⟩ <| hthen <| ?_
  refine hif rfl (fun h => ?_) (fun h => ?_)
  · have hil : i < p.length := by omega
    refine hcskip <| hthen <| hseq <| hblock <| hseq <| hreg <| hy (fun _ => y_move rfl) <| hy (fun _ => y_move rfl) <| hy (fun _ => y_idxStr rfl rfl Tryz.underlying9 rfl (strOf_at hil)) <| hy (fun _ => y_eql rfl rfl) <| hend <| hsub (ρ' := [(13, _), (7, _), (3, _), (0, _)]) ⟨rfl, rfl, rfl, rfl, trivial⟩ <| hthen <| ?_
    refine hif rfl (fun h0 => ?_) (fun h0 => ?_)
    · have h00 : p.getD i 0 = 0 := UInt8.toNat_inj.1 (by simpa using h0)
      refine hseq <| hreg <| hy (fun _ => y_assign rfl) <| hend <| hthen <| hret <| hqblock_ret <| hthen_ret <| hthen_ret <| hqblock_ret <| hthen_ret <| ?_
      exact hret1 trivial rfl rfl [] rfl [] rfl ⟨(congrArg Value.bool (decide_eq_false (fun hN => hN.2.2 (by rw [← h00]; rw [List.getD, List.getElem?_eq_getElem hil]; exact List.getElem_mem hil))).symm), rfl, rfl⟩
    · have hno2 : ¬ (0 : UInt8) ∈ p.take (i + 1) := fun hm => by
        rw [List.take_succ_eq_append_getElem hil] at hm
        rcases List.mem_append.1 hm with h1 | h1
        · exact hno h1
        · apply h0
          have := List.mem_singleton.1 h1
          rw [List.getD, List.getElem?_eq_getElem hil]
          simp [← this]
      refine hcskip <| hqblock <| hthen <| hreg <| hy (fun _ => y_move rfl) <| hy (fun _ => y_add rfl rfl (w64 (by omega) (by omega))) <| hy (fun _ => y_assign rfl) <| hend <| hsub (ρ' := [(3, _), (13, _), (7, _), (0, _)]) ⟨rfl, rfl, rfl, rfl, trivial⟩ <| ?_
      refine hnext1 (i + 1) ⟨rfl, rfl, trivial⟩ [] rfl [] rfl (⟨by omega, hno2⟩) (by omega)
  · obtain rfl : i = p.length := by omega
    rw [List.take_of_length_le (Nat.le_refl _)] at hno
    by_cases h1 : 0 < p.length
    · refine hexit <| hthen_exit <| hthen_exit <| hqblock_exit <| hthen <| hseq <| hreg <| hy (fun _ => y_move rfl) <| hy (fun _ => y_lenStr rfl Tryz.underlying9) <| hy (fun _ => yT (y_gtr rfl rfl) ((decide_eq_true (by omega)))) <| hy (fun _ => y_move rfl) <| hyg (o := _) rfl rfl rfl (fun _ => y_move rfl) <| hyg (o := _) rfl rfl rfl (fun _ => y_lenStr rfl Tryz.underlying9) <| hyg (o := _) rfl rfl rfl (fun _ => y_lss rfl rfl) <| hy (fun _ => y_pickT rfl rfl) <| hy (fun _ => y_assign rfl) <| hend <| hsub (ρ' := [(2, _), (7, _), (3, _), (0, _)]) ⟨rfl, rfl, rfl, rfl, trivial⟩ <| hthen <| hret <| ?_
      exact hret1 trivial rfl rfl [] rfl [] rfl ⟨(congrArg Value.bool (decide_eq_decide.2 ⟨fun h => ⟨fun e => by rw [e] at h1; exact absurd h1 (by decide), by omega, hno⟩, fun h => by have := h.2.1; omega⟩)), rfl, rfl⟩
    · refine hexit <| hthen_exit <| hthen_exit <| hqblock_exit <| hthen <| hseq <| hreg <| hy (fun _ => y_move rfl) <| hy (fun _ => y_lenStr rfl Tryz.underlying9) <| hy (fun _ => yF (y_gtr rfl rfl) ((decide_eq_false (by omega)))) <| hy (fun _ => y_move rfl) <| hskip rfl rfl rfl (by decide) <| hskip rfl rfl rfl (by decide) <| hskip rfl rfl rfl (by decide) <| hy (fun _ => y_pickF rfl rfl) <| hy (fun _ => y_assign rfl) <| hend <| hsub (ρ' := [(2, _), (7, _), (3, _), (0, _)]) ⟨rfl, rfl, rfl, rfl, trivial⟩ <| hthen <| hret <| ?_
      exact hret1 trivial rfl rfl [] rfl [] rfl ⟨(congrArg Value.bool (decide_eq_false (fun hN => hN.1 (List.eq_nil_of_length_eq_zero (by omega)))).symm), rfl, rfl⟩
/-- where a file stands -/
def findN (l : List FP) (p : List UInt8) : Nat := l.findIdx (fun x => decide (x.1 = p))
def findI (l : List FP) (p : List UInt8) : Int := if findN l p < l.length then (findN l p : Nat) else -1
theorem findN_at {l : List FP} {p : List UInt8} {i : Nat} {x : FP} (hx : l[i]? = some x) (h : x.1 = p) (hno : ∀ j, j < i → ∀ y, l[j]? = some y → y.1 ≠ p) : findN l p = i := by
  obtain ⟨hi, rfl⟩ := List.getElem?_eq_some_iff.1 hx
  unfold findN
  rw [List.findIdx_eq hi]
  exact ⟨by simpa using h, fun j hj => by simpa using hno j hj _ (List.getElem?_eq_getElem (by omega))⟩
theorem findN_no {l : List FP} {p : List UInt8} (hno : ∀ j, j < l.length → ∀ y, l[j]? = some y → y.1 ≠ p) : ¬ findN l p < l.length := by
  intro h
  have h1 := List.findIdx_getElem (w := h)
  exact hno _ h _ (List.getElem?_eq_getElem h) (of_decide_eq_true h1)
theorem rfindC {A : Option Addr} {n c : Nat} {l : List FP} {p : List UInt8} (hl : l.length = n) (hn : n ≤ 1000000000) : Con Tryz.prog 107 [.slice A n c, .string (strOf p)] [] [RRd 2 A n (fc l)] (fun v_ X_ S_ => v_ = (.int .i64 (findI l p)) ∧ X_ = [] ∧ S_ = []) := by
  refine henter (N := 20) Tryz.func107 rfl rfl (by simp) fun b => ?_
  refine hfactC (fun m => rdX (m.rd 0 rfl)) ?_
  rintro ⟨hl_r, hA_r⟩
  refine hseq <| hreg <| hy (fun _ => y_assign rfl) <| hend <| hthen <| hseq <| hseq <| hreg <| hy (fun _ => y_assign rfl) <| hend <| hthen <| hblock <| ?_
  refine hloop1 (fun i => n - i) (fun i => [(5, .int .i64 (i : Nat))]) (fun i => []) (fun i => []) (fun i => i ≤ n ∧ ∀ j, j < i → ∀ y, l[j]? = some y → y.1 ≠ p) 0 [(0, _), (1, _)] ⟨rfl, rfl, trivial⟩ [] rfl [] rfl (⟨Nat.zero_le _, fun j hj => absurd hj (Nat.not_lt_zero j)⟩) ⟨rfl, trivial⟩ (fun i hI => ?_)
  obtain ⟨hin, hno⟩ := hI
  refine hseq <| hseq <| hreg <| hy (fun _ => y_move rfl) <| hy (fun _ => y_move rfl) <| hy (fun _ => y_lenS rfl Tryz.underlying43) <| hy (fun _ => y_lss rfl rfl) <| hend <| hsub (ρ' := [(9, _), (5, _), (0, _), (1, _)]) ⟨rfl, rfl, rfl, rfl, trivial⟩ <| hthen <| ?_
  refine hif rfl (fun h => ?_) (fun h => ?_)
  · have hil : i < l.length := by omega
    obtain ⟨x, hx⟩ : ∃ x, l[i]? = some x := ⟨_, List.getElem?_eq_getElem hil⟩
    obtain ⟨g0, g1⟩ := fc_get l i x hx
    refine hcskip <| hthen <| hseq <| hblock <| hseq <| hreg <| hy (fun _ => y_move rfl) <| hy (fun _ => y_move rfl) <| hy (fun _ => y_idxS rfl rfl Tryz.underlying43 sz124 hA_r rfl (by omega)) <| hy (fun _ => y_fld rfl fa124_0 (by decide)) <| hy (fun m => yV (y_ld1 rfl ag9 (rd_fld (m.rd 0 rfl) g0)) ((rfl : _ = Value.string (strOf x.1)))) <| hy (fun _ => y_move rfl) <| hy (fun _ => y_seq rfl rfl) <| hend <| hsub (ρ' := [(18, _), (9, _), (5, _), (0, _), (1, _)]) ⟨rfl, rfl, rfl, rfl, rfl, trivial⟩ <| hthen <| ?_
    refine hif rfl (fun h0 => ?_) (fun h0 => ?_)
    · have he : x.1 = p := strOf_inj.1 h0
      have hN := findN_at hx he hno
      refine hseq <| hreg <| hy (fun _ => y_move rfl) <| hy (fun _ => y_assign rfl) <| hend <| hsub (ρ' := [(4, _), (18, _), (9, _), (5, _), (0, _), (1, _)]) ⟨rfl, rfl, rfl, rfl, rfl, rfl, trivial⟩ <| hthen <| hret <| hqblock_ret <| hthen_ret <| hthen_ret <| hqblock_ret <| hthen_ret <| ?_
      exact hret1 trivial rfl rfl [] rfl [] rfl ⟨(by rw [findI, hN, if_pos hil]), rfl, rfl⟩
    · have he : x.1 ≠ p := fun e => h0 (strOf_inj.2 e)
      have hno2 : ∀ j, j < i + 1 → ∀ y, l[j]? = some y → y.1 ≠ p := fun j hj y hy => by
        rcases Nat.lt_succ_iff_lt_or_eq.1 hj with h1 | h1
        · exact hno j h1 y hy
        · rw [h1, hx] at hy; cases hy; exact he
      refine hcskip <| hqblock <| hthen <| hreg <| hy (fun _ => y_move rfl) <| hy (fun _ => y_add rfl rfl (w64 (by omega) (by omega))) <| hy (fun _ => y_assign rfl) <| hend <| hsub (ρ' := [(5, _), (18, _), (9, _), (0, _), (1, _)]) ⟨rfl, rfl, rfl, rfl, rfl, trivial⟩ <| ?_
      refine hnext1 (i + 1) ⟨rfl, rfl, rfl, trivial⟩ [] rfl [0] rfl (⟨by omega, hno2⟩) (by omega)
  · obtain rfl : i = n := by omega
    refine hexit <| hthen_exit <| hthen_exit <| hqblock_exit <| hthen <| hseq <| hreg <| hy (fun _ => y_assign rfl) <| hend <| hthen <| hret <| ?_
    exact hret1 trivial rfl rfl [] rfl [] rfl ⟨(by rw [findI, if_neg (findN_no (fun j hj => hno j (by omega)))]), rfl, rfl⟩
def totF (l : List FP) : Nat := (l.map fun x => x.2.length).sum
theorem totF_take {l : List FP} {i : Nat} {x : FP} (h : l[i]? = some x) : totF (l.take (i + 1)) = totF (l.take i) + x.2.length := by
  obtain ⟨hi, rfl⟩ := List.getElem?_eq_some_iff.1 h
  rw [List.take_succ_eq_append_getElem hi]
  unfold totF
  rw [List.map_append, List.sum_append]
  simp
theorem totF_le (l : List FP) (i : Nat) : totF (l.take i) ≤ totF l := by
  have : totF l = totF (l.take i) + totF (l.drop i) := by
    conv => lhs; rw [← List.take_append_drop i l]
    simp only [totF, List.map_append, List.sum_append]
  omega
/-- a disk of the document, as a value -/
def dv (room : Int) (s l w : Value) (pw : Int) : List Value := [.int .i64 room, s, l, w, .int .i64 pw]
theorem rusedC {room pw : Int} {vl vw : Value} {A : Option Addr} {n c : Nat} {l : List FP} (hl : l.length = n) (hn : n ≤ 1000000000) (ht : totF l ≤ 1000000000000) : Con Tryz.prog 96 [.agg (dv room (.slice A n c) vl vw pw).toArray] [] [RRd 2 A n (fc l)] (fun v_ X_ S_ => v_ = (.int .i64 (totF l : Nat)) ∧ X_ = [] ∧ S_ = []) := by
  refine henter (N := 22) Tryz.func96 rfl rfl (by simp) fun b => ?_
  refine hfactC (fun m => rdX (m.rd 0 rfl)) ?_
  rintro ⟨hl_r, hA_r⟩
  refine hseq <| hreg <| ?_
  refine hx (xh_box rfl (fun g1 => ?_))
  refine hmemL (fun w m => m.eqX 0 rfl (show _ = RBlk g1 46 (dv room (.slice A n c) vl vw pw) from congrArg (RBlk _ _) (cells_agg _))) ?_
  refine hy (fun _ => y_assign rfl) <| hend <| hmemQ (X' := [_]) (S' := [_]) (fun _ m => m) <| hthen <| hseq <| hreg <| hy (fun _ => y_assign rfl) <| hend <| hthen <| hseq <| hseq <| hreg <| hy (fun _ => y_assign rfl) <| hend <| hthen <| hblock <| ?_
  refine hloop1 (fun i => n - i) (fun i => [(3, .int .i64 (totF (l.take i) : Nat)), (4, .int .i64 (i : Nat))]) (fun i => [RBlk g1 46 (dv room (.slice A n c) vl vw pw)]) (fun i => []) (fun i => i ≤ n) 0 [(2, _), (1, _), (0, _)] ⟨rfl, rfl, rfl, trivial⟩ [0] rfl [] rfl (Nat.zero_le _) ⟨rfl, rfl, trivial⟩ (fun i hI => ?_)
  refine hseq <| hseq <| hreg <| hy (fun _ => y_move rfl) <| hy (fun _ => y_fld rfl fa46_1 (by decide)) <| hy (fun m => y_ld1 rfl ag43 (ld_blk (m.blk 0 rfl) rfl)) <| hy (fun _ => y_lenS rfl Tryz.underlying43) <| hy (fun _ => y_lss rfl rfl) <| hend <| hsub (ρ' := [(9, _), (3, _), (4, _), (2, _), (1, _), (0, _)]) ⟨rfl, rfl, rfl, rfl, rfl, rfl, trivial⟩ <| hthen <| ?_
  refine hif rfl (fun h => ?_) (fun h => ?_)
  · have hil : i < l.length := by omega
    obtain ⟨x, hx⟩ : ∃ x, l[i]? = some x := ⟨_, List.getElem?_eq_getElem hil⟩
    obtain ⟨g0, g2⟩ := fc_get l i x hx
    have h1 := totF_take hx
    have h2 := totF_le l (i + 1)
    have hsz := strOf_size x.2
    refine hcskip <| hthen <| hseq <| hblock <| hreg <| hy (fun _ => y_move rfl) <| hy (fun _ => y_fld rfl fa46_1 (by decide)) <| hy (fun m => y_ld1 rfl ag43 (ld_blk (m.blk 0 rfl) (i := 1) rfl)) <| hy (fun _ => y_move rfl) <| hy (fun _ => y_idxS rfl rfl Tryz.underlying43 sz124 hA_r rfl (by omega)) <| hy (fun _ => y_fld rfl fa124_1 (by decide)) <| hy (fun m => yV (y_ld1 rfl ag9 (rd_fld (m.rd 0 rfl) g2)) ((rfl : _ = Value.string (strOf x.2)))) <| hy (fun _ => y_lenStr rfl Tryz.underlying9) <| hy (fun _ => yV (y_add rfl rfl (w64 (by omega) (by omega))) ((show Value.int .i64 ((totF (l.take i) : Nat) + ((strOf x.2).size : Nat)) = .int .i64 (totF (l.take (i + 1)) : Nat) by rw [hsz, h1]; rfl))) <| hy (fun _ => y_assign rfl) <| hend <| hsub (ρ' := [(3, _), (9, _), (4, _), (2, _), (1, _), (0, _)]) ⟨rfl, rfl, rfl, rfl, rfl, rfl, trivial⟩ <| hqblock <| hthen <| hreg <| hy (fun _ => y_move rfl) <| hy (fun _ => y_add rfl rfl (w64 (by omega) (by omega))) <| hy (fun _ => y_assign rfl) <| hend <| hsub (ρ' := [(4, _), (3, _), (9, _), (2, _), (1, _), (0, _)]) ⟨rfl, rfl, rfl, rfl, rfl, rfl, trivial⟩ <| ?_
    refine hnext1 (i + 1) ⟨rfl, rfl, rfl, rfl, rfl, trivial⟩ [0] rfl [0] rfl (by omega) (by omega)
  · obtain rfl : i = n := by omega
    refine hexit <| hthen_exit <| hthen_exit <| hqblock_exit <| hthen <| hseq <| hreg <| hy (fun _ => y_move rfl) <| hy (fun _ => y_assign rfl) <| hend <| hsub (ρ' := [(2, _), (9, _), (3, _), (4, _), (1, _), (0, _)]) ⟨rfl, rfl, rfl, rfl, rfl, rfl, trivial⟩ <| hthen <| hret <| ?_
    exact hret1 trivial rfl rfl [] rfl [] rfl ⟨(by rw [← hl, List.take_of_length_le (Nat.le_refl _)]), rfl, rfl⟩
theorem rwithoutC {A : Option Addr} {n c : Nat} {l : List FP} {p : List UInt8} (hl : l.length = n) (hn : n ≤ 1000000) : Con Tryz.prog 181 [.slice A n c, .string (strOf p)] [] [RRd 2 A n (fc l)] (fun v_ X_ S_ => ∃ v k, v_ = v ∧ X_ = [ROwn 124 2 v k (fc (l.filter fun x => decide (x.1 ≠ p)))] ∧ S_ = [] ∧ (k = (l.filter fun x => decide (x.1 ≠ p)).length)) := by
  refine henter (N := 28) Tryz.func181 rfl rfl (by simp) fun b => ?_
  refine hfactC (fun m => rdX (m.rd 0 rfl)) ?_
  rintro ⟨hl_r, hA_r⟩
  refine hseq <| hreg <| hy (fun _ => y_assign rfl) <| hend <| hthen <| hseq <| hreg <| hy (fun _ => y_assign rfl) <| hend <| hthen <| hseq <| hseq <| hreg <| hy (fun _ => y_assign rfl) <| hend <| hthen <| hblock <| ?_
  refine hmemC (fun w m => m.addX (r' := ROwn 124 2 (.slice none 0 0) 0 []) (.refl _ _) (Own.nil _ _ _ _) (fun k hk => hk.elim)) ?_
  refine hloop4 (fun i A1 k c1 => n - i) (fun i A1 k c1 => [(5, .slice A1 k c1), (6, .int .i64 (i : Nat))]) (fun i A1 k c1 => [ROwn 124 2 (.slice A1 k c1) k (fc ((l.take i).filter fun x => decide (x.1 ≠ p)))]) (fun i A1 k c1 => []) (fun i A1 k c1 => i ≤ n ∧ k = ((l.take i).filter fun x => decide (x.1 ≠ p)).length) 0 none 0 0 [(4, _), (0, _), (1, _)] ⟨rfl, rfl, rfl, trivial⟩ [0] rfl [] rfl (⟨Nat.zero_le _, rfl⟩) ⟨rfl, rfl, trivial⟩ (fun i A1 k c1 hI => ?_)
  obtain ⟨hin, hk⟩ := hI
  have hkl : ((l.take i).filter fun x => decide (x.1 ≠ p)).length ≤ i := Nat.le_trans (List.length_filter_le ..) (by rw [List.length_take]; omega)
  refine hseq <| hseq <| hreg <| hy (fun _ => y_move rfl) <| hy (fun _ => y_move rfl) <| hy (fun _ => y_lenS rfl Tryz.underlying43) <| hy (fun _ => y_lss rfl rfl) <| hend <| hsub (ρ' := [(10, _), (5, _), (6, _), (4, _), (0, _), (1, _)]) ⟨rfl, rfl, rfl, rfl, rfl, rfl, trivial⟩ <| hthen <| ?_
  refine hif rfl (fun h => ?_) (fun h => ?_)
  · have hil : i < l.length := by omega
    obtain ⟨x, hgx⟩ : ∃ x, l[i]? = some x := ⟨_, List.getElem?_eq_getElem hil⟩
    obtain ⟨g0, g2⟩ := fc_get l i x hgx
    have hts : (l.take (i + 1)).filter (fun x => decide (x.1 ≠ p)) = (l.take i).filter (fun x => decide (x.1 ≠ p)) ++ [x].filter (fun x => decide (x.1 ≠ p)) := by
      obtain ⟨hi, rfl⟩ := List.getElem?_eq_some_iff.1 hgx
      rw [List.take_succ_eq_append_getElem hi, List.filter_append]
    refine hcskip <| hthen <| hseq <| hblock <| hseq <| hreg <| hy (fun _ => y_move rfl) <| hy (fun _ => y_move rfl) <| hy (fun _ => y_idxS rfl rfl Tryz.underlying43 sz124 hA_r rfl (by omega)) <| hy (fun _ => y_fld rfl fa124_0 (by decide)) <| hy (fun m => yV (y_ld1 rfl ag9 (rd_fld (m.rd 0 rfl) g0)) ((rfl : _ = Value.string (strOf x.1)))) <| hy (fun _ => y_move rfl) <| hy (fun _ => y_sne rfl rfl) <| hend <| hsub (ρ' := [(19, _), (10, _), (5, _), (6, _), (4, _), (0, _), (1, _)]) ⟨rfl, rfl, rfl, rfl, rfl, rfl, rfl, trivial⟩ <| hthen <| ?_
    refine hif rfl (fun h0 => ?_) (fun h0 => ?_)
    · have hF : (l.take i).filter (fun x => decide (x.1 ≠ p)) ++ [x] = (l.take (i + 1)).filter (fun x => decide (x.1 ≠ p)) := by
        have hne : x.1 ≠ p := fun e => h0 (strOf_inj.2 e)
        rw [hts]; simp [hne]
      refine hreg <| hy (fun _ => y_move rfl) <| hy (fun _ => y_move rfl) <| hy (fun _ => y_move rfl) <| hy (fun _ => y_idxS rfl rfl Tryz.underlying43 sz124 hA_r rfl (by omega)) <| hy (fun m => yV (y_ldN rfl ag124 sz124 rfl (fc_cells (m.rd 0 rfl) hgx)) ((rfl : _ = Value.agg [SV x.1, SV x.2].toArray))) <| ?_
      refine hx (xh_bsl Tryz.underlying43 ti124 rfl rfl rfl (by simp [Value.cells, B8]) (by decide) (by decide) (fun g25 => ?_))
      have hA_b25 : 0 < 1 → (some (⟨g25, 0, none⟩ : Addr)) ≠ none := fun _ h => by cases h
      refine hmemL (fun w m => m.eqX 0 rfl (show _ = ROwn 124 2 (.slice (some ⟨g25, 0, none⟩) 1 1) 1 (fc [x]) from rfl)) ?_
      refine hx (xh_app 1 rfl rfl rfl Tryz.underlying43 Tryz.underlying43 (by exact .inl rfl) ti124 rfl (fun m => Src.of_rd (m.ord 0 rfl)) fc_one (by unfold maxLen; omega) (by omega) (fun u => ?_))
      refine hfactL (fun m => (m.own 0 rfl).slice) ?_
      rintro ⟨A_o, c_o, rfl, hc_o⟩
      refine hfactL (fun m => (m.ord 0 rfl).2.1) fun hA_o => ?_
      refine hmemL (fun w m => m.eqX 0 rfl (show _ = ROwn 124 2 (.slice A_o (k + 1) c_o) (k + 1) (fc ((l.take (i + 1)).filter fun x => decide (x.1 ≠ p))) from congrArg (ROwn _ _ _ _) ((fc_append ..).symm.trans (congrArg fc hF)))) ?_
      refine hy (fun _ => y_assign rfl) <| hend <| hsub (ρ' := [(5, _), (19, _), (10, _), (6, _), (4, _), (0, _), (1, _)]) ⟨rfl, rfl, rfl, rfl, rfl, rfl, rfl, trivial⟩ <| hmemQ (X' := [_, _]) (S' := [_]) (fun _ m => m) <| hqblock <| hthen <| hreg <| hy (fun _ => y_move rfl) <| hy (fun _ => y_add rfl rfl (w64 (by omega) (by omega))) <| hy (fun _ => y_assign rfl) <| hend <| hsub (ρ' := [(6, _), (5, _), (19, _), (10, _), (4, _), (0, _), (1, _)]) ⟨rfl, rfl, rfl, rfl, rfl, rfl, rfl, trivial⟩ <| ?_
      refine hnext4 (i + 1) A_o (k + 1) c_o ⟨rfl, rfl, rfl, rfl, rfl, trivial⟩ [0] rfl [0] rfl (⟨by omega, by rw [← hF, hk, List.length_append]; rfl⟩) (by omega)
    · have hF : (l.take (i + 1)).filter (fun x => decide (x.1 ≠ p)) = (l.take i).filter (fun x => decide (x.1 ≠ p)) := by
        have hne : x.1 = p := strOf_inj.1 (Decidable.not_not.1 h0)
        rw [hts]; simp [hne]
      refine hmemC (fun w m => m.eqX 0 rfl (show _ = ROwn 124 2 (.slice A1 k c1) k (fc ((l.take (i + 1)).filter fun x => decide (x.1 ≠ p))) from by rw [hF])) ?_
      refine hcskip <| hqblock <| hthen <| hreg <| hy (fun _ => y_move rfl) <| hy (fun _ => y_add rfl rfl (w64 (by omega) (by omega))) <| hy (fun _ => y_assign rfl) <| hend <| hsub (ρ' := [(6, _), (19, _), (10, _), (5, _), (4, _), (0, _), (1, _)]) ⟨rfl, rfl, rfl, rfl, rfl, rfl, rfl, trivial⟩ <| ?_
      refine hnext4 (i + 1) A1 k c1 ⟨rfl, rfl, rfl, rfl, rfl, trivial⟩ [0] rfl [0] rfl (⟨by omega, by rw [hF]; exact hk⟩) (by omega)
  · obtain rfl : i = n := by omega
    rw [← hl, List.take_of_length_le (Nat.le_refl _)] at hk
    refine hmemC (fun w m => m.eqX 0 rfl (show _ = ROwn 124 2 (.slice A1 k c1) k (fc (l.filter fun x => decide (x.1 ≠ p))) from by rw [← hl, List.take_of_length_le (Nat.le_refl _)])) ?_
    refine hexit <| hthen_exit <| hthen_exit <| hqblock_exit <| hthen <| hseq <| hreg <| hy (fun _ => y_move rfl) <| hy (fun _ => y_assign rfl) <| hend <| hsub (ρ' := [(4, _), (10, _), (5, _), (6, _), (0, _), (1, _)]) ⟨rfl, rfl, rfl, rfl, rfl, rfl, trivial⟩ <| hthen <| hret <| ?_
    exact hret1 trivial rfl rfl [0] rfl [] rfl ⟨_, _, rfl, rfl, rfl, hk⟩
end Go.Proofs.YtfikjheicjamhaaGreatDoor
end
section
/- Contracts: the document's disk (layer 12): files with one more, changes. -/
set_option linter.unusedVariables false
set_option linter.unusedSimpArgs false
set_option maxRecDepth 20000
namespace Go.Proofs.YtfikjheicjamhaaGreatDoor
open Go.Eng Go.Hx
def sless (a b : List UInt8) : Bool := Op.bytesLess (strOf a).toList (strOf b).toList
def wstep (f : FP) (st : List FP × Bool) (x : FP) : List FP × Bool :=
  let s1 := if st.2 = false ∧ sless x.1 f.1 = false then (st.1 ++ [f], true) else st
  (if x.1 ≠ f.1 then s1.1 ++ [x] else s1.1, s1.2)
def wst (f : FP) (l : List FP) (i : Nat) : List FP × Bool := (l.take i).foldl (wstep f) ([], false)
theorem wst_succ {f : FP} {l : List FP} {i : Nat} {x : FP} (h : l[i]? = some x) : wst f l (i + 1) = wstep f (wst f l i) x := by
  obtain ⟨hi, rfl⟩ := List.getElem?_eq_some_iff.1 h
  unfold wst
  rw [List.take_succ_eq_append_getElem hi, List.foldl_append]
  rfl
def withF (l : List FP) (f : FP) : List FP := if (wst f l l.length).2 then (wst f l l.length).1 else (wst f l l.length).1 ++ [f]
theorem rwithC {A : Option Addr} {n c : Nat} {l : List FP} {f : FP} (hl : l.length = n) (hn : n ≤ 1000000) : Con Tryz.prog 180 [.slice A n c, .agg [SV f.1, SV f.2].toArray] [] [RRd 2 A n (fc l)] (fun v_ X_ S_ => ∃ v k, v_ = v ∧ X_ = [ROwn 124 2 v k (fc (withF l f))] ∧ S_ = [] ∧ (k = (withF l f).length ∧ k ≤ n + 1)) := by
  refine henter (N := 52) Tryz.func180 rfl rfl (by simp) fun b => ?_
  refine hfactC (fun m => rdX (m.rd 0 rfl)) ?_
  rintro ⟨hl_r, hA_r⟩
  refine hseq <| hreg <| ?_
  refine hx (xh_box rfl (fun g3 => ?_))
  refine hmemL (fun w m => m.eqX 0 rfl (show _ = RBlk g3 124 [SV f.1, SV f.2] from congrArg (RBlk _ _) (cells_agg _))) ?_
  refine hy (fun _ => y_assign rfl) <| hend <| hmemQ (X' := [_]) (S' := [_]) (fun _ m => m) <| hthen <| hseq <| hreg <| hy (fun _ => y_assign rfl) <| hend <| hthen <| hseq <| hreg <| hy (fun _ => y_assign rfl) <| hend <| hthen <| hseq <| hseq <| hreg <| hy (fun _ => y_assign rfl) <| hend <| hthen <| hblock <| ?_
  refine hmemC (fun w m => m.addX (r' := ROwn 124 2 (.slice none 0 0) 0 []) (.refl _ _) (Own.nil _ _ _ _) (fun k hk => hk.elim)) ?_
  refine hloop6 (fun i A1 k c1 out pt => n - i) (fun i A1 k c1 out pt => [(5, .slice A1 k c1), (6, .bool pt), (7, .int .i64 (i : Nat))]) (fun i A1 k c1 out pt => [ROwn 124 2 (.slice A1 k c1) k (fc out), RBlk g3 124 [SV f.1, SV f.2]]) (fun i A1 k c1 out pt => []) (fun i A1 k c1 out pt => i ≤ n ∧ wst f l i = (out, pt) ∧ k = out.length ∧ k ≤ i + pt.toNat) 0 none 0 0 [] false [(4, _), (3, _), (0, _), (1, _)] ⟨rfl, rfl, rfl, rfl, trivial⟩ [0, 0] rfl [] rfl (⟨Nat.zero_le _, rfl, rfl, Nat.le_refl _⟩) ⟨rfl, rfl, rfl, trivial⟩ (fun i A1 k c1 out pt ⟨hin, hw, hk, hki⟩ => ?_)
  have hpt : pt.toNat ≤ 1 := by cases pt <;> decide
  refine hseq <| hseq <| hreg <| hy (fun _ => y_move rfl) <| hy (fun _ => y_move rfl) <| hy (fun _ => y_lenS rfl Tryz.underlying43) <| hy (fun _ => y_lss rfl rfl) <| hend <| hsub (ρ' := [(11, _), (5, _), (6, _), (7, _), (4, _), (3, _), (0, _), (1, _)]) ⟨rfl, rfl, rfl, rfl, rfl, rfl, rfl, rfl, trivial⟩ <| hthen <| ?_
  refine hif rfl (fun h => ?_) (fun h => ?_)
  · have hil : i < l.length := by omega
    obtain ⟨x, hgx⟩ : ∃ x, l[i]? = some x := ⟨_, List.getElem?_eq_getElem hil⟩
    obtain ⟨g0, g2⟩ := fc_get l i x hgx
    have hs := wst_succ (f := f) hgx
    rw [hw] at hs
    unfold wstep at hs
    by_cases hp : pt = true
    · subst hp
      simp only [Bool.true_eq_false, false_and, if_false] at hs
      refine hcskip <| hthen <| hseq <| hblock <| hseq <| hseq <| hdrw [] [(0, some 0), (1, some 0), (2, some 0), (3, some 0), (4, some 0), (5, some 0), (6, some 0), (7, some 0), (8, some 0), (9, some 0), (10, some 0), (11, some 0)] (by kernel_rfl) (by kernel_rfl) rfl 99 <| htyU (y_move rfl) <| htyU ((y_not rfl)) <| htyU (y_move rfl) <| htskip rfl rfl rfl (by decide) <| htskip rfl rfl rfl (by decide) <| htskip rfl rfl rfl (by decide) <| htskip rfl rfl rfl (by decide) <| htskip rfl rfl rfl (by decide) <| htskip rfl rfl rfl (by decide) <| htskip rfl rfl rfl (by decide) <| htskip rfl rfl rfl (by decide) <| htyU (y_pickF rfl rfl) <| htend <| hsub (ρ' := [(25, _), (11, _), (5, _), (6, _), (7, _), (4, _), (3, _), (0, _), (1, _)]) ⟨rfl, rfl, rfl, rfl, rfl, rfl, rfl, rfl, rfl, trivial⟩ <| hthen <| ?_
      refine hiff rfl (rfl) ?_
      refine hcskip <| hthen <| hseq <| hdrw [] [(0, some 0), (1, some 0), (2, some 0), (3, some 0), (4, some 0), (5, some 0), (6, some 0), (7, some 0)] (by kernel_rfl) (by kernel_rfl) rfl 99 <| htyU (y_move rfl) <| htyU (y_move rfl) <| htyU (y_idxS rfl rfl Tryz.underlying43 sz124 hA_r rfl (by omega)) <| htyU (y_fld rfl fa124_0 (by decide)) <| hty (fun m => yV (y_ld1 rfl ag9 (rd_fld (m.rd 0 rfl) g0)) ((rfl : _ = Value.string (strOf x.1)))) <| htyU (y_fld rfl fa124_0 (by decide)) <| hty (fun m => yV (y_ld1 rfl ag9 (ld_blk (m.blk 1 rfl) (i := 0) rfl)) ((rfl : _ = Value.string (strOf f.1)))) <| htyU (y_sne rfl rfl) <| htend <| hsub (ρ' := [(37, _), (25, _), (11, _), (5, _), (6, _), (7, _), (4, _), (3, _), (0, _), (1, _)]) ⟨rfl, rfl, rfl, rfl, rfl, rfl, rfl, rfl, rfl, rfl, trivial⟩ <| hthen <| ?_
      refine hif rfl (fun h1 => ?_) (fun h1 => ?_)
      · have hne : x.1 ≠ f.1 := fun e => h1 (strOf_inj.2 e)
        refine hreg <| hy (fun _ => y_move rfl) <| hy (fun _ => y_move rfl) <| hy (fun _ => y_move rfl) <| hy (fun _ => y_idxS rfl rfl Tryz.underlying43 sz124 hA_r rfl (by omega)) <| hy (fun m => yV (y_ldN rfl ag124 sz124 rfl (fc_cells (m.rd 0 rfl) hgx)) ((rfl : _ = Value.agg [SV x.1, SV x.2].toArray))) <| ?_
        refine hx (xh_bsl Tryz.underlying43 ti124 rfl rfl rfl (by simp [Value.cells, B8]) (by decide) (by decide) (fun g43 => ?_))
        have hA_b43 : 0 < 1 → (some (⟨g43, 0, none⟩ : Addr)) ≠ none := fun _ h => by cases h
        refine hmemL (fun w m => m.eqX 0 rfl (show _ = ROwn 124 2 (.slice (some ⟨g43, 0, none⟩) 1 1) 1 (fc [x]) from rfl)) ?_
        refine hx (xh_app 1 rfl rfl rfl Tryz.underlying43 Tryz.underlying43 (by exact .inl rfl) ti124 rfl (fun m => Src.of_rd (m.ord 0 rfl)) fc_one (by unfold maxLen; omega) (by omega) (fun u => ?_))
        refine hfactL (fun m => (m.own 0 rfl).slice) ?_
        rintro ⟨A_o, c_o, rfl, hc_o⟩
        refine hfactL (fun m => (m.ord 0 rfl).2.1) fun hA_o => ?_
        refine hmemL (fun w m => m.eqX 0 rfl (show _ = ROwn 124 2 (.slice A_o (k + 1) c_o) (k + 1) (fc (out ++ [x])) from congrArg (ROwn _ _ _ _) (fc_append ..).symm)) ?_
        refine hy (fun _ => y_assign rfl) <| hend <| hsub (ρ' := [(5, _), (37, _), (25, _), (11, _), (6, _), (7, _), (4, _), (3, _), (0, _), (1, _)]) ⟨rfl, rfl, rfl, rfl, rfl, rfl, rfl, rfl, rfl, rfl, trivial⟩ <| hmemQ (X' := [_, _, _]) (S' := [_]) (fun _ m => m) <| hqblock <| hthen <| hreg <| hy (fun _ => y_move rfl) <| hy (fun _ => y_add rfl rfl (w64 (by omega) (by omega))) <| hy (fun _ => y_assign rfl) <| hend <| hsub (ρ' := [(7, _), (5, _), (37, _), (25, _), (11, _), (6, _), (4, _), (3, _), (0, _), (1, _)]) ⟨rfl, rfl, rfl, rfl, rfl, rfl, rfl, rfl, rfl, rfl, trivial⟩ <| ?_
        refine hnext6 (i + 1) A_o (k + 1) c_o (out ++ [x]) true ⟨rfl, rfl, rfl, rfl, rfl, rfl, rfl, trivial⟩ [0, 1] rfl [0] rfl (⟨by omega, by rw [hs, if_pos hne], by rw [List.length_append, hk.symm]; rfl, by simp at hki ⊢; omega⟩) (by omega)
      · have hne : ¬ x.1 ≠ f.1 := fun e => h1 (fun h => e (strOf_inj.1 h))
        refine hcskip <| hqblock <| hthen <| hreg <| hy (fun _ => y_move rfl) <| hy (fun _ => y_add rfl rfl (w64 (by omega) (by omega))) <| hy (fun _ => y_assign rfl) <| hend <| hsub (ρ' := [(7, _), (37, _), (25, _), (11, _), (5, _), (6, _), (4, _), (3, _), (0, _), (1, _)]) ⟨rfl, rfl, rfl, rfl, rfl, rfl, rfl, rfl, rfl, rfl, trivial⟩ <| ?_
        refine hnext6 (i + 1) A1 (k) c1 (out) true ⟨rfl, rfl, rfl, rfl, rfl, rfl, rfl, trivial⟩ [0, 0] rfl [0] rfl (⟨by omega, by rw [hs, if_neg hne], hk.symm.symm, by simp at hki ⊢; omega⟩) (by omega)
    · obtain rfl : pt = false := by simpa using hp
      by_cases hge : sless x.1 f.1 = false
      · simp only [hge, and_self, if_true] at hs
        refine hcskip <| hthen <| hseq <| hblock <| hseq <| hseq <| hdrw [] [(0, some 0), (1, some 0), (2, some 0), (3, some 0), (4, some 0), (5, some 0), (6, some 0), (7, some 0), (8, some 0), (9, some 0), (10, some 0), (11, some 0)] (by kernel_rfl) (by kernel_rfl) rfl 99 <| htyU (y_move rfl) <| htyU ((y_not rfl)) <| htyU (y_move rfl) <| htyUg (o := _) rfl rfl rfl (y_move rfl) <| htyUg (o := _) rfl rfl rfl (y_move rfl) <| htyUg (o := _) rfl rfl rfl (y_idxS rfl rfl Tryz.underlying43 sz124 hA_r rfl (by omega)) <| htyUg (o := _) rfl rfl rfl (y_fld rfl fa124_0 (by decide)) <| htyg (o := _) rfl rfl rfl (fun m => yV (y_ld1 rfl ag9 (rd_fld (m.rd 0 rfl) g0)) ((rfl : _ = Value.string (strOf x.1)))) <| htyUg (o := _) rfl rfl rfl (y_fld rfl fa124_0 (by decide)) <| htyg (o := _) rfl rfl rfl (fun m => yV (y_ld1 rfl ag9 (ld_blk (m.blk 1 rfl) (i := 0) rfl)) ((rfl : _ = Value.string (strOf f.1)))) <| htyUg (o := _) rfl rfl rfl (yT (y_sge rfl rfl) ((by show (!sless x.1 f.1) = true; rw [hge]; rfl))) <| htyU (y_pickT rfl rfl) <| htend <| hsub (ρ' := [(25, _), (11, _), (5, _), (6, _), (7, _), (4, _), (3, _), (0, _), (1, _)]) ⟨rfl, rfl, rfl, rfl, rfl, rfl, rfl, rfl, rfl, trivial⟩ <| hthen <| ?_
        refine hift rfl (rfl) ?_
        refine hseq <| hreg <| hy (fun _ => y_move rfl) <| hy (fun m => yV (y_ldN rfl ag124 sz124 rfl ((m.blk 1 rfl).cells0)) ((rfl : _ = Value.agg [SV f.1, SV f.2].toArray))) <| ?_
        refine hx (xh_bsl Tryz.underlying43 ti124 rfl rfl rfl (by simp [Value.cells, B8]) (by decide) (by decide) (fun g28 => ?_))
        have hA_b28 : 0 < 1 → (some (⟨g28, 0, none⟩ : Addr)) ≠ none := fun _ h => by cases h
        refine hmemL (fun w m => m.eqX 0 rfl (show _ = ROwn 124 2 (.slice (some ⟨g28, 0, none⟩) 1 1) 1 (fc [f]) from rfl)) ?_
        refine hx (xh_app 1 rfl rfl rfl Tryz.underlying43 Tryz.underlying43 (by exact .inl rfl) ti124 rfl (fun m => Src.of_rd (m.ord 0 rfl)) fc_one (by unfold maxLen; omega) (by omega) (fun u => ?_))
        refine hfactL (fun m => (m.own 0 rfl).slice) ?_
        rintro ⟨A_o, c_o, rfl, hc_o⟩
        refine hfactL (fun m => (m.ord 0 rfl).2.1) fun hA_o => ?_
        refine hmemL (fun w m => m.eqX 0 rfl (show _ = ROwn 124 2 (.slice A_o (k + 1) c_o) (k + 1) (fc (out ++ [f])) from congrArg (ROwn _ _ _ _) (fc_append ..).symm)) ?_
        have hk1 : (out ++ [f]).length = k + 1 := by rw [List.length_append, hk]; rfl
        refine hy (fun _ => y_assign rfl) <| hend <| hsub (ρ' := [(5, _), (25, _), (11, _), (6, _), (7, _), (4, _), (3, _), (0, _), (1, _)]) ⟨rfl, rfl, rfl, rfl, rfl, rfl, rfl, rfl, rfl, trivial⟩ <| hmemQ (X' := [_, _, _]) (S' := [_]) (fun _ m => m) <| hthen <| hreg <| hy (fun _ => y_assign rfl) <| hend <| hthen <| hseq <| hdrw [] [(0, some 0), (1, some 0), (2, some 0), (3, some 0), (4, some 0), (5, some 0), (6, some 0), (7, some 0)] (by kernel_rfl) (by kernel_rfl) rfl 99 <| htyU (y_move rfl) <| htyU (y_move rfl) <| htyU (y_idxS rfl rfl Tryz.underlying43 sz124 hA_r rfl (by omega)) <| htyU (y_fld rfl fa124_0 (by decide)) <| hty (fun m => yV (y_ld1 rfl ag9 (rd_fld (m.rd 0 rfl) g0)) ((rfl : _ = Value.string (strOf x.1)))) <| htyU (y_fld rfl fa124_0 (by decide)) <| hty (fun m => yV (y_ld1 rfl ag9 (ld_blk (m.blk 2 rfl) (i := 0) rfl)) ((rfl : _ = Value.string (strOf f.1)))) <| htyU (y_sne rfl rfl) <| htend <| hsub (ρ' := [(37, _), (6, _), (5, _), (25, _), (11, _), (7, _), (4, _), (3, _), (0, _), (1, _)]) ⟨rfl, rfl, rfl, rfl, rfl, rfl, rfl, rfl, rfl, rfl, trivial⟩ <| hthen <| ?_
        refine hif rfl (fun h1 => ?_) (fun h1 => ?_)
        · have hne : x.1 ≠ f.1 := fun e => h1 (strOf_inj.2 e)
          refine hreg <| hy (fun _ => y_move rfl) <| hy (fun _ => y_move rfl) <| hy (fun _ => y_move rfl) <| hy (fun _ => y_idxS rfl rfl Tryz.underlying43 sz124 hA_r rfl (by omega)) <| hy (fun m => yV (y_ldN rfl ag124 sz124 rfl (fc_cells (m.rd 0 rfl) hgx)) ((rfl : _ = Value.agg [SV x.1, SV x.2].toArray))) <| ?_
          refine hx (xh_bsl Tryz.underlying43 ti124 rfl rfl rfl (by simp [Value.cells, B8]) (by decide) (by decide) (fun g43 => ?_))
          have hA_b43 : 0 < 1 → (some (⟨g43, 0, none⟩ : Addr)) ≠ none := fun _ h => by cases h
          refine hmemL (fun w m => m.eqX 0 rfl (show _ = ROwn 124 2 (.slice (some ⟨g43, 0, none⟩) 1 1) 1 (fc [x]) from rfl)) ?_
          refine hx (xh_app 1 rfl rfl rfl Tryz.underlying43 Tryz.underlying43 (by exact .inl rfl) ti124 rfl (fun m => Src.of_rd (m.ord 0 rfl)) fc_one (by unfold maxLen; omega) (by omega) (fun u2 => ?_))
          refine hfactL (fun m => (m.own 0 rfl).slice) ?_
          rintro ⟨A_o2, c_o2, rfl, hc_o⟩
          refine hfactL (fun m => (m.ord 0 rfl).2.1) fun hA_o => ?_
          refine hmemL (fun w m => m.eqX 0 rfl (show _ = ROwn 124 2 (.slice A_o2 (k + 1 + 1) c_o2) (k + 1 + 1) (fc ((out ++ [f]) ++ [x])) from congrArg (ROwn _ _ _ _) (fc_append ..).symm)) ?_
          refine hy (fun _ => y_assign rfl) <| hend <| hsub (ρ' := [(5, _), (37, _), (6, _), (25, _), (11, _), (7, _), (4, _), (3, _), (0, _), (1, _)]) ⟨rfl, rfl, rfl, rfl, rfl, rfl, rfl, rfl, rfl, rfl, trivial⟩ <| hmemQ (X' := [_, _, _, _]) (S' := [_]) (fun _ m => m) <| hqblock <| hthen <| hreg <| hy (fun _ => y_move rfl) <| hy (fun _ => y_add rfl rfl (w64 (by omega) (by omega))) <| hy (fun _ => y_assign rfl) <| hend <| hsub (ρ' := [(7, _), (5, _), (37, _), (6, _), (25, _), (11, _), (4, _), (3, _), (0, _), (1, _)]) ⟨rfl, rfl, rfl, rfl, rfl, rfl, rfl, rfl, rfl, rfl, trivial⟩ <| ?_
          refine hnext6 (i + 1) A_o2 (k + 1 + 1) c_o2 ((out ++ [f]) ++ [x]) true ⟨rfl, rfl, rfl, rfl, rfl, rfl, rfl, trivial⟩ [0, 2] rfl [0] rfl (⟨by omega, by rw [hs, if_pos hne], by rw [List.length_append, hk1]; rfl, by simp at hki ⊢; omega⟩) (by omega)
        · have hne : ¬ x.1 ≠ f.1 := fun e => h1 (fun h => e (strOf_inj.1 h))
          refine hcskip <| hqblock <| hthen <| hreg <| hy (fun _ => y_move rfl) <| hy (fun _ => y_add rfl rfl (w64 (by omega) (by omega))) <| hy (fun _ => y_assign rfl) <| hend <| hsub (ρ' := [(7, _), (37, _), (6, _), (5, _), (25, _), (11, _), (4, _), (3, _), (0, _), (1, _)]) ⟨rfl, rfl, rfl, rfl, rfl, rfl, rfl, rfl, rfl, rfl, trivial⟩ <| ?_
          refine hnext6 (i + 1) A_o (k + 1) c_o ((out ++ [f])) true ⟨rfl, rfl, rfl, rfl, rfl, rfl, rfl, trivial⟩ [0, 1] rfl [0] rfl (⟨by omega, by rw [hs, if_neg hne], hk1.symm, by simp at hki ⊢; omega⟩) (by omega)
      · have hlt : sless x.1 f.1 = true := by simpa using hge
        simp only [hlt, Bool.true_eq_false, and_false, if_false] at hs
        refine hcskip <| hthen <| hseq <| hblock <| hseq <| hseq <| hdrw [] [(0, some 0), (1, some 0), (2, some 0), (3, some 0), (4, some 0), (5, some 0), (6, some 0), (7, some 0), (8, some 0), (9, some 0), (10, some 0), (11, some 0)] (by kernel_rfl) (by kernel_rfl) rfl 99 <| htyU (y_move rfl) <| htyU ((y_not rfl)) <| htyU (y_move rfl) <| htyUg (o := _) rfl rfl rfl (y_move rfl) <| htyUg (o := _) rfl rfl rfl (y_move rfl) <| htyUg (o := _) rfl rfl rfl (y_idxS rfl rfl Tryz.underlying43 sz124 hA_r rfl (by omega)) <| htyUg (o := _) rfl rfl rfl (y_fld rfl fa124_0 (by decide)) <| htyg (o := _) rfl rfl rfl (fun m => yV (y_ld1 rfl ag9 (rd_fld (m.rd 0 rfl) g0)) ((rfl : _ = Value.string (strOf x.1)))) <| htyUg (o := _) rfl rfl rfl (y_fld rfl fa124_0 (by decide)) <| htyg (o := _) rfl rfl rfl (fun m => yV (y_ld1 rfl ag9 (ld_blk (m.blk 1 rfl) (i := 0) rfl)) ((rfl : _ = Value.string (strOf f.1)))) <| htyUg (o := _) rfl rfl rfl (yF (y_sge rfl rfl) ((by show (!sless x.1 f.1) = false; rw [hlt]; rfl))) <| htyU (y_pickT rfl rfl) <| htend <| hsub (ρ' := [(25, _), (11, _), (5, _), (6, _), (7, _), (4, _), (3, _), (0, _), (1, _)]) ⟨rfl, rfl, rfl, rfl, rfl, rfl, rfl, rfl, rfl, trivial⟩ <| hthen <| ?_
        refine hiff rfl (rfl) ?_
        refine hcskip <| hthen <| hseq <| hdrw [] [(0, some 0), (1, some 0), (2, some 0), (3, some 0), (4, some 0), (5, some 0), (6, some 0), (7, some 0)] (by kernel_rfl) (by kernel_rfl) rfl 99 <| htyU (y_move rfl) <| htyU (y_move rfl) <| htyU (y_idxS rfl rfl Tryz.underlying43 sz124 hA_r rfl (by omega)) <| htyU (y_fld rfl fa124_0 (by decide)) <| hty (fun m => yV (y_ld1 rfl ag9 (rd_fld (m.rd 0 rfl) g0)) ((rfl : _ = Value.string (strOf x.1)))) <| htyU (y_fld rfl fa124_0 (by decide)) <| hty (fun m => yV (y_ld1 rfl ag9 (ld_blk (m.blk 1 rfl) (i := 0) rfl)) ((rfl : _ = Value.string (strOf f.1)))) <| htyU (y_sne rfl rfl) <| htend <| hsub (ρ' := [(37, _), (25, _), (11, _), (5, _), (6, _), (7, _), (4, _), (3, _), (0, _), (1, _)]) ⟨rfl, rfl, rfl, rfl, rfl, rfl, rfl, rfl, rfl, rfl, trivial⟩ <| hthen <| ?_
        refine hif rfl (fun h1 => ?_) (fun h1 => ?_)
        · have hne : x.1 ≠ f.1 := fun e => h1 (strOf_inj.2 e)
          refine hreg <| hy (fun _ => y_move rfl) <| hy (fun _ => y_move rfl) <| hy (fun _ => y_move rfl) <| hy (fun _ => y_idxS rfl rfl Tryz.underlying43 sz124 hA_r rfl (by omega)) <| hy (fun m => yV (y_ldN rfl ag124 sz124 rfl (fc_cells (m.rd 0 rfl) hgx)) ((rfl : _ = Value.agg [SV x.1, SV x.2].toArray))) <| ?_
          refine hx (xh_bsl Tryz.underlying43 ti124 rfl rfl rfl (by simp [Value.cells, B8]) (by decide) (by decide) (fun g43 => ?_))
          have hA_b43 : 0 < 1 → (some (⟨g43, 0, none⟩ : Addr)) ≠ none := fun _ h => by cases h
          refine hmemL (fun w m => m.eqX 0 rfl (show _ = ROwn 124 2 (.slice (some ⟨g43, 0, none⟩) 1 1) 1 (fc [x]) from rfl)) ?_
          refine hx (xh_app 1 rfl rfl rfl Tryz.underlying43 Tryz.underlying43 (by exact .inl rfl) ti124 rfl (fun m => Src.of_rd (m.ord 0 rfl)) fc_one (by unfold maxLen; omega) (by omega) (fun u => ?_))
          refine hfactL (fun m => (m.own 0 rfl).slice) ?_
          rintro ⟨A_o, c_o, rfl, hc_o⟩
          refine hfactL (fun m => (m.ord 0 rfl).2.1) fun hA_o => ?_
          refine hmemL (fun w m => m.eqX 0 rfl (show _ = ROwn 124 2 (.slice A_o (k + 1) c_o) (k + 1) (fc (out ++ [x])) from congrArg (ROwn _ _ _ _) (fc_append ..).symm)) ?_
          refine hy (fun _ => y_assign rfl) <| hend <| hsub (ρ' := [(5, _), (37, _), (25, _), (11, _), (6, _), (7, _), (4, _), (3, _), (0, _), (1, _)]) ⟨rfl, rfl, rfl, rfl, rfl, rfl, rfl, rfl, rfl, rfl, trivial⟩ <| hmemQ (X' := [_, _, _]) (S' := [_]) (fun _ m => m) <| hqblock <| hthen <| hreg <| hy (fun _ => y_move rfl) <| hy (fun _ => y_add rfl rfl (w64 (by omega) (by omega))) <| hy (fun _ => y_assign rfl) <| hend <| hsub (ρ' := [(7, _), (5, _), (37, _), (25, _), (11, _), (6, _), (4, _), (3, _), (0, _), (1, _)]) ⟨rfl, rfl, rfl, rfl, rfl, rfl, rfl, rfl, rfl, rfl, trivial⟩ <| ?_
          refine hnext6 (i + 1) A_o (k + 1) c_o (out ++ [x]) false ⟨rfl, rfl, rfl, rfl, rfl, rfl, rfl, trivial⟩ [0, 1] rfl [0] rfl (⟨by omega, by rw [hs, if_pos hne], by rw [List.length_append, hk.symm]; rfl, by simp at hki ⊢; omega⟩) (by omega)
        · have hne : ¬ x.1 ≠ f.1 := fun e => h1 (fun h => e (strOf_inj.1 h))
          refine hcskip <| hqblock <| hthen <| hreg <| hy (fun _ => y_move rfl) <| hy (fun _ => y_add rfl rfl (w64 (by omega) (by omega))) <| hy (fun _ => y_assign rfl) <| hend <| hsub (ρ' := [(7, _), (37, _), (25, _), (11, _), (5, _), (6, _), (4, _), (3, _), (0, _), (1, _)]) ⟨rfl, rfl, rfl, rfl, rfl, rfl, rfl, rfl, rfl, rfl, trivial⟩ <| ?_
          refine hnext6 (i + 1) A1 (k) c1 (out) false ⟨rfl, rfl, rfl, rfl, rfl, rfl, rfl, trivial⟩ [0, 0] rfl [0] rfl (⟨by omega, by rw [hs, if_neg hne], hk.symm.symm, by simp at hki ⊢; omega⟩) (by omega)
  · obtain rfl : i = n := by omega
    have hww : wst f l l.length = (out, pt) := by rw [hl]; exact hw
    by_cases hp : pt = true
    · subst hp
      have hW : withF l f = out := by rw [withF, hww]; rfl
      refine hexit <| hthen_exit <| hthen_exit <| hqblock_exit <| hthen <| hseq <| hseq <| hreg <| hy (fun _ => y_move rfl) <| hy (fun _ => (y_not rfl)) <| hend <| hsub (ρ' := [(46, _), (11, _), (5, _), (6, _), (7, _), (4, _), (3, _), (0, _), (1, _)]) ⟨rfl, rfl, rfl, rfl, rfl, rfl, rfl, rfl, rfl, trivial⟩ <| hthen <| ?_
      refine hiff rfl (rfl) ?_
      refine hcskip <| hthen <| hseq <| hreg <| hy (fun _ => y_move rfl) <| hy (fun _ => y_assign rfl) <| hend <| hsub (ρ' := [(4, _), (46, _), (11, _), (5, _), (6, _), (7, _), (3, _), (0, _), (1, _)]) ⟨rfl, rfl, rfl, rfl, rfl, rfl, rfl, rfl, rfl, trivial⟩ <| hthen <| hret <| ?_
      refine hmemQ (fun w m => m.eqX 0 rfl (show _ = ROwn 124 2 (.slice A1 k c1) k (fc (withF l f)) from by rw [hW])) ?_
      exact hret1 trivial rfl rfl [0] rfl [] rfl ⟨_, _, rfl, rfl, rfl, ⟨by rw [hW]; exact hk, by simp at hki; omega⟩⟩
    · obtain rfl : pt = false := by simpa using hp
      have hW : withF l f = out ++ [f] := by rw [withF, hww]; rfl
      refine hexit <| hthen_exit <| hthen_exit <| hqblock_exit <| hthen <| hseq <| hseq <| hreg <| hy (fun _ => y_move rfl) <| hy (fun _ => (y_not rfl)) <| hend <| hsub (ρ' := [(46, _), (11, _), (5, _), (6, _), (7, _), (4, _), (3, _), (0, _), (1, _)]) ⟨rfl, rfl, rfl, rfl, rfl, rfl, rfl, rfl, rfl, trivial⟩ <| hthen <| ?_
      refine hift rfl (rfl) ?_
      refine hreg <| hy (fun _ => y_move rfl) <| hy (fun m => yV (y_ldN rfl ag124 sz124 rfl ((m.blk 1 rfl).cells0)) ((rfl : _ = Value.agg [SV f.1, SV f.2].toArray))) <| ?_
      refine hx (xh_bsl Tryz.underlying43 ti124 rfl rfl rfl (by simp [Value.cells, B8]) (by decide) (by decide) (fun g49 => ?_))
      have hA_b49 : 0 < 1 → (some (⟨g49, 0, none⟩ : Addr)) ≠ none := fun _ h => by cases h
      refine hmemL (fun w m => m.eqX 0 rfl (show _ = ROwn 124 2 (.slice (some ⟨g49, 0, none⟩) 1 1) 1 (fc [f]) from rfl)) ?_
      refine hx (xh_app 1 rfl rfl rfl Tryz.underlying43 Tryz.underlying43 (by exact .inl rfl) ti124 rfl (fun m => Src.of_rd (m.ord 0 rfl)) fc_one (by unfold maxLen; omega) (by omega) (fun u => ?_))
      refine hfactL (fun m => (m.own 0 rfl).slice) ?_
      rintro ⟨A_o, c_o, rfl, hc_o⟩
      refine hfactL (fun m => (m.ord 0 rfl).2.1) fun hA_o => ?_
      refine hmemL (fun w m => m.eqX 0 rfl (show _ = ROwn 124 2 (.slice A_o (k + 1) c_o) (k + 1) (fc (withF l f)) from (congrArg (ROwn _ _ _ _) ((fc_append ..).symm.trans (congrArg fc hW.symm))))) ?_
      refine hy (fun _ => y_assign rfl) <| hend <| hsub (ρ' := [(5, _), (46, _), (11, _), (6, _), (7, _), (4, _), (3, _), (0, _), (1, _)]) ⟨rfl, rfl, rfl, rfl, rfl, rfl, rfl, rfl, rfl, trivial⟩ <| hmemQ (X' := [_, _, _]) (S' := [_]) (fun _ m => m) <| hthen <| hseq <| hreg <| hy (fun _ => y_move rfl) <| hy (fun _ => y_assign rfl) <| hend <| hsub (ρ' := [(4, _), (5, _), (46, _), (11, _), (6, _), (7, _), (3, _), (0, _), (1, _)]) ⟨rfl, rfl, rfl, rfl, rfl, rfl, rfl, rfl, rfl, trivial⟩ <| hthen <| hret <| ?_
      exact hret1 trivial rfl rfl [0] rfl [] rfl ⟨_, _, rfl, rfl, rfl, ⟨by rw [hW, List.length_append, hk]; rfl, by simp at hki; omega⟩⟩
end Go.Proofs.YtfikjheicjamhaaGreatDoor
end
section
/- Contracts: the document's disk (layer 12): a change made, Read. -/
set_option linter.unusedVariables false
set_option linter.unusedSimpArgs false
set_option maxRecDepth 20000
namespace Go.Proofs.YtfikjheicjamhaaGreatDoor
open Go.Eng Go.Hx
def withoutF (l : List FP) (p : List UInt8) : List FP := l.filter fun x => decide (x.1 ≠ p)
/-- a change of the document, as a value -/
def cv (k : Int) (p t b : List UInt8) : List Value := [.int .i64 k, SV p, SV t, SV b]
def makeF (l : List FP) (k : Int) (p t b : List UInt8) : List FP :=
  if k = 0 then withF l (p, b) else match l[findN l p]? with
    | none => l
    | some x => if k = 2 then withoutF l p else withF (withoutF l p) (t, x.2)
theorem findI_neg {l : List FP} {p : List UInt8} : findI l p < 0 ↔ l[findN l p]? = none := by
  unfold findI
  by_cases h : findN l p < l.length
  · rw [if_pos h, List.getElem?_eq_getElem h]; simp
  · rw [if_neg h, List.getElem?_eq_none (by omega)]; simp
theorem rmakeC {A : Option Addr} {n c : Nat} {l : List FP} {k : Int} {p t bb : List UInt8} (hl : l.length = n) (hn : n ≤ 900000) : Con Tryz.prog 127 [.slice A n c, .agg (cv k p t bb).toArray] [] [RRd 2 A n (fc l)] (fun v_ X_ S_ => ∃ A1 n1 c1, v_ = (.slice A1 n1 c1) ∧ X_ = [] ∧ S_ = [RRd 2 A1 n1 (fc (makeF l k p t bb))] ∧ (n1 = (makeF l k p t bb).length ∧ n1 ≤ n + 1)) := by
  refine henter (N := 43) Tryz.func127 rfl rfl (by simp) fun b => ?_
  refine hfactC (fun m => rdX (m.rd 0 rfl)) ?_
  rintro ⟨hl_r, hA_r⟩
  refine hseq <| hreg <| ?_
  refine hx (xh_box rfl (fun g3 => ?_))
  refine hmemL (fun w m => m.eqX 0 rfl (show _ = RBlk g3 175 (cv k p t bb) from congrArg (RBlk _ _) (cells_agg _))) ?_
  refine hy (fun _ => y_assign rfl) <| hend <| hmemQ (X' := [_]) (S' := [_]) (fun _ m => m) <| hthen <| hseq <| hseq <| hreg <| hy (fun _ => y_fld rfl fa175_0 (by decide)) <| hy (fun m => y_ld1 rfl ag3 (ld_blk (m.blk 0 rfl) (i := 0) rfl)) <| hy (fun _ => y_eql rfl rfl) <| hend <| hsub (ρ' := [(8, _), (4, _), (3, _), (0, _), (1, _)]) ⟨rfl, rfl, rfl, rfl, rfl, trivial⟩ <| hthen <| ?_
  refine hif rfl (fun h0 => ?_) (fun h0 => ?_)
  · have hM : makeF l k p t bb = withF l (p, bb) := by rw [makeF, if_pos h0]
    refine hseq <| hreg <| hy (fun _ => y_move rfl) <| hy (fun _ => y_fld rfl fa175_1 (by decide)) <| hy (fun m => yV (y_ld1 rfl ag9 (ld_blk (m.blk 0 rfl) (i := 1) rfl)) ((rfl : _ = SV p))) <| hy (fun _ => y_fld rfl fa175_3 (by decide)) <| hy (fun m => yV (y_ld1 rfl ag9 (ld_blk (m.blk 0 rfl) (i := 3) rfl)) ((rfl : _ = SV bb))) <| hy (fun _ => yV (y_build ti124 rfl rfl (by kernel_rfl) (.cons (o := 0) (sz := 1) (by kernel_rfl) rfl rfl (Nat.le_of_ble_eq_true rfl) (.cons (o := 1) (sz := 1) (by kernel_rfl) rfl rfl (Nat.le_of_ble_eq_true rfl) .nil))) ((rfl : _ = Value.agg [SV p, SV bb].toArray))) <| ?_
    refine hx (xh_call rfl Tryz.call180 (rwithC (by omega) (by omega) (f := (p, bb))) [] rfl [0] rfl ?_)
    rintro _ _ _ ⟨v, k2, rfl, rfl, rfl, hp⟩
    refine hfactL (fun m => (m.own 0 rfl).slice) ?_
    rintro ⟨A_x, c_x, rfl, hc_x⟩
    refine hfactL (fun m => (m.ord 0 rfl).2.1) fun hA_x => ?_
    refine hy (fun _ => y_assign rfl) <| hend <| hsub (ρ' := [(4, _), (8, _), (3, _), (0, _), (1, _)]) ⟨rfl, rfl, rfl, rfl, rfl, trivial⟩ <| hmemQ (X' := [_, _]) (S' := [_]) (fun _ m => m) <| hthen <| hret <| hthen_ret <| ?_
    rw [← hM] at hp
    refine hmemQ (fun w m => m.eqX 0 rfl (show _ = ROwn 124 2 (.slice A_x k2 c_x) k2 (fc (makeF l k p t bb)) from by rw [hM])) ?_
    refine hmemQ (fun w m => (m.perm (takeR_perm [0] _ [_] _ rfl)).freeze) ?_
    refine hmemQ (fun w m => m.asV 0 rfl .own) ?_
    refine hfactQ (fun m => rdX (m.rd 0 rfl)) ?_
    rintro ⟨hl_xr, hA_xr⟩
    exact hret1 trivial rfl rfl [] rfl [0] rfl ⟨_, _, _, rfl, rfl, rfl, hp⟩
  · refine hcskip <| hthen <| hseq <| hreg <| hy (fun _ => y_move rfl) <| hy (fun _ => y_fld rfl fa175_1 (by decide)) <| hy (fun m => yV (y_ld1 rfl ag9 (ld_blk (m.blk 0 rfl) (i := 1) rfl)) ((rfl : _ = SV p))) <| ?_
    refine hx (xh_call rfl Tryz.call107 (rfindC (by omega) (by omega)) [] rfl [0] rfl ?_)
    rintro _ _ _ ⟨rfl, rfl, rfl⟩
    refine hy (fun _ => y_assign rfl) <| hend <| hsub (ρ' := [(5, _), (8, _), (4, _), (3, _), (0, _), (1, _)]) ⟨rfl, rfl, rfl, rfl, rfl, rfl, trivial⟩ <| hmemQ (X' := [_]) (S' := [_]) (fun _ m => m) <| hthen <| hseq <| hseq <| hreg <| hy (fun _ => y_move rfl) <| hy (fun _ => y_lss rfl rfl) <| hend <| hsub (ρ' := [(21, _), (5, _), (8, _), (4, _), (3, _), (0, _), (1, _)]) ⟨rfl, rfl, rfl, rfl, rfl, rfl, rfl, trivial⟩ <| hthen <| ?_
    refine hif rfl (fun h1 => ?_) (fun h1 => ?_)
    · have hM : makeF l k p t bb = l := by rw [makeF, if_neg h0, findI_neg.1 h1]
      refine hseq <| hreg <| hy (fun _ => y_move rfl) <| hy (fun _ => y_assign rfl) <| hend <| hsub (ρ' := [(4, _), (21, _), (5, _), (8, _), (3, _), (0, _), (1, _)]) ⟨rfl, rfl, rfl, rfl, rfl, rfl, rfl, trivial⟩ <| hthen <| hret <| hthen_ret <| ?_
      rw [hM]
      exact hret1 trivial rfl rfl [] rfl [0] rfl ⟨_, _, _, rfl, rfl, rfl, ⟨hl.symm, by omega⟩⟩
    · obtain ⟨x0, hx0⟩ : ∃ x0, l[findN l p]? = some x0 := by
        cases hq : l[findN l p]? with
        | none => exact absurd (findI_neg.2 hq) h1
        | some x0 => exact ⟨x0, rfl⟩
      have hfl : findN l p < l.length := (List.getElem?_eq_some_iff.1 hx0).1
      obtain ⟨f0, f1⟩ := fc_get l _ x0 hx0
      have hfi : findI l p = (findN l p : Nat) := by rw [findI, if_pos hfl]
      have hwl : (withoutF l p).length ≤ l.length := List.length_filter_le ..
      refine hcskip <| hthen <| hseq <| hseq <| hreg <| hy (fun _ => y_fld rfl fa175_0 (by decide)) <| hy (fun m => y_ld1 rfl ag3 (ld_blk (m.blk 0 rfl) (i := 0) rfl)) <| hy (fun _ => y_eql rfl rfl) <| hend <| hsub (ρ' := [(25, _), (21, _), (5, _), (8, _), (4, _), (3, _), (0, _), (1, _)]) ⟨rfl, rfl, rfl, rfl, rfl, rfl, rfl, rfl, trivial⟩ <| hthen <| ?_
      refine hif rfl (fun h2 => ?_) (fun h2 => ?_)
      · have hM : makeF l k p t bb = withoutF l p := by rw [makeF, if_neg h0, hx0]; simp only [if_pos h2]
        refine hseq <| hreg <| hy (fun _ => y_move rfl) <| hy (fun _ => y_fld rfl fa175_1 (by decide)) <| hy (fun m => yV (y_ld1 rfl ag9 (ld_blk (m.blk 0 rfl) (i := 1) rfl)) ((rfl : _ = SV p))) <| ?_
        refine hx (xh_call rfl Tryz.call181 (rwithoutC (by omega) (by omega)) [] rfl [0] rfl ?_)
        rintro _ _ _ ⟨v, k2, rfl, rfl, rfl, hp⟩
        refine hfactL (fun m => (m.own 0 rfl).slice) ?_
        rintro ⟨A_x, c_x, rfl, hc_x⟩
        refine hfactL (fun m => (m.ord 0 rfl).2.1) fun hA_x => ?_
        refine hy (fun _ => y_assign rfl) <| hend <| hsub (ρ' := [(4, _), (25, _), (21, _), (5, _), (8, _), (3, _), (0, _), (1, _)]) ⟨rfl, rfl, rfl, rfl, rfl, rfl, rfl, rfl, trivial⟩ <| hmemQ (X' := [_, _]) (S' := [_]) (fun _ m => m) <| hthen <| hret <| hthen_ret <| ?_
        refine hmemQ (fun w m => m.eqX 0 rfl (show _ = ROwn 124 2 (.slice A_x k2 c_x) k2 (fc (makeF l k p t bb)) from by rw [hM]; rfl)) ?_
        refine hmemQ (fun w m => (m.perm (takeR_perm [0] _ [_] _ rfl)).freeze) ?_
        refine hmemQ (fun w m => m.asV 0 rfl .own) ?_
        refine hfactQ (fun m => rdX (m.rd 0 rfl)) ?_
        rintro ⟨hl_xr, hA_xr⟩
        exact hret1 trivial rfl rfl [] rfl [0] rfl ⟨_, _, _, rfl, rfl, rfl, ⟨hp.trans (congrArg List.length hM.symm), by rw [hp]; show (withoutF l p).length ≤ _; omega⟩⟩
      · have hM : makeF l k p t bb = withF (withoutF l p) (t, x0.2) := by rw [makeF, if_neg h0, hx0]; simp only [if_neg h2]
        refine hcskip <| hthen <| hseq <| hdrw [3, 12] [(0, some 0), (1, some 0), (2, some 0), (4, some 1), (5, some 1), (6, some 2), (7, some 2), (8, some 1), (9, some 1), (10, some 1), (11, some 1), (3, none), (12, none), (13, some 2)] (by kernel_rfl) (by kernel_rfl) rfl 99 <| htyU (y_move rfl) <| htyU (y_fld rfl fa175_1 (by decide)) <| hty (fun m => yV (y_ld1 rfl ag9 (ld_blk (m.blk 0 rfl) (i := 1) rfl)) ((rfl : _ = SV p))) <| htyU (y_fld rfl fa175_2 (by decide)) <| hty (fun m => yV (y_ld1 rfl ag9 (ld_blk (m.blk 0 rfl) (i := 2) rfl)) ((rfl : _ = SV t))) <| htyU (y_move rfl) <| htyU (y_move rfl) <| htyU (y_idxS rfl rfl Tryz.underlying43 sz124 hA_r hfi.symm (by omega)) <| htyU (y_fld rfl fa124_1 (by decide)) <| hty (fun m => yV (y_ld1 rfl ag9 (rd_fld (m.rd 0 rfl) f1)) ((rfl : _ = SV x0.2))) <| htyU (yV (y_build ti124 rfl rfl (by kernel_rfl) (.cons (o := 0) (sz := 1) (by kernel_rfl) rfl rfl (Nat.le_of_ble_eq_true rfl) (.cons (o := 1) (sz := 1) (by kernel_rfl) rfl rfl (Nat.le_of_ble_eq_true rfl) .nil))) ((rfl : _ = Value.agg [SV t, SV x0.2].toArray))) <| ?_
        refine htx (xh_call rfl Tryz.call181 (rwithoutC (by omega) (by omega)) [] rfl [0] rfl ?_)
        rintro _ _ _ ⟨v, k2, rfl, rfl, rfl, hp⟩
        refine ⟨(fun _ => wk [1] [0] rfl rfl), ?_⟩
        refine htfact (fun m => (m.own 0 rfl).slice) ?_
        rintro ⟨A_x, c_x, rfl, hc_x⟩
        refine htfact (fun m => (m.ord 0 rfl).2.1) fun hA_x => ?_
        have hk2 : k2 = (withoutF l p).length := hp
        clear hp
        refine htx (xh_calll rfl Tryz.call180 (rwithC (by omega) (by omega) (l := (withoutF l p)) (f := (t, x0.2))) [] rfl (.x 0 rfl .own .nil) ?_)
        rintro _ _ _ ⟨v2, k3, rfl, rfl, rfl, hp2⟩
        refine ⟨rfl, ?_⟩
        refine ⟨(fun _ => wk [2] [0] rfl rfl), ?_⟩
        refine htfact (fun m => (m.own 0 rfl).slice) ?_
        rintro ⟨A_x2, c_x2, rfl, hc_x2⟩
        refine htfact (fun m => (m.ord 0 rfl).2.1) fun hA_x2 => ?_
        refine htyU (y_assign rfl) <| htend <| hsub (ρ' := [(4, _), (25, _), (21, _), (5, _), (8, _), (3, _), (0, _), (1, _)]) ⟨rfl, rfl, rfl, rfl, rfl, rfl, rfl, rfl, trivial⟩ <| hmemQ (X' := [_, _, _]) (S' := [_]) (fun _ m => m) <| hthen <| hret <| ?_
        rw [hM]
        refine hmemQ (fun w m => (m.perm (takeR_perm [0] _ [_] _ rfl)).freeze) ?_
        refine hmemQ (fun w m => m.asV 0 rfl .own) ?_
        refine hfactQ (fun m => rdX (m.rd 0 rfl)) ?_
        rintro ⟨hl_x2r, hA_x2r⟩
        exact hret1 trivial rfl rfl [] rfl [0] rfl ⟨_, _, _, rfl, rfl, rfl, ⟨hp2.1, by omega⟩⟩
abbrev RC := Int × List UInt8 × List UInt8 × List UInt8
def wcs (l : List RC) : List Value := l.flatMap fun x => cv x.1 x.2.1 x.2.2.1 x.2.2.2
theorem wcs_append (a b : List RC) : wcs (a ++ b) = wcs a ++ wcs b := by simp [wcs]
theorem wcs_one {l : List RC} : ∀ u ∈ wcs l, u.oneCell' = true := by
  intro u hu
  obtain ⟨x, _, h⟩ := List.mem_flatMap.1 hu
  simp only [cv, List.mem_cons, List.not_mem_nil, or_false] at h
  rcases h with rfl | rfl | rfl | rfl <;> rfl
theorem dv_one {room pw : Int} {A A2 A3 : Option Addr} {n c n2 c2 n3 c3 : Nat} : ∀ u ∈ dv room (.slice A n c) (.slice A2 n2 c2) (.slice A3 n3 c3) pw, u.oneCell' = true := by
  intro u hu
  simp only [dv, List.mem_cons, List.not_mem_nil, or_false] at hu
  rcases hu with rfl | rfl | rfl | rfl | rfl <;> rfl
def lessP (pw : Int) : Int := if 0 < pw then pw - 1 else pw
theorem rdoC {room pw : Int} {A Al A3 : Option Addr} {n c nl cl n3 c3 : Nat} {l : List FP} {wl : List RC} {k : Int} {p t bb : List UInt8} (hl : l.length = n) (hn : n ≤ 900000) (hw : wl.length = n3) (hn3 : n3 ≤ 900000) (hp1 : -10 ≤ pw) (hp2 : pw ≤ 1000000000000) : Con Tryz.prog 108 [.agg (dv room (.slice A n c) (.slice Al nl cl) (.slice A3 n3 c3) pw).toArray, .agg (cv k p t bb).toArray] [] [RRd 2 A n (fc l), RRd 4 A3 n3 (wcs wl)] (fun v_ X_ S_ => ∃ A1 n1 c1 A2 n2 c2, v_ = (.agg (dv room (.slice A1 n1 c1) (.slice Al nl cl) (.slice A2 n2 c2) (lessP pw)).toArray) ∧ X_ = [] ∧ S_ = [RRd 2 A1 n1 (fc (makeF l k p t bb)), RRd 4 A2 n2 (wcs (wl ++ [(k, p, t, bb)]))] ∧ (n1 = (makeF l k p t bb).length ∧ n1 ≤ n + 1 ∧ n2 = n3 + 1)) := by
  refine henter (N := 28) Tryz.func108 rfl rfl (by simp) fun b => ?_
  refine hfactC (fun m => rdX (m.rd 0 rfl)) ?_
  rintro ⟨hl_r, hA_r⟩
  refine hfactC (fun m => rdX (m.rd 1 rfl)) ?_
  rintro ⟨hl_w, hA_w⟩
  refine hseq <| hreg <| ?_
  refine hx (xh_box rfl (fun g2 => ?_))
  refine hmemL (fun w m => m.eqX 0 rfl (show _ = RBlk g2 46 (dv room (.slice A n c) (.slice Al nl cl) (.slice A3 n3 c3) pw) from congrArg (RBlk _ _) (cells_agg _))) ?_
  refine hx (xh_box rfl (fun g3 => ?_))
  refine hmemL (fun w m => m.eqX 0 rfl (show _ = RBlk g3 175 (cv k p t bb) from congrArg (RBlk _ _) (cells_agg _))) ?_
  refine hx (xh_alloc ti46 (fun g4 => ?_))
  refine hend <| hmemQ (X' := [_, _, _]) (S' := [_, _]) (fun _ m => m) <| hthen <| hseq <| hreg <| hy (fun _ => y_fld rfl fa46_1 (by decide)) <| hy (fun m => y_ld1 rfl ag43 (ld_blk (m.blk 2 rfl) (i := 1) rfl)) <| hy (fun m => yV (y_ldN rfl ag175 sz175 rfl ((m.blk 1 rfl).cells0)) ((rfl : _ = Value.agg (cv k p t bb).toArray))) <| ?_
  refine hx (xh_call rfl Tryz.call127 (rmakeC (by omega) (by omega)) [] rfl [0] rfl ?_)
  rintro _ _ _ ⟨A1, n1, c1, rfl, rfl, rfl, hp⟩
  refine hfactL (fun m => rdX (m.rd 0 rfl)) ?_
  rintro ⟨hl_q, hA_q⟩
  refine hy (fun _ => y_fld rfl fa46_1 (by decide)) <| ?_
  refine hx0 (xh_st1a 2 rfl rfl rfl sz43 rfl (by first | exact Nat.le_of_ble_eq_true rfl | simp) ?_)
  refine hend <| hsub (ρ' := [(4, _), (3, _), (2, _), (0, _), (1, _)]) ⟨rfl, rfl, rfl, rfl, rfl, trivial⟩ <| hmemQ (X' := [_, _, _]) (S' := [_, _, _]) (fun _ m => m) <| hthen <| hseq <| hreg <| hy (fun _ => y_assign rfl) <| hend <| hthen <| hseq <| hreg <| hy (fun _ => y_move rfl) <| hy (fun _ => y_fld rfl fa46_3 (by decide)) <| hy (fun m => y_ld1 rfl ag44 (ld_blk (m.blk 0 rfl) rfl)) <| ?_
  refine hmemL (fun w m => m.addX (r' := ROwn 175 4 (.slice none 0 0) 0 []) (.refl _ _) (Own.nil _ _ _ _) (fun k hk => hk.elim)) ?_
  refine hx (xh_app 0 rfl rfl rfl Tryz.underlying44 Tryz.underlying44 (by exact .inl rfl) ti175 rfl (fun m => Src.of_rd (m.rd 2 rfl)) wcs_one (by unfold maxLen; omega) (by omega) (fun u => ?_))
  refine hfactL (fun m => (m.own 0 rfl).slice) ?_
  rintro ⟨A_o, c_o, rfl, hc_o⟩
  refine hfactL (fun m => (m.ord 0 rfl).2.1) fun hA_o => ?_
  rw [Nat.zero_add]
  refine hmemL (fun w m => m.eqX 0 rfl (show _ = ROwn 175 4 (.slice A_o n3 c_o) n3 (wcs wl) from rfl)) ?_
  refine hy (fun _ => y_assign rfl) <| hend <| hsub (ρ' := [(5, _), (4, _), (3, _), (2, _), (0, _), (1, _)]) ⟨rfl, rfl, rfl, rfl, rfl, rfl, trivial⟩ <| hmemQ (X' := [_, _, _, _]) (S' := [_, _, _]) (fun _ m => m) <| hthen <| hseq <| hreg <| hy (fun _ => y_move rfl) <| hy (fun m => yV (y_ldN rfl ag175 sz175 rfl ((m.blk 3 rfl).cells0)) ((rfl : _ = Value.agg (cv k p t bb).toArray))) <| ?_
  refine hx (xh_bsl Tryz.underlying44 ti175 rfl rfl rfl (by simp [Value.cells, cv]) (by decide) (by decide) (fun g17 => ?_))
  have hA_b17 : 0 < 1 → (some (⟨g17, 0, none⟩ : Addr)) ≠ none := fun _ h => by cases h
  refine hmemL (fun w m => m.eqX 0 rfl (show _ = ROwn 175 4 (.slice (some ⟨g17, 0, none⟩) 1 1) 1 (wcs [(k, p, t, bb)]) from rfl)) ?_
  refine hx (xh_app 1 rfl rfl rfl Tryz.underlying44 Tryz.underlying44 (by exact .inl rfl) ti175 rfl (fun m => Src.of_rd (m.ord 0 rfl)) wcs_one (by unfold maxLen; omega) (by omega) (fun u2 => ?_))
  refine hfactL (fun m => (m.own 0 rfl).slice) ?_
  rintro ⟨A_o2, c_o2, rfl, hc_o⟩
  refine hfactL (fun m => (m.ord 0 rfl).2.1) fun hA_o => ?_
  refine hmemL (fun w m => m.eqX 0 rfl (show _ = ROwn 175 4 (.slice A_o2 (n3 + 1) c_o2) (n3 + 1) (wcs (wl ++ [(k, p, t, bb)])) from congrArg (ROwn _ _ _ _) (wcs_append ..).symm)) ?_
  refine hy (fun _ => y_fld rfl fa46_3 (by decide)) <| ?_
  refine hx0 (xh_st1a 2 rfl rfl rfl sz44 rfl (by first | exact Nat.le_of_ble_eq_true rfl | simp) ?_)
  refine hmemL (fun w m => m.eqX 0 rfl (show _ = RBlk g2 46 (dv room (.slice A1 n1 c1) (.slice Al nl cl) (.slice A_o2 (n3 + 1) c_o2) pw) from rfl)) ?_
  refine hend <| hsub (ρ' := [(5, _), (4, _), (3, _), (2, _), (0, _), (1, _)]) ⟨rfl, rfl, rfl, rfl, rfl, rfl, trivial⟩ <| hmemQ (X' := [_, _, _, _, _]) (S' := [_, _, _]) (fun _ m => m) <| hthen <| hseq <| hseq <| hreg <| hy (fun _ => y_fld rfl fa46_4 (by decide)) <| hy (fun m => y_ld1 rfl ag3 (ld_blk (m.blk 0 rfl) (i := 4) rfl)) <| hy (fun _ => y_gtr rfl rfl) <| hend <| hsub (ρ' := [(22, _), (5, _), (4, _), (3, _), (2, _), (0, _), (1, _)]) ⟨rfl, rfl, rfl, rfl, rfl, rfl, rfl, trivial⟩ <| hthen <| ?_
  refine hmemC (fun w m => (m.perm (takeR_perm [1] _ [_] _ rfl)).freeze) ?_
  refine hmemC (fun w m => m.asV 0 rfl .own) ?_
  refine hif rfl (fun h => ?_) (fun h => ?_)
  · refine hreg <| hy (fun _ => y_fld rfl fa46_4 (by decide)) <| hy (fun m => y_ld1 rfl ag3 (ld_blk (m.blk 0 rfl) (i := 4) rfl)) <| hy (fun _ => y_sub rfl rfl (w64 (by omega) (by omega))) <| hy (fun _ => y_fld rfl fa46_4 (by decide)) <| ?_
    refine hx0 (xh_st1a 0 rfl rfl rfl sz3 rfl (by first | exact Nat.le_of_ble_eq_true rfl | simp) ?_)
    refine hmemL (fun w m => m.eqX 0 rfl (show _ = RBlk g2 46 (dv room (.slice A1 n1 c1) (.slice Al nl cl) (.slice A_o2 (n3 + 1) c_o2) (lessP pw)) from by rw [lessP, if_pos h]; rfl)) ?_
    refine hend <| hsub (ρ' := [(22, _), (5, _), (4, _), (3, _), (2, _), (0, _), (1, _)]) ⟨rfl, rfl, rfl, rfl, rfl, rfl, rfl, trivial⟩ <| hmemQ (X' := [_, _, _, _]) (S' := [_, _, _, _, _]) (fun _ m => m) <| hthen <| hseq <| hreg <| hy (fun m => y_ldN rfl ag46 sz46 rfl ((m.blk 0 rfl).cells0)) <| ?_
    refine hx0 (xh_stA 2 rfl rfl rfl sz46 rfl dv_one rfl ?_)
    refine hend <| hsub (ρ' := [(22, _), (5, _), (4, _), (3, _), (2, _), (0, _), (1, _)]) ⟨rfl, rfl, rfl, rfl, rfl, rfl, rfl, trivial⟩ <| hmemQ (X' := [_, _, _, _]) (S' := [_, _, _, _, _]) (fun _ m => m) <| hthen <| hret <| ?_
    exact hretN trivial rfl rfl ag46 sz46 rfl (fun m => (m.blk 0 rfl).cells0) [] rfl [2, 0] rfl ⟨_, _, _, _, _, _, rfl, rfl, rfl, ⟨hp.1, hp.2, rfl⟩⟩
  · refine hmemC (fun w m => m.eqX 0 rfl (show _ = RBlk g2 46 (dv room (.slice A1 n1 c1) (.slice Al nl cl) (.slice A_o2 (n3 + 1) c_o2) (lessP pw)) from by rw [lessP, if_neg h])) ?_
    refine hcskip <| hthen <| hseq <| hreg <| hy (fun m => y_ldN rfl ag46 sz46 rfl ((m.blk 0 rfl).cells0)) <| ?_
    refine hx0 (xh_stA 2 rfl rfl rfl sz46 rfl dv_one rfl ?_)
    refine hend <| hsub (ρ' := [(22, _), (5, _), (4, _), (3, _), (2, _), (0, _), (1, _)]) ⟨rfl, rfl, rfl, rfl, rfl, rfl, rfl, trivial⟩ <| hmemQ (X' := [_, _, _, _]) (S' := [_, _, _, _, _]) (fun _ m => m) <| hthen <| hret <| ?_
    exact hretN trivial rfl rfl ag46 sz46 rfl (fun m => (m.blk 0 rfl).cells0) [] rfl [2, 0] rfl ⟨_, _, _, _, _, _, rfl, rfl, rfl, ⟨hp.1, hp.2, rfl⟩⟩
end Go.Proofs.YtfikjheicjamhaaGreatDoor
end
section
/- Contracts: the document's disk (layer 12): Write, Read. -/
set_option linter.unusedVariables false
set_option linter.unusedSimpArgs false
set_option maxRecDepth 20000
namespace Go.Proofs.YtfikjheicjamhaaGreatDoor
open Go.Eng Go.Hx
/-- a disk of the document -/
structure RD where
  room : Int
  seen : List FP
  lasts : List FP
  waits : List RC
  pw : Int
def RD.sz (d : RD) (p : List UInt8) : Nat := ((d.seen[findN d.seen p]?).map (·.2.length)).getD 0
def RD.writeE (d : RD) (p bb : List UInt8) : Int := if ¬ Named p then 1 else if d.pw = 0 then 6 else if d.room < (totF d.seen : Int) + (bb.length : Nat) - (d.sz p : Nat) then 5 else 0
def RD.did (d : RD) (k : Int) (p t bb : List UInt8) : RD := { d with seen := makeF d.seen k p t bb, waits := d.waits ++ [(k, p, t, bb)], pw := lessP d.pw }
def RD.write (d : RD) (p bb : List UInt8) : RD := if d.writeE p bb = 0 then d.did 0 p [] bb else d
structure ROk (d : RD) (k : Nat) : Prop where
  seen : d.seen.length ≤ k
  waits : d.waits.length ≤ k
  tot : totF d.seen ≤ k * 1048576
  p1 : -10 ≤ d.pw
  p2 : d.pw ≤ 1000000000000
theorem sz_le (d : RD) (p : List UInt8) : d.sz p ≤ totF d.seen := by
  unfold RD.sz
  cases h : d.seen[findN d.seen p]? with
  | none => simp
  | some x =>
    have h1 := totF_take h
    have h2 := totF_le d.seen (findN d.seen p + 1)
    simp only [Option.map_some, Option.getD_some]
    omega
def rv (d : RD) (A : Option Addr) (n c : Nat) (Al : Option Addr) (nl cl : Nat) (A3 : Option Addr) (n3 c3 : Nat) : List Value := dv d.room (.slice A n c) (.slice Al nl cl) (.slice A3 n3 c3) d.pw
theorem rnewC {room : Int} : Con Tryz.prog 35 [.int .i64 room] [] [] (fun v_ X_ S_ => v_ = (.agg (dv room (.slice none 0 0) (.slice none 0 0) (.slice none 0 0) (-1)).toArray) ∧ X_ = [] ∧ S_ = []) := by
  refine henter (N := 5) Tryz.func35 rfl rfl (by simp) fun b => ?_
  refine hseq <| hreg <| ?_
  refine hx (xh_alloc ti46 (fun g2 => ?_))
  refine hend <| hmemQ (X' := [_]) (S' := []) (fun _ m => m) <| hthen <| hseq <| hreg <| hy (fun _ => y_move rfl) <| hy (fun _ => yV (y_build ti46 rfl rfl (by kernel_rfl) (.cons (o := 0) (sz := 1) (by kernel_rfl) rfl rfl (Nat.le_of_ble_eq_true rfl) (.cons (o := 4) (sz := 1) (by kernel_rfl) rfl rfl (Nat.le_of_ble_eq_true rfl) .nil))) ((rfl : _ = Value.agg (dv room (.slice none 0 0) (.slice none 0 0) (.slice none 0 0) (-1)).toArray))) <| ?_
  refine hx0 (xh_stA 0 rfl rfl rfl sz46 rfl dv_one rfl ?_)
  refine hend <| hsub (ρ' := [(2, _), (0, _)]) ⟨rfl, rfl, trivial⟩ <| hmemQ (X' := [_]) (S' := []) (fun _ m => m) <| hthen <| hret <| ?_
  exact hretN trivial rfl rfl ag46 sz46 rfl (fun m => (m.blk 0 rfl).cells0) [] rfl [] rfl ⟨rfl, rfl, rfl⟩
theorem rwriteC {d : RD} {kk : Nat} {A Al A3 : Option Addr} {n c nl cl n3 c3 : Nat} {p bb : List UInt8} (hl : d.seen.length = n) (hw : d.waits.length = n3) (ok : ROk d kk) (hkk : kk ≤ 100000) (hpl : p.length ≤ 1000000) (hbb : bb.length ≤ 1000000) : Con Tryz.prog 40 [.agg (rv d A n c Al nl cl A3 n3 c3).toArray, .string (strOf p), .string (strOf bb)] [] [RRd 2 A n (fc d.seen), RRd 4 A3 n3 (wcs d.waits)] (fun v_ X_ S_ => ∃ A1 n1 c1 A2 n2 c2, v_ = (.tuple #[.agg (rv (d.write p bb) A1 n1 c1 Al nl cl A2 n2 c2).toArray, .int .i64 (d.writeE p bb)]) ∧ X_ = [] ∧ S_ = [RRd 2 A1 n1 (fc (d.write p bb).seen), RRd 4 A2 n2 (wcs (d.write p bb).waits)] ∧ ((d.write p bb).seen.length = n1 ∧ (d.write p bb).waits.length = n2)) := by
  have hk1 := ok.seen
  have hk2 := ok.waits
  have hk3 := ok.tot
  have hk4 := ok.p1
  have hk5 := ok.p2
  have hsz := sz_le d p
  refine henter (N := 50) Tryz.func40 rfl rfl (by simp) fun b => ?_
  refine hfactC (fun m => rdX (m.rd 0 rfl)) ?_
  rintro ⟨hl_r, hA_r⟩
  refine hfactC (fun m => rdX (m.rd 1 rfl)) ?_
  rintro ⟨hl_w, hA_w⟩
  refine hseq <| hreg <| ?_
  refine hx (xh_box rfl (fun g3 => ?_))
  refine hmemL (fun w m => m.eqX 0 rfl (show _ = RBlk g3 46 (rv d A n c Al nl cl A3 n3 c3) from congrArg (RBlk _ _) (cells_agg _))) ?_
  refine hx (xh_alloc ti46 (fun g6 => ?_))
  refine hy (fun _ => y_assign rfl) <| hend <| hmemQ (X' := [_, _]) (S' := [_, _]) (fun _ m => m) <| hthen <| hseq <| hreg <| hy (fun _ => y_move rfl) <| ?_
  refine hx (xh_call rfl Tryz.call106 (rnamedC (by omega)) [] rfl [] rfl ?_)
  rintro _ _ _ ⟨rfl, rfl, rfl⟩
  refine hy (fun _ => y_assign rfl) <| hend <| hsub (ρ' := [(8, _), (7, _), (6, _), (3, _), (0, _), (1, _), (2, _)]) ⟨rfl, rfl, rfl, rfl, rfl, rfl, rfl, trivial⟩ <| hmemQ (X' := [_, _]) (S' := [_, _]) (fun _ m => m) <| hthen <| hseq <| hseq <| hreg <| hy (fun _ => y_move rfl) <| hy (fun _ => y_notp rfl) <| hend <| hsub (ρ' := [(14, _), (8, _), (7, _), (6, _), (3, _), (0, _), (1, _), (2, _)]) ⟨rfl, rfl, rfl, rfl, rfl, rfl, rfl, rfl, trivial⟩ <| hthen <| ?_
  refine hif rfl (fun hN => ?_) (fun hN => ?_)
  · have hE : d.writeE p bb = 1 := by rw [RD.writeE, if_pos hN]
    have hW : d.write p bb = d := by rw [RD.write, if_neg (by rw [hE]; decide)]
    rw [hE, hW]
    refine hseq <| hreg <| hy (fun m => yV (y_ldN rfl ag46 sz46 rfl ((m.blk 1 rfl).cells0)) ((rfl : _ = Value.agg (rv d A n c Al nl cl A3 n3 c3).toArray))) <| ?_
    refine hx0 (xh_stA 0 rfl rfl rfl sz46 rfl dv_one rfl ?_)
    refine hy (fun _ => y_assign rfl) <| hend <| hsub (ρ' := [(7, _), (14, _), (8, _), (6, _), (3, _), (0, _), (1, _), (2, _)]) ⟨rfl, rfl, rfl, rfl, rfl, rfl, rfl, rfl, trivial⟩ <| hmemQ (X' := [_, _]) (S' := [_, _]) (fun _ m => m) <| hthen <| hret <| hthen_ret <| ?_
    exact hretN1 trivial rfl rfl rfl ag46 sz46 rfl (fun m => (m.blk 0 rfl).cells0) [] rfl [0, 1] rfl ⟨_, _, _, _, _, _, rfl, rfl, rfl, ⟨hl, hw⟩⟩
  · refine hcskip <| hthen <| hseq <| hseq <| hreg <| hy (fun _ => y_fld rfl fa46_4 (by decide)) <| hy (fun m => y_ld1 rfl ag3 (ld_blk (m.blk 1 rfl) (i := 4) rfl)) <| hy (fun _ => y_eql rfl rfl) <| hend <| hsub (ρ' := [(18, _), (14, _), (8, _), (7, _), (6, _), (3, _), (0, _), (1, _), (2, _)]) ⟨rfl, rfl, rfl, rfl, rfl, rfl, rfl, rfl, rfl, trivial⟩ <| hthen <| ?_
    refine hif rfl (fun h0 => ?_) (fun h0 => ?_)
    · have hE : d.writeE p bb = 6 := by rw [RD.writeE, if_neg hN, if_pos h0]
      have hW : d.write p bb = d := by rw [RD.write, if_neg (by rw [hE]; decide)]
      rw [hE, hW]
      refine hseq <| hreg <| hy (fun m => yV (y_ldN rfl ag46 sz46 rfl ((m.blk 1 rfl).cells0)) ((rfl : _ = Value.agg (rv d A n c Al nl cl A3 n3 c3).toArray))) <| ?_
      refine hx0 (xh_stA 0 rfl rfl rfl sz46 rfl dv_one rfl ?_)
      refine hy (fun _ => y_assign rfl) <| hend <| hsub (ρ' := [(7, _), (18, _), (14, _), (8, _), (6, _), (3, _), (0, _), (1, _), (2, _)]) ⟨rfl, rfl, rfl, rfl, rfl, rfl, rfl, rfl, rfl, trivial⟩ <| hmemQ (X' := [_, _]) (S' := [_, _]) (fun _ m => m) <| hthen <| hret <| hthen_ret <| ?_
      exact hretN1 trivial rfl rfl rfl ag46 sz46 rfl (fun m => (m.blk 0 rfl).cells0) [] rfl [0, 1] rfl ⟨_, _, _, _, _, _, rfl, rfl, rfl, ⟨hl, hw⟩⟩
    · have hsb := strOf_size bb
      refine hcskip <| hthen <| hseq <| hreg <| hy (fun m => yV (y_ldN rfl ag46 sz46 rfl ((m.blk 1 rfl).cells0)) ((rfl : _ = Value.agg (rv d A n c Al nl cl A3 n3 c3).toArray))) <| ?_
      refine hx (xh_call rfl Tryz.call96 (rusedC (by omega) (by omega) (by omega)) [] rfl [0] rfl ?_)
      rintro _ _ _ ⟨rfl, rfl, rfl⟩
      refine hy (fun _ => y_move rfl) <| hy (fun _ => y_lenStr rfl Tryz.underlying9) <| hy (fun _ => y_add rfl rfl (w64 (by omega) (by omega))) <| hy (fun _ => y_assign rfl) <| hend <| hsub (ρ' := [(9, _), (18, _), (14, _), (8, _), (7, _), (6, _), (3, _), (0, _), (1, _), (2, _)]) ⟨rfl, rfl, rfl, rfl, rfl, rfl, rfl, rfl, rfl, rfl, trivial⟩ <| hmemQ (X' := [_, _]) (S' := [_, _]) (fun _ m => m) <| hthen <| hseq <| hreg <| hy (fun _ => y_fld rfl fa46_1 (by decide)) <| hy (fun m => y_ld1 rfl ag43 (ld_blk (m.blk 1 rfl) (i := 1) rfl)) <| hy (fun _ => y_move rfl) <| ?_
      refine hx (xh_call rfl Tryz.call107 (rfindC (by omega) (by omega)) [] rfl [0] rfl ?_)
      rintro _ _ _ ⟨rfl, rfl, rfl⟩
      refine hy (fun _ => y_assign rfl) <| hend <| hsub (ρ' := [(10, _), (9, _), (18, _), (14, _), (8, _), (7, _), (6, _), (3, _), (0, _), (1, _), (2, _)]) ⟨rfl, rfl, rfl, rfl, rfl, rfl, rfl, rfl, rfl, rfl, rfl, trivial⟩ <| hmemQ (X' := [_, _]) (S' := [_, _]) (fun _ m => m) <| hthen <| hseq <| hseq <| hreg <| hy (fun _ => y_move rfl) <| hy (fun _ => y_geq rfl rfl) <| hend <| hsub (ρ' := [(30, _), (10, _), (9, _), (18, _), (14, _), (8, _), (7, _), (6, _), (3, _), (0, _), (1, _), (2, _)]) ⟨rfl, rfl, rfl, rfl, rfl, rfl, rfl, rfl, rfl, rfl, rfl, rfl, trivial⟩ <| hthen <| ?_
      refine hif rfl (fun hf => ?_) (fun hf => ?_)
      · obtain ⟨x0, hfx⟩ : ∃ x0, d.seen[findN d.seen p]? = some x0 := by
          cases hq : d.seen[findN d.seen p]? with
          | none => exact absurd (findI_neg.2 hq) (by omega)
          | some x0 => exact ⟨x0, rfl⟩
        have hfl : findN d.seen p < d.seen.length := (List.getElem?_eq_some_iff.1 hfx).1
        obtain ⟨f0, f1⟩ := fc_get d.seen _ x0 hfx
        have hfi : findI d.seen p = (findN d.seen p : Nat) := by rw [findI, if_pos hfl]
        have hsx := strOf_size x0.2
        have hs0 : d.sz p = x0.2.length := by unfold RD.sz; rw [hfx]; rfl
        refine hreg <| hy (fun _ => y_move rfl) <| hy (fun _ => y_fld rfl fa46_1 (by decide)) <| hy (fun m => y_ld1 rfl ag43 (ld_blk (m.blk 1 rfl) (i := 1) rfl)) <| hy (fun _ => y_move rfl) <| hy (fun _ => y_idxS rfl rfl Tryz.underlying43 sz124 hA_r hfi.symm (by omega)) <| hy (fun _ => y_fld rfl fa124_1 (by decide)) <| hy (fun m => yV (y_ld1 rfl ag9 (rd_fld (m.rd 0 rfl) f1)) ((rfl : _ = Value.string (strOf x0.2)))) <| hy (fun _ => y_lenStr rfl Tryz.underlying9) <| hy (fun _ => y_sub rfl rfl (w64 (by omega) (by omega))) <| hy (fun _ => y_assign rfl) <| hend <| hsub (ρ' := [(9, _), (30, _), (10, _), (18, _), (14, _), (8, _), (7, _), (6, _), (3, _), (0, _), (1, _), (2, _)]) ⟨rfl, rfl, rfl, rfl, rfl, rfl, rfl, rfl, rfl, rfl, rfl, rfl, trivial⟩ <| hthen <| hseq <| hseq <| hreg <| hy (fun _ => y_move rfl) <| hy (fun _ => y_fld rfl fa46_0 (by decide)) <| hy (fun m => y_ld1 rfl ag3 (ld_blk (m.blk 1 rfl) (i := 0) rfl)) <| hy (fun _ => y_gtr rfl rfl) <| hend <| hsub (ρ' := [(43, _), (9, _), (30, _), (10, _), (18, _), (14, _), (8, _), (7, _), (6, _), (3, _), (0, _), (1, _), (2, _)]) ⟨rfl, rfl, rfl, rfl, rfl, rfl, rfl, rfl, rfl, rfl, rfl, rfl, rfl, trivial⟩ <| hthen <| ?_
        refine hif rfl (fun hR => ?_) (fun hR => ?_)
        · have hE : d.writeE p bb = 5 := by rw [RD.writeE, if_neg hN, if_neg h0, if_pos (by omega)]
          have hW : d.write p bb = d := by rw [RD.write, if_neg (by rw [hE]; decide)]
          rw [hE, hW]
          refine hseq <| hreg <| hy (fun m => yV (y_ldN rfl ag46 sz46 rfl ((m.blk 1 rfl).cells0)) ((rfl : _ = Value.agg (rv d A n c Al nl cl A3 n3 c3).toArray))) <| ?_
          refine hx0 (xh_stA 0 rfl rfl rfl sz46 rfl dv_one rfl ?_)
          refine hy (fun _ => y_assign rfl) <| hend <| hsub (ρ' := [(7, _), (43, _), (9, _), (30, _), (10, _), (18, _), (14, _), (8, _), (6, _), (3, _), (0, _), (1, _), (2, _)]) ⟨rfl, rfl, rfl, rfl, rfl, rfl, rfl, rfl, rfl, rfl, rfl, rfl, rfl, trivial⟩ <| hmemQ (X' := [_, _]) (S' := [_, _]) (fun _ m => m) <| hthen <| hret <| hthen_ret <| ?_
          exact hretN1 trivial rfl rfl rfl ag46 sz46 rfl (fun m => (m.blk 0 rfl).cells0) [] rfl [0, 1] rfl ⟨_, _, _, _, _, _, rfl, rfl, rfl, ⟨hl, hw⟩⟩
        · have hE : d.writeE p bb = 0 := by rw [RD.writeE, if_neg hN, if_neg h0, if_neg (by omega)]
          have hW : d.write p bb = d.did 0 p [] bb := by rw [RD.write, if_pos hE]
          rw [hE, hW]
          refine hcskip <| hthen <| hseq <| hreg <| hy (fun m => yV (y_ldN rfl ag46 sz46 rfl ((m.blk 1 rfl).cells0)) ((rfl : _ = Value.agg (dv d.room (.slice A n c) (.slice Al nl cl) (.slice A3 n3 c3) d.pw).toArray))) <| hy (fun _ => y_move rfl) <| hy (fun _ => y_move rfl) <| hy (fun _ => yV (y_build ti175 rfl rfl (by kernel_rfl) (.cons (o := 1) (sz := 1) (by kernel_rfl) rfl rfl (Nat.le_of_ble_eq_true rfl) (.cons (o := 3) (sz := 1) (by kernel_rfl) rfl rfl (Nat.le_of_ble_eq_true rfl) .nil))) ((rfl : _ = Value.agg (cv 0 p [] bb).toArray))) <| ?_
          refine hx (xh_call rfl Tryz.call108 (rdoC (by omega) (by omega) (by omega) (by omega) (by omega) (by omega)) [] rfl [0, 1] rfl ?_)
          rintro _ _ _ ⟨A1, n1, c1, A2, n2, c2, rfl, rfl, rfl, hp⟩
          refine hfactL (fun m => rdX (m.rd 0 rfl)) ?_
          rintro ⟨hl_q, hA_q⟩
          refine hfactL (fun m => rdX (m.rd 1 rfl)) ?_
          rintro ⟨hl_u, hA_u⟩
          refine hx0 (xh_stA 0 rfl rfl rfl sz46 rfl dv_one rfl ?_)
          refine hy (fun _ => y_assign rfl) <| hend <| hsub (ρ' := [(7, _), (43, _), (9, _), (30, _), (10, _), (18, _), (14, _), (8, _), (6, _), (3, _), (0, _), (1, _), (2, _)]) ⟨rfl, rfl, rfl, rfl, rfl, rfl, rfl, rfl, rfl, rfl, rfl, rfl, rfl, trivial⟩ <| hmemQ (X' := [_, _]) (S' := [_, _, _, _]) (fun _ m => m) <| hthen <| hret <| ?_
          exact hretN1 trivial rfl rfl rfl ag46 sz46 rfl (fun m => (m.blk 0 rfl).cells0) [] rfl [0, 1] rfl ⟨_, _, _, _, _, _, rfl, rfl, rfl, ⟨hp.1.symm, by rw [hp.2.2, ← hw]; exact List.length_append⟩⟩
      · have hs0 : d.sz p = 0 := by
          unfold RD.sz
          rw [findI_neg.1 (by omega)]; rfl
        refine hcskip <| hthen <| hseq <| hseq <| hreg <| hy (fun _ => y_move rfl) <| hy (fun _ => y_fld rfl fa46_0 (by decide)) <| hy (fun m => y_ld1 rfl ag3 (ld_blk (m.blk 1 rfl) (i := 0) rfl)) <| hy (fun _ => y_gtr rfl rfl) <| hend <| hsub (ρ' := [(43, _), (30, _), (10, _), (9, _), (18, _), (14, _), (8, _), (7, _), (6, _), (3, _), (0, _), (1, _), (2, _)]) ⟨rfl, rfl, rfl, rfl, rfl, rfl, rfl, rfl, rfl, rfl, rfl, rfl, rfl, trivial⟩ <| hthen <| ?_
        refine hif rfl (fun hR => ?_) (fun hR => ?_)
        · have hE : d.writeE p bb = 5 := by rw [RD.writeE, if_neg hN, if_neg h0, if_pos (by omega)]
          have hW : d.write p bb = d := by rw [RD.write, if_neg (by rw [hE]; decide)]
          rw [hE, hW]
          refine hseq <| hreg <| hy (fun m => yV (y_ldN rfl ag46 sz46 rfl ((m.blk 1 rfl).cells0)) ((rfl : _ = Value.agg (rv d A n c Al nl cl A3 n3 c3).toArray))) <| ?_
          refine hx0 (xh_stA 0 rfl rfl rfl sz46 rfl dv_one rfl ?_)
          refine hy (fun _ => y_assign rfl) <| hend <| hsub (ρ' := [(7, _), (43, _), (30, _), (10, _), (9, _), (18, _), (14, _), (8, _), (6, _), (3, _), (0, _), (1, _), (2, _)]) ⟨rfl, rfl, rfl, rfl, rfl, rfl, rfl, rfl, rfl, rfl, rfl, rfl, rfl, trivial⟩ <| hmemQ (X' := [_, _]) (S' := [_, _]) (fun _ m => m) <| hthen <| hret <| hthen_ret <| ?_
          exact hretN1 trivial rfl rfl rfl ag46 sz46 rfl (fun m => (m.blk 0 rfl).cells0) [] rfl [0, 1] rfl ⟨_, _, _, _, _, _, rfl, rfl, rfl, ⟨hl, hw⟩⟩
        · have hE : d.writeE p bb = 0 := by rw [RD.writeE, if_neg hN, if_neg h0, if_neg (by omega)]
          have hW : d.write p bb = d.did 0 p [] bb := by rw [RD.write, if_pos hE]
          rw [hE, hW]
          refine hcskip <| hthen <| hseq <| hreg <| hy (fun m => yV (y_ldN rfl ag46 sz46 rfl ((m.blk 1 rfl).cells0)) ((rfl : _ = Value.agg (dv d.room (.slice A n c) (.slice Al nl cl) (.slice A3 n3 c3) d.pw).toArray))) <| hy (fun _ => y_move rfl) <| hy (fun _ => y_move rfl) <| hy (fun _ => yV (y_build ti175 rfl rfl (by kernel_rfl) (.cons (o := 1) (sz := 1) (by kernel_rfl) rfl rfl (Nat.le_of_ble_eq_true rfl) (.cons (o := 3) (sz := 1) (by kernel_rfl) rfl rfl (Nat.le_of_ble_eq_true rfl) .nil))) ((rfl : _ = Value.agg (cv 0 p [] bb).toArray))) <| ?_
          refine hx (xh_call rfl Tryz.call108 (rdoC (by omega) (by omega) (by omega) (by omega) (by omega) (by omega)) [] rfl [0, 1] rfl ?_)
          rintro _ _ _ ⟨A1, n1, c1, A2, n2, c2, rfl, rfl, rfl, hp⟩
          refine hfactL (fun m => rdX (m.rd 0 rfl)) ?_
          rintro ⟨hl_q, hA_q⟩
          refine hfactL (fun m => rdX (m.rd 1 rfl)) ?_
          rintro ⟨hl_u, hA_u⟩
          refine hx0 (xh_stA 0 rfl rfl rfl sz46 rfl dv_one rfl ?_)
          refine hy (fun _ => y_assign rfl) <| hend <| hsub (ρ' := [(7, _), (43, _), (30, _), (10, _), (9, _), (18, _), (14, _), (8, _), (6, _), (3, _), (0, _), (1, _), (2, _)]) ⟨rfl, rfl, rfl, rfl, rfl, rfl, rfl, rfl, rfl, rfl, rfl, rfl, rfl, trivial⟩ <| hmemQ (X' := [_, _]) (S' := [_, _, _, _]) (fun _ m => m) <| hthen <| hret <| ?_
          exact hretN1 trivial rfl rfl rfl ag46 sz46 rfl (fun m => (m.blk 0 rfl).cells0) [] rfl [0, 1] rfl ⟨_, _, _, _, _, _, rfl, rfl, rfl, ⟨hp.1.symm, by rw [hp.2.2, ← hw]; exact List.length_append⟩⟩
def RD.readE (d : RD) (p : List UInt8) : Int := if d.pw = 0 then 6 else if d.seen[findN d.seen p]? = none then 4 else 0
def RD.readB (d : RD) (p : List UInt8) : List UInt8 := if d.pw = 0 then [] else ((d.seen[findN d.seen p]?).map (·.2)).getD []
theorem rreadC {d : RD} {kk : Nat} {A Al A3 : Option Addr} {n c nl cl n3 c3 : Nat} {p : List UInt8} (hl : d.seen.length = n) (ok : ROk d kk) (hkk : kk ≤ 100000) : Con Tryz.prog 64 [.agg (rv d A n c Al nl cl A3 n3 c3).toArray, .string (strOf p)] [] [RRd 2 A n (fc d.seen)] (fun v_ X_ S_ => v_ = (.tuple #[.string (strOf (d.readB p)), .int .i64 (d.readE p)]) ∧ X_ = [] ∧ S_ = []) := by
  have hk1 := ok.seen
  refine henter (N := 22) Tryz.func64 rfl rfl (by simp) fun b => ?_
  refine hfactC (fun m => rdX (m.rd 0 rfl)) ?_
  rintro ⟨hl_r, hA_r⟩
  refine hseq <| hreg <| ?_
  refine hx (xh_box rfl (fun g2 => ?_))
  refine hmemL (fun w m => m.eqX 0 rfl (show _ = RBlk g2 46 (rv d A n c Al nl cl A3 n3 c3) from congrArg (RBlk _ _) (cells_agg _))) ?_
  refine hy (fun _ => y_assign rfl) <| hy (fun _ => y_assign rfl) <| hend <| hmemQ (X' := [_]) (S' := [_]) (fun _ m => m) <| hthen <| hseq <| hreg <| hy (fun _ => y_fld rfl fa46_1 (by decide)) <| hy (fun m => y_ld1 rfl ag43 (ld_blk (m.blk 0 rfl) (i := 1) rfl)) <| hy (fun _ => y_move rfl) <| ?_
  refine hx (xh_call rfl Tryz.call107 (rfindC (by omega) (by omega)) [] rfl [0] rfl ?_)
  rintro _ _ _ ⟨rfl, rfl, rfl⟩
  refine hy (fun _ => y_assign rfl) <| hend <| hsub (ρ' := [(6, _), (5, _), (4, _), (2, _), (0, _), (1, _)]) ⟨rfl, rfl, rfl, rfl, rfl, rfl, trivial⟩ <| hmemQ (X' := [_]) (S' := [_]) (fun _ m => m) <| hthen <| hseq <| hseq <| hreg <| hy (fun _ => y_fld rfl fa46_4 (by decide)) <| hy (fun m => y_ld1 rfl ag3 (ld_blk (m.blk 0 rfl) (i := 4) rfl)) <| hy (fun _ => y_eql rfl rfl) <| hend <| hsub (ρ' := [(13, _), (6, _), (5, _), (4, _), (2, _), (0, _), (1, _)]) ⟨rfl, rfl, rfl, rfl, rfl, rfl, rfl, trivial⟩ <| hthen <| ?_
  refine hif rfl (fun h0 => ?_) (fun h0 => ?_)
  · have hE : d.readE p = 6 := by rw [RD.readE, if_pos h0]
    have hB : d.readB p = [] := by rw [RD.readB, if_pos h0]
    rw [hE, hB]
    refine hseq <| hreg <| hy (fun _ => y_assign rfl) <| hy (fun _ => y_assign rfl) <| hend <| hthen <| hret <| hthen_ret <| ?_
    exact hret2 trivial rfl rfl rfl [] rfl [] rfl ⟨rfl, rfl, rfl⟩
  · refine hcskip <| hthen <| hseq <| hseq <| hreg <| hy (fun _ => y_move rfl) <| hy (fun _ => y_lss rfl rfl) <| hend <| hsub (ρ' := [(15, _), (13, _), (6, _), (5, _), (4, _), (2, _), (0, _), (1, _)]) ⟨rfl, rfl, rfl, rfl, rfl, rfl, rfl, rfl, trivial⟩ <| hthen <| ?_
    refine hif rfl (fun h1 => ?_) (fun h1 => ?_)
    · have hq := findI_neg.1 h1
      have hE : d.readE p = 4 := by rw [RD.readE, if_neg h0, if_pos hq]
      have hB : d.readB p = [] := by rw [RD.readB, if_neg h0, hq]; rfl
      rw [hE, hB]
      refine hseq <| hreg <| hy (fun _ => y_assign rfl) <| hy (fun _ => y_assign rfl) <| hend <| hthen <| hret <| hthen_ret <| ?_
      exact hret2 trivial rfl rfl rfl [] rfl [] rfl ⟨rfl, rfl, rfl⟩
    · obtain ⟨x0, hfx⟩ : ∃ x0, d.seen[findN d.seen p]? = some x0 := by
        cases hq : d.seen[findN d.seen p]? with
        | none => exact absurd (findI_neg.2 hq) h1
        | some x0 => exact ⟨x0, rfl⟩
      have hfl : findN d.seen p < d.seen.length := (List.getElem?_eq_some_iff.1 hfx).1
      obtain ⟨f0, f1⟩ := fc_get d.seen _ x0 hfx
      have hfi : findI d.seen p = (findN d.seen p : Nat) := by rw [findI, if_pos hfl]
      have hE : d.readE p = 0 := by rw [RD.readE, if_neg h0, if_neg (by rw [hfx]; exact fun e => by cases e)]
      have hB : d.readB p = x0.2 := by rw [RD.readB, if_neg h0, hfx]; rfl
      rw [hE, hB]
      refine hcskip <| hthen <| hseq <| hreg <| hy (fun _ => y_fld rfl fa46_1 (by decide)) <| hy (fun m => y_ld1 rfl ag43 (ld_blk (m.blk 0 rfl) (i := 1) rfl)) <| hy (fun _ => y_move rfl) <| hy (fun _ => y_idxS rfl rfl Tryz.underlying43 sz124 hA_r hfi.symm (by omega)) <| hy (fun _ => y_fld rfl fa124_1 (by decide)) <| hy (fun m => yV (y_ld1 rfl ag9 (rd_fld (m.rd 0 rfl) f1)) ((rfl : _ = Value.string (strOf x0.2)))) <| hy (fun _ => y_assign rfl) <| hy (fun _ => y_assign rfl) <| hend <| hsub (ρ' := [(5, _), (4, _), (15, _), (13, _), (6, _), (2, _), (0, _), (1, _)]) ⟨rfl, rfl, rfl, rfl, rfl, rfl, rfl, rfl, trivial⟩ <| hthen <| hret <| ?_
      exact hret2 trivial rfl rfl rfl [] rfl [] rfl ⟨rfl, rfl, rfl⟩
end Go.Proofs.YtfikjheicjamhaaGreatDoor
end
section
/- The law DiskPower, computed. -/
set_option linter.unusedVariables false
set_option linter.unusedSimpArgs false
set_option maxRecDepth 20000
namespace Go.Proofs.YtfikjheicjamhaaGreatDoor
open Go.Eng Go.Hx
def DSt.powered (st : DSt) (n : Int) : DSt := { st with power := max n (-1) }
theorem powerC {g : Nat} {st : DSt} {n : Int} : Con Tryz.prog 20 [.pointer (some ⟨g, 0, none⟩), .int .i64 n] [RDisk g st] [] (fun v_ X_ S_ => v_ = (.tuple #[]) ∧ X_ = [RDisk g (st.powered n)] ∧ S_ = []) := by
  refine henter (N := 9) Tryz.func20 rfl rfl (by simp) fun b => ?_
  refine hmemC (fun w m => (m.perm (takeR_perm [0] _ [_] _ rfl)).unpack) ?_
  refine hreg <| hy (fun _ => y_move rfl) <| hy (fun _ => y_move rfl) <| hy (fun _ => y_max rfl rfl) <| hy (fun _ => y_nilp rfl) <| hy (fun _ => y_fld rfl fa132_4 (by decide)) <| ?_
  refine hx0 (xh_st1a 0 rfl rfl rfl sz3 rfl (by first | exact Nat.le_of_ble_eq_true rfl | simp) ?_)
  refine hend <| hsub (ρ' := [(0, _), (1, _)]) ⟨rfl, rfl, trivial⟩ <| hmemQ (X' := [_, _, _, _, _]) (S' := []) (fun _ m => m) <| ?_
  refine hmemQ (fun w m => m.eqX 0 rfl (show _ = RBlk g 132 (dcells (st.powered n)) from by simp [dcells, DSt.powered])) ?_
  refine hmemQ (X' := RDisk g (st.powered n) :: _) (fun w m => (m.perm (takeR_perm [0, 0, 0, 0, 0] _ [_, _, _, _, _] _ rfl)).pack) ?_
  exact hret0 trivial rfl [0] rfl [] rfl ⟨rfl, rfl, rfl⟩
theorem waitsC {g : Nat} {st : DSt} : Con Tryz.prog 61 [.pointer (some ⟨g, 0, none⟩)] [RDisk g st] [] (fun v_ X_ S_ => v_ = (.int .i64 (st.waits.length : Nat)) ∧ X_ = [RDisk g st] ∧ S_ = []) := by
  refine henter (N := 8) Tryz.func61 rfl rfl (by simp) fun b => ?_
  refine hmemC (fun w m => (m.perm (takeR_perm [0] _ [_] _ rfl)).unpack) ?_
  refine hseq <| hreg <| hy (fun _ => y_assign rfl) <| hend <| hthen <| hseq <| hreg <| hy (fun _ => y_move rfl) <| hy (fun _ => y_nilp rfl) <| hy (fun _ => y_fld rfl fa132_3 (by decide)) <| hy (fun m => y_ld1 rfl ag130 (ld_blk (m.blk 0 rfl) rfl)) <| hy (fun _ => y_lenS rfl Tryz.underlying130) <| hy (fun _ => y_assign rfl) <| hend <| hsub (ρ' := [(2, _), (0, _)]) ⟨rfl, rfl, trivial⟩ <| hthen <| hret <| ?_
  refine hmemQ (X' := RDisk g st :: _) (fun w m => (m.perm (takeR_perm [0, 0, 0, 0, 0] _ [_, _, _, _, _] _ rfl)).pack) ?_
  exact hret1 trivial rfl rfl [0] rfl [] rfl ⟨rfl, rfl, rfl⟩
theorem tot_aput' : ∀ (l : Files) (p : List UInt8) (r : BRow), tot (aput l p r) + ((aget l p).map (·.n)).getD 0 = tot l + r.n
  | [], p, r => by simp [aput, aget, tot]
  | (k, u) :: q, p, r => by
    have := tot_aput' q p r
    simp only [aput, aget]
    split
    · simp [tot]; omega
    · simp only [tot, List.map_cons, List.sum_cons] at this ⊢
      omega
def nn : List UInt8 := [110, 111, 110, 101]
def szA (st : DSt) : Nat := ((aget st.seen [97]).map (·.n)).getD 0
/-- what the loop keeps -/
structure PInv (st : DSt) (i k : Nat) : Prop where
  room : st.room = 100
  power : st.power = ((k - i : Nat) : Int)
  waits : st.waits.length = min i k
  wr : Wr st
  lasts : st.lasts = []
  nno : aget st.seen nn = none
  ttt : tot st.seen = szA st ∧ szA st ≤ 1
theorem PInv.init {k gs gl : Nat} : PInv ((dinit 100 gs gl).powered k) 0 k := ⟨rfl, by simp [DSt.powered]; omega, by simp [DSt.powered, dinit], fun c hc => (by cases hc), rfl, rfl, rfl, Nat.zero_le _⟩
theorem PInv.more {st : DSt} {i k : Nat} (h : PInv st i k) (hi : i < k) {r : BRow} (hr : r.n = 1) {A : Option Addr} {c : Nat} : PInv (st.wrote [97] r A c) (i + 1) k := by
  have h4 := tot_aput' st.seen [97] r
  have ht := h.ttt
  have hs : szA (st.wrote [97] r A c) = 1 := by
    show ((aget (aput st.seen [97] r) [97]).map (·.n)).getD 0 = 1
    rw [aget_aput, if_pos rfl]; exact hr
  refine ⟨h.room, ?_, ?_, ?_, h.lasts, ?_, ?_, by omega⟩
  · have := h.power
    show (if 0 < st.power then st.power - 1 else st.power) = _
    rw [if_pos (by omega)]; omega
  · have := h.waits
    show (st.waits ++ [Chg.written [97] r]).length = _
    rw [List.length_append]; simp; omega
  · intro c hc
    rcases List.mem_append.1 (show c ∈ st.waits ++ [Chg.written [97] r] from hc) with h' | h'
    · exact h.wr c h'
    · exact ⟨_, _, List.mem_singleton.1 h'⟩
  · show aget (aput st.seen [97] r) nn = _
    rw [aget_aput, if_neg (by decide)]; exact h.nno
  · rw [hs]
    show tot (aput st.seen [97] r) = 1
    have : ((aget st.seen [97]).map (·.n)).getD 0 = szA st := rfl
    omega
theorem PInv.write {st : DSt} {i k : Nat} (h : PInv st i k) : writeE st [97] 1 = if i < k then 0 else 6 := by
  have h1 := h.ttt
  have h2 := h.power
  have h3 := h.room
  have h4 : ((aget st.seen [97]).map (·.n)).getD 0 = szA st := rfl
  rw [writeE, if_neg (not_not_intro (named1 (by decide))), h4]
  by_cases hi : i < k
  · rw [if_neg (by omega), if_neg (by omega), if_pos hi]
  · rw [if_pos (by omega), if_neg hi]
theorem PInv.found {st : DSt} {i k : Nat} (h : PInv st i k) : foundE st nn = if i < k then 4 else 6 := by
  have h2 := h.power
  rw [foundE]
  by_cases hi : i < k
  · rw [if_neg (by omega), if_pos h.nno, if_pos hi]
  · rw [if_pos (by omega), if_neg hi]
theorem insNoC  : Con Tryz.prog 192 [.slice none 0 0, .int .i64 0, .int .i64 0] [] [] (fun v_ X_ S_ => v_ = (.tuple #[]) ∧ X_ = [] ∧ S_ = []) := by
  refine henter (N := 49) Tryz.func192 rfl rfl (by simp) fun b => ?_
  refine hseq <| hreg <| hy (fun _ => y_move rfl) <| hy (fun _ => y_add rfl rfl (w64 (by omega) (by omega))) <| hy (fun _ => y_assign rfl) <| hend <| hsub (ρ' := [(6, _), (0, _), (1, _), (2, _)]) ⟨rfl, rfl, rfl, rfl, trivial⟩ <| hthen <| hblock <| ?_
  refine hloop1 (fun u => 0) (fun u => [(6, .int .i64 1)]) (fun u => []) (fun u => []) (fun u => u = 0) 0 [(0, _), (1, _), (2, _)] ⟨rfl, rfl, rfl, trivial⟩ [] rfl [] rfl (rfl) ⟨rfl, trivial⟩ (fun u hI => ?_)
  refine hseq <| hseq <| hreg <| hy (fun _ => y_move rfl) <| hy (fun _ => y_move rfl) <| hy (fun _ => y_lss rfl rfl) <| hend <| hsub (ρ' := [(12, _), (6, _), (0, _), (1, _), (2, _)]) ⟨rfl, rfl, rfl, rfl, rfl, trivial⟩ <| hthen <| ?_
  refine hiff rfl (rfl) ?_
  refine hexit <| hthen_exit <| hthen_exit <| hqblock_exit <| ?_
  exact hret0 trivial rfl [] rfl [] rfl ⟨rfl, rfl, rfl⟩
theorem len64NoC  : Con Tryz.prog 202 [.int .u64 0] [] [] (fun v_ X_ S_ => v_ = (.int .i64 0) ∧ X_ = [] ∧ S_ = []) := by
  refine henter (N := 25) Tryz.func202 rfl rfl (by simp) fun b => ?_
  refine hseq <| hreg <| hy (fun _ => y_assign rfl) <| hend <| hthen <| hseq <| hseq <| hreg <| hy (fun _ => y_move rfl) <| hy (fun _ => y_geq rfl rfl) <| hend <| hsub (ρ' := [(4, _), (2, _), (0, _)]) ⟨rfl, rfl, rfl, trivial⟩ <| hthen <| ?_
  refine hiff rfl (rfl) ?_
  refine hcskip <| hthen <| hseq <| hseq <| hreg <| hy (fun _ => y_move rfl) <| hy (fun _ => y_geq rfl rfl) <| hend <| hsub (ρ' := [(8, _), (4, _), (2, _), (0, _)]) ⟨rfl, rfl, rfl, rfl, trivial⟩ <| hthen <| ?_
  refine hiff rfl (rfl) ?_
  refine hcskip <| hthen <| hseq <| hseq <| hreg <| hy (fun _ => y_move rfl) <| hy (fun _ => y_geq rfl rfl) <| hend <| hsub (ρ' := [(14, _), (8, _), (4, _), (2, _), (0, _)]) ⟨rfl, rfl, rfl, rfl, rfl, trivial⟩ <| hthen <| ?_
  refine hiff rfl (rfl) ?_
  refine hcskip <| hthen <| hseq <| hreg <| hy (fun _ => y_move rfl) <| hy (fun _ => y_move rfl) <| hy (fun _ => y_conv rfl Tryz.underlying250 Tryz.underlying5 (show IntKind.u8.wrap 0 = 0 from rfl)) <| hy (fun _ => y_idxStr rfl rfl Tryz.underlying9 (show ((0 : Nat) : Int) = 0 from rfl) (show _ = some (0 : UInt8) from rfl)) <| hy (fun _ => y_conv rfl Tryz.underlying5 Tryz.underlying3 (show IntKind.i64.wrap ((0 : UInt8).toNat : Int) = 0 from rfl)) <| hy (fun _ => y_add rfl rfl (w64 (by omega) (by omega))) <| hy (fun _ => y_assign rfl) <| hend <| hsub (ρ' := [(2, _), (14, _), (8, _), (4, _), (0, _)]) ⟨rfl, rfl, rfl, rfl, rfl, trivial⟩ <| hthen <| hret <| ?_
  exact hret1 trivial rfl rfl [] rfl [] rfl ⟨rfl, rfl, rfl⟩
theorem lenNoC  : Con Tryz.prog 159 [.int .u64 0] [] [] (fun v_ X_ S_ => v_ = (.int .i64 0) ∧ X_ = [] ∧ S_ = []) := by
  refine henter (N := 8) Tryz.func159 rfl rfl (by simp) fun b => ?_
  refine hseq <| hreg <| hy (fun _ => y_assign rfl) <| hend <| hthen <| hseq <| ?_
  refine hiff rfl (rfl) ?_
  refine hcskip <| hthen <| hseq <| hreg <| hy (fun _ => y_move rfl) <| ?_
  refine hx (xh_call rfl Tryz.call202 (len64NoC) [] rfl [] rfl ?_)
  rintro _ _ _ ⟨rfl, rfl, rfl⟩
  refine hy (fun _ => y_assign rfl) <| hend <| hsub (ρ' := [(2, _), (0, _)]) ⟨rfl, rfl, trivial⟩ <| hmemQ (X' := []) (S' := []) (fun _ m => m) <| hthen <| hret <| ?_
  exact hret1 trivial rfl rfl [] rfl [] rfl ⟨rfl, rfl, rfl⟩
theorem pdqNoC  : Con Tryz.prog 158 [.slice none 0 0, .int .i64 0, .int .i64 0, .int .i64 0] [] [] (fun v_ X_ S_ => v_ = (.tuple #[]) ∧ X_ = [] ∧ S_ = []) := by
  refine henter (N := 134) Tryz.func158 rfl rfl (by simp) fun b => ?_
  refine hseq <| hreg <| hy (fun _ => y_assign rfl) <| hend <| hthen <| hseq <| hreg <| hy (fun _ => y_assign rfl) <| hend <| hthen <| hblock <| ?_
  refine hloop1 (fun u => 0) (fun u => [(1, .int .i64 0), (2, .int .i64 0)]) (fun u => []) (fun u => []) (fun u => u = 0) 0 [(0, _)] ⟨rfl, trivial⟩ [] rfl [] rfl (rfl) ⟨rfl, rfl, trivial⟩ (fun u hI => ?_)
  refine hblock <| hseq <| hreg <| hy (fun _ => y_move rfl) <| hy (fun _ => y_move rfl) <| hy (fun _ => y_sub rfl rfl (w64 (by omega) (by omega))) <| hy (fun _ => y_assign rfl) <| hend <| hsub (ρ' := [(10, _), (1, _), (2, _), (0, _)]) ⟨rfl, rfl, rfl, rfl, trivial⟩ <| hthen <| hseq <| hseq <| hreg <| hy (fun _ => y_move rfl) <| hy (fun _ => y_leq rfl rfl) <| hend <| hsub (ρ' := [(23, _), (10, _), (1, _), (2, _), (0, _)]) ⟨rfl, rfl, rfl, rfl, rfl, trivial⟩ <| hthen <| ?_
  refine hift rfl (rfl) ?_
  refine hseq <| hreg <| hy (fun _ => y_move rfl) <| hy (fun _ => y_move rfl) <| hy (fun _ => y_move rfl) <| ?_
  refine hx (xh_call rfl Tryz.call192 (insNoC) [] rfl [] rfl ?_)
  rintro _ _ _ ⟨rfl, rfl, rfl⟩
  refine hend <| hsub (ρ' := [(23, _), (10, _), (1, _), (2, _), (0, _)]) ⟨rfl, rfl, rfl, rfl, rfl, trivial⟩ <| hmemQ (X' := []) (S' := []) (fun _ m => m) <| hthen <| hret <| hthen_ret <| hqblock_ret <| hthen_ret <| hqblock_ret <| ?_
  exact hret0 trivial rfl [] rfl [] rfl ⟨rfl, rfl, rfl⟩
theorem sortNoC  : Con Tryz.prog 87 [.slice none 0 0] [] [] (fun v_ X_ S_ => v_ = (.tuple #[]) ∧ X_ = [] ∧ S_ = []) := by
  refine henter (N := 11) Tryz.func87 rfl rfl (by simp) fun b => ?_
  refine hseq <| hreg <| hy (fun _ => y_move rfl) <| hy (fun _ => y_lenS rfl Tryz.underlying71) <| hy (fun _ => y_assign rfl) <| hend <| hsub (ρ' := [(2, _), (0, _)]) ⟨rfl, rfl, trivial⟩ <| hthen <| hreg <| hy (fun _ => y_move rfl) <| hy (fun _ => y_move rfl) <| hy (fun _ => y_move rfl) <| hy (fun _ => y_conv rfl Tryz.underlying3 Tryz.underlying233 rfl) <| ?_
  refine hx (xh_call rfl Tryz.call159 (lenNoC) [] rfl [] rfl ?_)
  rintro _ _ _ ⟨rfl, rfl, rfl⟩
  refine hx (xh_call rfl Tryz.call158 (pdqNoC) [] rfl [] rfl ?_)
  rintro _ _ _ ⟨rfl, rfl, rfl⟩
  refine hend <| hsub (ρ' := [(2, _), (0, _)]) ⟨rfl, rfl, trivial⟩ <| hmemQ (X' := []) (S' := []) (fun _ m => m) <| ?_
  exact hret0 trivial rfl [] rfl [] rfl ⟨rfl, rfl, rfl⟩
theorem DOk.powered {st : DSt} {n k : Nat} (h : DOk st n) (hk : k ≤ 1000000) : DOk (st.powered k) n := ⟨by show max (k : Int) (-1) ≤ _; omega, h.room, h.seen, h.rest, h.small⟩
end Go.Proofs.YtfikjheicjamhaaGreatDoor
end
section
/- Contracts: a disk's changes of every kind: Rename, Remove, Restart. -/
set_option linter.unusedVariables false
set_option linter.unusedSimpArgs false
set_option maxRecDepth 20000
namespace Go.Proofs.YtfikjheicjamhaaGreatDoor
open Go.Eng Go.Hx
/-- files behind a change -/
def apl (l : Files) : Chg → Files
  | .written p r => aput l p r
  | .renamed a c => match aget l a with
    | none => l
    | some r => aput (adel l a) c r
  | .removed p => adel l p
theorem nmakeC {g : Nat} {l : Files} {a c : List UInt8} : Con Tryz.prog 268 [.agg [SV a, SV c].toArray, .map (some g)] [RMap SV g (vals l)] [] (fun v_ X_ S_ => v_ = (.tuple #[]) ∧ X_ = [RMap SV g (vals (apl l (.renamed a c)))] ∧ S_ = []) := by
  refine henter (N := 21) Tryz.func268 rfl rfl (by simp) fun b => ?_
  refine hseq <| hreg <| ?_
  refine hx (xh_box rfl (fun g2 => ?_))
  refine hmemL (fun w m => m.eqX 0 rfl (show _ = RBlk g2 217 [SV a, SV c] from congrArg (RBlk _ _) (cells_agg _))) ?_
  rcases aget_split (l := l) a with ⟨h1, h2⟩ | ⟨r, h1, h2⟩
  · refine hend <| hmemQ (X' := [_, _]) (S' := []) (fun _ m => m) <| hthen <| hseq <| hreg <| hy (fun _ => y_move rfl) <| hy (fun _ => y_fld rfl fa217_0 (by decide)) <| hy (fun m => y_ld1 rfl ag9 (ld_blk (m.blk 0 rfl) (i := 0) rfl)) <| hy (fun m => yV (y_lookM (enc := SV) rfl rfl Tryz.underlying129 ti27 (strKey Tryz.underlying9) (m.mapX 1 rfl)) ((show lookVal true (.slice none 0 0) (aget (vals l) a) = .tuple #[.slice none 0 0, .bool false] by rw [h2]; rfl))) <| hy (fun _ => y_move rfl) <| hy (fun _ => y_extract rfl rfl) <| hy (fun _ => y_extract rfl rfl) <| hy (fun _ => y_assign rfl) <| hy (fun _ => y_assign rfl) <| hend <| hsub (ρ' := [(5, _), (4, _), (2, _), (0, _), (1, _)]) ⟨rfl, rfl, rfl, rfl, rfl, trivial⟩ <| hthen <| hseq <| hreg <| hy (fun _ => y_move rfl) <| hend <| hthen <| ?_
    refine hiff rfl (rfl) ?_
    refine hcskip <| ?_
    have e : apl l (.renamed a c) = l := by rw [apl, h1]
    rw [e]
    exact hret0 trivial rfl [1] rfl [] rfl ⟨rfl, rfl, rfl⟩
  · refine hend <| hthen <| hseq <| hreg <| hy (fun _ => y_move rfl) <| hy (fun _ => y_fld rfl fa217_0 (by decide)) <| hy (fun m => y_ld1 rfl ag9 (ld_blk (m.blk 0 rfl) rfl)) <| hy (fun m => yV (y_lookM (enc := SV) rfl rfl Tryz.underlying129 ti27 (strKey Tryz.underlying9) (m.mapX 1 rfl)) ((show lookVal true (.slice none 0 0) (aget (vals l) a) = .tuple #[r.val, .bool true] by rw [h2]; rfl))) <| hy (fun _ => y_move rfl) <| hy (fun _ => y_extract rfl rfl) <| hy (fun _ => y_extract rfl rfl) <| hy (fun _ => y_assign rfl) <| hy (fun _ => y_assign rfl) <| hend <| hsub (ρ' := [(5, _), (4, _), (2, _), (0, _), (1, _)]) ⟨rfl, rfl, rfl, rfl, rfl, trivial⟩ <| hthen <| hseq <| hreg <| hy (fun _ => y_move rfl) <| hend <| hthen <| ?_
    refine hift rfl (rfl) ?_
    refine hseq <| hreg <| hy (fun _ => y_move rfl) <| hy (fun _ => y_fld rfl fa217_0 (by decide)) <| hy (fun m => y_ld1 rfl ag9 (ld_blk (m.blk 0 rfl) (i := 0) rfl)) <| ?_
    refine hx0 (xh_mapdel (enc := SV) 1 rfl rfl rfl Tryz.underlying129 (strKey Tryz.underlying9) ?_)
    refine hend <| hsub (ρ' := [(13, _), (5, _), (4, _), (2, _), (0, _), (1, _)]) ⟨rfl, rfl, rfl, rfl, rfl, rfl, trivial⟩ <| hmemQ (X' := [_, _]) (S' := []) (fun _ m => m) <| hthen <| hreg <| hy (fun _ => y_move rfl) <| hy (fun _ => y_fld rfl fa217_1 (by decide)) <| hy (fun m => y_ld1 rfl ag9 (ld_blk (m.blk 1 rfl) (i := 1) rfl)) <| hy (fun _ => y_move rfl) <| ?_
    refine hx0 (xh_mapup (enc := SV) 0 rfl rfl rfl rfl Tryz.underlying129 (strKey Tryz.underlying9) ?_)
    refine hend <| hsub (ρ' := [(13, _), (5, _), (4, _), (2, _), (0, _), (1, _)]) ⟨rfl, rfl, rfl, rfl, rfl, rfl, trivial⟩ <| hmemQ (X' := [_, _]) (S' := []) (fun _ m => m) <| ?_
    have e : aput (adel (vals l) a) c r.val = vals (apl l (.renamed a c)) := by rw [apl, h1, vals_del, vals_put]
    refine hmemQ (fun w m => m.eqX 0 rfl (show _ = RMap SV g (vals (apl l (.renamed a c))) from congrArg (RMap SV g) e)) ?_
    exact hret0 trivial rfl [0] rfl [] rfl ⟨rfl, rfl, rfl⟩
theorem vmakeC {g : Nat} {l : Files} {p : List UInt8} : Con Tryz.prog 269 [.agg [SV p].toArray, .map (some g)] [RMap SV g (vals l)] [] (fun v_ X_ S_ => v_ = (.tuple #[]) ∧ X_ = [RMap SV g (vals (apl l (.removed p)))] ∧ S_ = []) := by
  refine henter (N := 7) Tryz.func269 rfl rfl (by simp) fun b => ?_
  refine hseq <| hreg <| ?_
  refine hx (xh_box rfl (fun g2 => ?_))
  refine hmemL (fun w m => m.eqX 0 rfl (show _ = RBlk g2 230 [SV p] from congrArg (RBlk _ _) (cells_agg _))) ?_
  refine hend <| hmemQ (X' := [_, _]) (S' := []) (fun _ m => m) <| hthen <| hreg <| hy (fun _ => y_move rfl) <| hy (fun _ => y_fld rfl fa230_0 (by decide)) <| hy (fun m => y_ld1 rfl ag9 (ld_blk (m.blk 0 rfl) (i := 0) rfl)) <| ?_
  refine hx0 (xh_mapdel (enc := SV) 1 rfl rfl rfl Tryz.underlying129 (strKey Tryz.underlying9) ?_)
  refine hend <| hsub (ρ' := [(2, _), (0, _), (1, _)]) ⟨rfl, rfl, rfl, trivial⟩ <| hmemQ (X' := [_, _]) (S' := []) (fun _ m => m) <| ?_
  rw [vals_del]
  exact hret0 trivial rfl [0] rfl [] rfl ⟨rfl, rfl, rfl⟩
/-- behind a change -/
def DSt.did (st : DSt) (c : Chg) (A : Option Addr) (k : Nat) : DSt := { st.spent with seen := apl st.seen c, waits := st.waits ++ [c], wA := A, wc := k }
theorem adel_vals {l : Files} {p : List UInt8} {x : BRow} (h : x ∈ (adel l p).map (·.2)) : x ∈ l.map (·.2) := by
  induction l with
  | nil => exact h
  | cons a q ih =>
    obtain ⟨k, u⟩ := a
    simp only [adel] at h
    split at h
    · exact List.mem_cons_of_mem _ h
    · simp only [List.map_cons, List.mem_cons] at h ⊢
      rcases h with rfl | h
      · exact .inl rfl
      · exact .inr (ih h)
theorem apl_rows {l : Files} {c : Chg} (hc : c.row = none) {x : BRow} (h : x ∈ (apl l c).map (·.2)) : x ∈ l.map (·.2) := by
  cases c with
  | written p r => cases hc
  | renamed a b =>
    simp only [apl] at h
    split at h
    · exact h
    · rename_i r hr
      rcases aput_vals h with h | h
      · exact adel_vals h
      · exact h ▸ List.mem_map.2 ⟨_, aget_mem hr, rfl⟩
  | removed p => exact adel_vals h
theorem apl_len (l : Files) (c : Chg) : (apl l c).length ≤ l.length + 1 := by
  cases c with
  | written p r => exact aput_len l p r
  | renamed a b =>
    simp only [apl]
    split
    · omega
    · rename_i r hr
      have h1 := aput_len (adel l a) b r
      have h2 := adel_len l a
      omega
  | removed p => have h2 := adel_len l p; show (adel l p).length ≤ _; omega
theorem rows_did {st : DSt} {c : Chg} {A : Option Addr} {k : Nat} (hc : c.row = none) : ∀ x ∈ rowsOf (st.did c A k), x ∈ rowsOf st := by
  intro x hx
  unfold rowsOf DSt.did at hx
  simp only [DSt.spent, List.mem_append, List.filterMap_append] at hx
  unfold rowsOf
  simp only [List.mem_append]
  rcases hx with (h | h) | h | h
  · exact .inl (.inl (apl_rows hc h))
  · exact .inl (.inr h)
  · exact .inr h
  · simp [hc] at h
theorem DOk.did {st : DSt} {k : Nat} (h : DOk st k) {c : Chg} (hc : c.row = none) (A : Option Addr) (j : Nat) : DOk (st.did c A j) (k + 1) := by
  refine ⟨spent_power h.power, h.room, ?_, ?_, fun x hx => h.small x (rows_did hc x hx)⟩
  · have := apl_len st.seen c
    have := h.seen
    show (apl st.seen c).length ≤ k + 1
    omega
  · have := h.rest
    show st.lasts.length + (st.waits ++ [c]).length ≤ k + 1
    simp only [List.length_append, List.length_cons, List.length_nil]
    omega
theorem doNC {g : Nat} {st : DSt} {a c : List UInt8} (hp : st.power ≤ 1000000000000) (hw : st.waits.length ≤ 1000000) : Con Tryz.prog 110 [.pointer (some ⟨g, 0, none⟩), (Chg.renamed a c).val] [RDisk g st] [] (fun v_ X_ S_ => ∃ A k, v_ = (.tuple #[]) ∧ X_ = [RDisk g (st.did (.renamed a c) A k)] ∧ S_ = []) := by
  have hsw : st.spent.waits.length = st.waits.length := rfl
  refine henter (N := 25) Tryz.func110 rfl rfl (by simp) fun b => ?_
  refine hseq <| hreg <| hy (fun _ => y_move rfl) <| ?_
  refine hx (xh_call rfl Tryz.call146 (spendC (by omega)) [0] rfl [] rfl ?_)
  rintro _ _ _ ⟨rfl, rfl, rfl⟩
  refine hmemL (fun w m => (m.perm (takeR_perm [0] _ [_] _ rfl)).unpack) ?_
  refine hend <| hsub (ρ' := [(0, _), (1, _)]) ⟨rfl, rfl, trivial⟩ <| hmemQ (X' := [_, _, _, _, _]) (S' := []) (fun _ m => m) <| hthen <| hseq <| hdrw [8] [(0, some 0), (1, some 0), (2, some 0), (3, some 0), (4, some 0), (5, some 0), (6, some 0), (7, some 0), (8, none)] (by kernel_rfl) (by kernel_rfl) rfl 0 <| htyU (y_move rfl) <| htyU (y_move rfl) <| htyU (y_nilp rfl) <| htyU (y_fld rfl fa132_1 (by decide)) <| hty (fun m => y_ld1 rfl ag129 (ld_blk (m.blk 0 rfl) rfl)) <| htyU (y_mkf rfl rfl) <| htyU (y_nilm rfl (by kernel_rfl)) <| htyU (y_move rfl) <| ?_
  refine htx (xh_inv rfl rfl (fun w => by kernel_rfl) Tryz.call268 (nmakeC) [1] rfl [] rfl ?_)
  rintro _ _ _ ⟨rfl, rfl, rfl⟩
  refine ⟨(fun h => absurd h (by decide)), ?_⟩
  refine htend <| hsub (ρ' := [(0, _), (1, _)]) ⟨rfl, rfl, trivial⟩ <| hmemQ (X' := [_, _, _, _, _]) (S' := []) (fun _ m => m) <| hthen <| hreg <| hy (fun _ => y_move rfl) <| hy (fun _ => y_move rfl) <| hy (fun _ => y_nilp rfl) <| hy (fun _ => y_fld rfl fa132_3 (by decide)) <| hy (fun m => y_ld1 rfl ag130 (ld_blk (m.blk 1 rfl) rfl)) <| hy (fun _ => y_move rfl) <| ?_
  refine hx (xh_bsl Tryz.underlying130 ti139 rfl rfl rfl (by simp [Value.cells, Chg.val]) (by decide) (by decide) (fun g21 => ?_))
  have hA_b21 : 0 < 1 → (some (⟨g21, 0, none⟩ : Addr)) ≠ none := fun _ h => by cases h
  refine hmemL (fun w m => m.eqX 0 rfl (show _ = ROwn 139 1 (.slice (some ⟨g21, 0, none⟩) 1 1) 1 [((Chg.renamed a c)).val] from rfl)) ?_
  refine hx (xh_app 4 rfl rfl rfl Tryz.underlying130 Tryz.underlying130 (by exact .inl rfl) ti139 rfl (fun m => Src.of_rd (m.ord 0 rfl)) (by simp [Chg.val, Value.oneCell']) (by unfold maxLen; omega) (by omega) (fun u => ?_))
  refine hfactL (fun m => (m.own 0 rfl).slice) ?_
  rintro ⟨A_d3, c_d3, rfl, hc_d3⟩
  refine hfactL (fun m => (m.ord 0 rfl).2.1) fun hA_d3 => ?_
  refine hy (fun _ => y_nilp rfl) <| hy (fun _ => y_fld rfl fa132_3 (by decide)) <| ?_
  refine hx0 (xh_st1a 3 rfl rfl rfl sz130 rfl (by first | exact Nat.le_of_ble_eq_true rfl | simp) ?_)
  refine hend <| hsub (ρ' := [(0, _), (1, _)]) ⟨rfl, rfl, trivial⟩ <| hmemQ (X' := [_, _, _, _, _, _]) (S' := []) (fun _ m => m) <| ?_
  refine hmemQ (fun w m => m.eqX 0 rfl (show _ = RBlk g 132 (dcells (st.did ((Chg.renamed a c)) A_d3 c_d3)) from by simp [dcells, DSt.did, DSt.spent])) ?_
  refine hmemQ (fun w m => m.eqX 3 rfl (show _ = RMap SV st.gs (vals (st.did ((Chg.renamed a c)) A_d3 c_d3).seen) from rfl)) ?_
  refine hmemQ (fun w m => m.eqX 2 rfl (show _ = ROwn 139 1 (.slice A_d3 (st.did ((Chg.renamed a c)) A_d3 c_d3).waits.length c_d3) (st.did ((Chg.renamed a c)) A_d3 c_d3).waits.length ((st.did ((Chg.renamed a c)) A_d3 c_d3).waits.map Chg.val) from by simp [DSt.did, DSt.spent])) ?_
  refine hmemQ (X' := RRows (rowsOf (st.did ((Chg.renamed a c)) A_d3 c_d3)) :: _) (fun w m => (m.perm (takeR_perm [5] _ [_] _ rfl)).rowSub ((rows_did rfl))) ?_
  refine hmemQ (X' := RDisk g (st.did ((Chg.renamed a c)) A_d3 c_d3) :: _) (fun w m => (m.perm (takeR_perm [3, 2, 3, 1, 0] _ [_, _, _, _, _] _ rfl)).pack) ?_
  exact hret0 trivial rfl [0] rfl [] rfl ⟨_, _, rfl, rfl, rfl⟩
/-- what is told of a Rename -/
def renameE (st : DSt) (a c : List UInt8) : Int := if ¬ Named c then 1 else foundE st a
theorem renameC {g : Nat} {st : DSt} {a c : List UInt8} {k : Nat} (ok : DOk st k) (hk : k ≤ 100000) : Con Tryz.prog 74 [.pointer (some ⟨g, 0, none⟩), .string (strOf a), .string (strOf c)] [RDisk g st] [] (fun v_ X_ S_ => ∃ st1 A j, v_ = (.int .i64 (renameE st a c)) ∧ X_ = [RDisk g st1] ∧ S_ = [] ∧ ((renameE st a c ≠ 0 ∧ st1 = st) ∨ (renameE st a c = 0 ∧ st1 = st.did (.renamed a c) A j))) := by
  have hp := ok.power
  have hw : st.waits.length ≤ 1000000 := by have := ok.rest; omega
  refine henter (N := 23) Tryz.func74 rfl rfl (by simp) fun b => ?_
  refine hseq <| hreg <| hy (fun _ => y_assign rfl) <| hend <| hthen <| hseq <| hseq <| hreg <| hy (fun _ => y_move rfl) <| ?_
  refine hx (xh_call rfl Tryz.call109 (namedC) [] rfl [] rfl ?_)
  rintro _ _ _ ⟨rfl, rfl, rfl⟩
  refine hy (fun _ => y_notp rfl) <| hend <| hsub (ρ' := [(10, _), (6, _), (0, _), (1, _), (2, _)]) ⟨rfl, rfl, rfl, rfl, rfl, trivial⟩ <| hmemQ (X' := [_]) (S' := []) (fun _ m => m) <| hthen <| ?_
  refine hif rfl (fun h1 => ?_) (fun h1 => ?_)
  · have e : renameE st a c = 1 := by rw [renameE, if_pos h1]
    rw [e]
    refine hseq <| hreg <| hy (fun _ => y_assign rfl) <| hend <| hthen <| hret <| hthen_ret <| ?_
    exact hret1 trivial rfl rfl [0] rfl [] rfl ⟨_, none, 0, rfl, rfl, rfl, .inl ⟨by decide, rfl⟩⟩
  · have e : renameE st a c = foundE st a := by rw [renameE, if_neg h1]
    rw [e]
    refine hcskip <| hthen <| hseq <| hseq <| hreg <| hy (fun _ => y_move rfl) <| hy (fun _ => y_move rfl) <| ?_
    refine hx (xh_call rfl Tryz.call128 (foundC) [0] rfl [] rfl ?_)
    rintro _ _ _ ⟨rfl, rfl, rfl⟩
    refine hy (fun _ => y_assign rfl) <| hend <| hsub (ρ' := [(7, _), (10, _), (6, _), (0, _), (1, _), (2, _)]) ⟨rfl, rfl, rfl, rfl, rfl, rfl, trivial⟩ <| hmemQ (X' := [_]) (S' := []) (fun _ m => m) <| hthen <| hseq <| hreg <| hy (fun _ => y_move rfl) <| hy (fun _ => y_neq rfl rfl) <| hend <| hsub (ρ' := [(15, _), (7, _), (10, _), (6, _), (0, _), (1, _), (2, _)]) ⟨rfl, rfl, rfl, rfl, rfl, rfl, rfl, trivial⟩ <| hthen <| ?_
    refine hif rfl (fun h2 => ?_) (fun h2 => ?_)
    · refine hseq <| hreg <| hy (fun _ => y_move rfl) <| hy (fun _ => y_assign rfl) <| hend <| hsub (ρ' := [(6, _), (15, _), (7, _), (10, _), (0, _), (1, _), (2, _)]) ⟨rfl, rfl, rfl, rfl, rfl, rfl, rfl, trivial⟩ <| hthen <| hret <| hthen_ret <| ?_
      exact hret1 trivial rfl rfl [0] rfl [] rfl ⟨_, none, 0, rfl, rfl, rfl, .inl ⟨h2, rfl⟩⟩
    · have h0 := Decidable.not_not.1 h2
      rw [h0]
      refine hcskip <| hthen <| hseq <| hreg <| hy (fun _ => y_move rfl) <| hy (fun _ => y_move rfl) <| hy (fun _ => y_move rfl) <| hy (fun _ => yV (y_build ti217 rfl rfl (by kernel_rfl) (.cons (o := 0) (sz := 1) (by kernel_rfl) rfl rfl (Nat.le_of_ble_eq_true rfl) (.cons (o := 1) (sz := 1) (by kernel_rfl) rfl rfl (Nat.le_of_ble_eq_true rfl) .nil))) ((rfl : _ = Value.agg [SV a, SV c].toArray))) <| hy (fun _ => yV (y_mki rfl Tryz.underlying217 (fun _ h => by cases h)) ((rfl : _ = (Chg.renamed a c).val))) <| ?_
      refine hx (xh_call rfl Tryz.call110 (doNC (by omega) (by omega)) [0] rfl [] rfl ?_)
      rintro _ _ _ ⟨A, k2, rfl, rfl, rfl⟩
      refine hend <| hsub (ρ' := [(15, _), (7, _), (10, _), (6, _), (0, _), (1, _), (2, _)]) ⟨rfl, rfl, rfl, rfl, rfl, rfl, rfl, trivial⟩ <| hmemQ (X' := [_]) (S' := []) (fun _ m => m) <| hthen <| hseq <| hreg <| hy (fun _ => y_assign rfl) <| hend <| hthen <| hret <| ?_
      exact hret1 trivial rfl rfl [0] rfl [] rfl ⟨_, _, _, rfl, rfl, rfl, .inr ⟨rfl, rfl⟩⟩
/-- a restart, whatever waits -/
theorem restartAC {g : Nat} {st : DSt} {A : Option Addr} {n c : Nat} {bs : List Bool} (hc : n ≤ c) (hs : Small st) (hw : st.waits.length ≤ 1000000) : Con Tryz.prog 22 [.pointer (some ⟨g, 0, none⟩), .slice A n c] [RDisk g st] [RRd 1 A n (bools bs)] (fun v_ X_ S_ => ∃ gs, v_ = (.tuple #[]) ∧ X_ = [RDisk g (st.started bs gs)] ∧ S_ = []) := by
  refine henter (N := 67) Tryz.func22 rfl rfl (by simp) fun b => ?_
  refine hfactC (fun m => rdX (m.rd 0 rfl)) ?_
  rintro ⟨hl_r, hA_r⟩
  refine hmemC (fun w m => (m.perm (takeR_perm [0] _ [_] _ rfl)).unpack) ?_
  refine hfactC (fun m => (m.ord 3 rfl).2.1) fun hwA => ?_
  refine hseq <| hreg <| ?_
  refine hx (xh_box rfl (fun g3 => ?_))
  refine hend <| hmemQ (X' := [_, _, _, _, _, _]) (S' := [_]) (fun _ m => m) <| hthen <| hseq <| hreg <| hy (fun _ => y_mkf rfl rfl) <| hy (fun _ => y_assign rfl) <| hend <| hsub (ρ' := [(4, _), (3, _), (0, _), (1, _)]) ⟨rfl, rfl, rfl, rfl, trivial⟩ <| hthen <| hseq <| hseq <| hreg <| hy (fun _ => y_move rfl) <| hy (fun _ => y_nilp rfl) <| hy (fun _ => y_fld rfl fa132_3 (by decide)) <| hy (fun m => y_ld1 rfl ag130 (ld_blk (m.blk 1 rfl) rfl)) <| hy (fun _ => y_lenS rfl Tryz.underlying130) <| hy (fun _ => y_move rfl) <| hend <| hsub (ρ' := [(15, _), (14, _), (13, _), (4, _), (3, _), (0, _), (1, _)]) ⟨rfl, rfl, rfl, rfl, rfl, rfl, rfl, trivial⟩ <| hthen <| hblock <| ?_
  refine hloop6 (fun i ks L A1 n1 c1 => st.waits.length - i) (fun i ks L A1 n1 c1 => [(15, .int .i64 (i : Nat))]) (fun i ks L A1 n1 c1 => [RBlk g3 28 [.slice A1 n1 c1], RMap SV st.gl (vals L)]) (fun i ks L A1 n1 c1 => [RRd 1 A1 n1 (bools ks)]) (fun i ks L A1 n1 c1 => n1 ≤ c1 ∧ i ≤ st.waits.length ∧ (ks, L) = rfold bs st i) 0 bs st.lasts A n c [(14, _), (13, _), (4, _), (3, _), (0, _), (1, _)] ⟨rfl, rfl, rfl, rfl, rfl, rfl, trivial⟩ [0, 2] rfl [0] rfl (⟨hc, Nat.zero_le _, by simp [rfold]⟩) ⟨rfl, trivial⟩ (fun i ks L A1 n1 c1 ⟨hc1, hi, hf⟩ => ?_)
  refine hseq <| hreg <| hy (fun _ => y_lss rfl rfl) <| hend <| hthen <| hseq <| ?_
  refine hif rfl (fun hlt => ?_) (fun hlt => ?_)
  · obtain ⟨cg, hcg⟩ : ∃ cg, st.waits[i]? = some cg := ⟨_, List.getElem?_eq_getElem (by omega)⟩
    have hfs := rfold_succ (keep := bs) hcg
    rw [← hf] at hfs
    refine hcskip <| hthen <| hseq <| hblock <| hseq <| hreg <| hy (fun _ => y_idxS1 rfl rfl Tryz.underlying130 sz139 hwA rfl (by omega)) <| hy (fun m => y_ld1 rfl ag139 ((m.ord 4 rfl).cell (j := i) (by rw [List.getElem?_map, hcg]; rfl))) <| hy (fun _ => y_assign rfl) <| hend <| hsub (ρ' := [(6, _), (16, _), (15, _), (14, _), (13, _), (4, _), (3, _), (0, _), (1, _)]) ⟨rfl, rfl, rfl, rfl, rfl, rfl, rfl, rfl, rfl, trivial⟩ <| hthen <| hseq <| hseq <| hreg <| hy (fun _ => y_move rfl) <| ?_
    refine hx (xh_callv rfl rfl Tryz.call78 (nextBitC (by omega)) [0] rfl [0] rfl ?_)
    rintro _ _ _ ⟨A12, n12, c12, rfl, rfl, rfl, hp⟩
    refine hfactL (fun m => rdX (m.rd 0 rfl)) ?_
    rintro ⟨hl_q, hA_q⟩
    refine hy (fun _ => (y_not rfl)) <| hend <| hsub (ρ' := [(21, _), (6, _), (16, _), (15, _), (14, _), (13, _), (4, _), (3, _), (0, _), (1, _)]) ⟨rfl, rfl, rfl, rfl, rfl, rfl, rfl, rfl, rfl, rfl, trivial⟩ <| hmemQ (X' := [_, _, _, _, _, _]) (S' := [_, _, _]) (fun _ m => m) <| hthen <| ?_
    refine hifb rfl (fun hb => ?_) (fun hb => ?_)
    · have hb' : ks.headD false = false := by simpa using hb
      refine hexit <| hthen_exit <| hqblock_exit <| hthen <| hreg <| hy (fun _ => y_add rfl rfl (w64 (by omega) (by omega))) <| hy (fun _ => y_move rfl) <| hend <| hsub (ρ' := [(15, _), (21, _), (6, _), (16, _), (14, _), (13, _), (4, _), (3, _), (0, _), (1, _)]) ⟨rfl, rfl, rfl, rfl, rfl, rfl, rfl, rfl, rfl, rfl, trivial⟩ <| ?_
      refine hnext6 (i + 1) ks.tail L A12 n12 c12 ⟨rfl, rfl, rfl, rfl, rfl, rfl, rfl, trivial⟩ [0, 0, 0, 0, 0, 0] rfl [0, 2] rfl (⟨hp, by omega, by rw [hfs]; unfold rstep; rw [if_neg (by rw [hb']; decide)]⟩) (by omega)
    · have hb' : ks.headD false = true := by simpa using hb
      rcases cg with ⟨p, r⟩ | ⟨a, c9⟩ | ⟨p⟩
      · have hrm : r ∈ rowsOf st := by
          unfold rowsOf
          exact List.mem_append_right _ (List.mem_filterMap.2 ⟨_, List.mem_of_getElem? hcg, rfl⟩)
        have hsr := hs r hrm
        obtain ⟨ri, hri⟩ := List.mem_iff_getElem?.1 hrm
        refine hfactC (fun m => rows_le (m.xres 5 rfl) hri) fun hrc => ?_
        refine hcskip <| hthen <| hseq <| hreg <| hy (fun _ => y_move rfl) <| hend <| hthen <| hblock <| hseq <| hreg <| hy (fun _ => y_tas rfl (show _ = Result.ok (Value.tuple #[.agg [SV p, r.val].toArray, .bool true]) _ by kernel_rfl)) <| hy (fun _ => y_extract rfl rfl) <| hy (fun _ => y_extract rfl rfl) <| hend <| hsub (ρ' := [(34, _), (33, _), (22, _), (21, _), (6, _), (16, _), (15, _), (14, _), (13, _), (4, _), (3, _), (0, _), (1, _)]) ⟨rfl, rfl, rfl, rfl, rfl, rfl, rfl, rfl, rfl, rfl, rfl, rfl, rfl, trivial⟩ <| hthen <| ?_
        refine hift rfl (rfl) ?_
        refine hseq <| hreg <| ?_
        refine hx (xh_alloc ti141 (fun g7 => ?_))
        refine hx0 (xh_stA 0 rfl rfl rfl sz141 rfl (by simp [SV, BRow.val, Value.oneCell']) rfl ?_)
        refine hend <| hmemQ (X' := [_, _, _, _, _, _, _]) (S' := [_, _, _]) (fun _ m => m) <| hthen <| hseq <| hseq <| hreg <| hy (fun _ => y_move rfl) <| ?_
        refine hx (xh_callv rfl rfl Tryz.call78 (nextBitC (by omega)) [1] rfl [0] rfl ?_)
        rintro _ _ _ ⟨A13, n13, c13, rfl, rfl, rfl, hp2⟩
        refine hfactL (fun m => rdX (m.rd 0 rfl)) ?_
        rintro ⟨hl_q2, hA_q2⟩
        refine hy (fun _ => (y_not rfl)) <| hend <| hsub (ρ' := [(37, _), (7, _), (34, _), (33, _), (22, _), (21, _), (6, _), (16, _), (15, _), (14, _), (13, _), (4, _), (3, _), (0, _), (1, _)]) ⟨rfl, rfl, rfl, rfl, rfl, rfl, rfl, rfl, rfl, rfl, rfl, rfl, rfl, rfl, rfl, trivial⟩ <| hmemQ (X' := [_, _, _, _, _, _, _]) (S' := [_, _, _, _]) (fun _ m => m) <| hthen <| ?_
        refine hifb rfl (fun hb2 => ?_) (fun hb2 => ?_)
        · have hb2' : ks.tail.headD false = false := by simpa using hb2
          refine hreg <| hy (fun _ => y_fld rfl fa141_1 (by decide)) <| hy (fun m => y_ld1 rfl ag27 (ld_blk (m.blk 1 rfl) rfl)) <| hy (fun _ => y_fld rfl fa141_1 (by decide)) <| hy (fun m => y_ld1 rfl ag27 (ld_blk (m.blk 1 rfl) rfl)) <| hy (fun _ => y_lenS rfl Tryz.underlying27) <| hy (fun _ => y_quo rfl rfl (by omega) (by omega) (w64 (by omega) (by omega))) <| hy (fun _ => y_slTo rfl rfl Tryz.underlying27 sz5 (show ((r.n / 2 : Nat) : Int) = _ by omega) (by omega)) <| hy (fun _ => y_fld rfl fa141_1 (by decide)) <| ?_
          refine hx0 (xh_st1a 1 rfl rfl rfl sz27 rfl (by first | exact Nat.le_of_ble_eq_true rfl | simp) ?_)
          refine hmemL (fun w m => m.eqX 0 rfl (show _ = RBlk g7 141 [SV p, r.half.val] from rfl)) ?_
          refine hend <| hsub (ρ' := [(37, _), (7, _), (34, _), (33, _), (22, _), (21, _), (6, _), (16, _), (15, _), (14, _), (13, _), (4, _), (3, _), (0, _), (1, _)]) ⟨rfl, rfl, rfl, rfl, rfl, rfl, rfl, rfl, rfl, rfl, rfl, rfl, rfl, rfl, rfl, trivial⟩ <| hmemQ (X' := [_, _, _, _, _, _, _]) (S' := [_, _, _, _]) (fun _ m => m) <| hthen <| hdrw [5] [(0, some 0), (1, some 0), (2, some 0), (3, some 0), (4, some 0), (5, none)] (by kernel_rfl) (by kernel_rfl) rfl 0 <| hty (fun m => y_ldN rfl ag141 sz141 (by simp) (m.blk 0 rfl).cells0) <| htyU (y_move rfl) <| htyU (y_nilp rfl) <| htyU (y_fld rfl fa132_2 (by decide)) <| hty (fun m => y_ld1 rfl ag129 (ld_blk (m.blk 3 rfl) rfl)) <| ?_
          refine htx (xh_call rfl Tryz.call79 (wmakeC) [2] rfl [] rfl ?_)
          rintro _ _ _ ⟨rfl, rfl, rfl⟩
          refine ⟨(fun h => absurd h (by decide)), ?_⟩
          refine htend <| hsub (ρ' := [(37, _), (7, _), (34, _), (33, _), (22, _), (21, _), (6, _), (16, _), (15, _), (14, _), (13, _), (4, _), (3, _), (0, _), (1, _)]) ⟨rfl, rfl, rfl, rfl, rfl, rfl, rfl, rfl, rfl, rfl, rfl, rfl, rfl, rfl, rfl, trivial⟩ <| hmemQ (X' := [_, _, _, _, _, _, _]) (S' := [_, _, _, _]) (fun _ m => m) <| hqblock <| hqblock <| hthen <| hreg <| hy (fun _ => y_add rfl rfl (w64 (by omega) (by omega))) <| hy (fun _ => y_move rfl) <| hend <| hsub (ρ' := [(15, _), (37, _), (7, _), (34, _), (33, _), (22, _), (21, _), (6, _), (16, _), (14, _), (13, _), (4, _), (3, _), (0, _), (1, _)]) ⟨rfl, rfl, rfl, rfl, rfl, rfl, rfl, rfl, rfl, rfl, rfl, rfl, rfl, rfl, rfl, trivial⟩ <| ?_
          refine hmemQ (fun w m => m.eqX 0 rfl (show _ = RMap SV st.gl (vals (aput L p r.half)) from congrArg (RMap SV st.gl) (vals_put _ _ _))) ?_
          refine hnext6 (i + 1) ks.tail.tail (aput L p r.half) A13 n13 c13 ⟨rfl, rfl, rfl, rfl, rfl, rfl, rfl, trivial⟩ [2, 0, 1, 1, 1, 1] rfl [0, 3] rfl (⟨hp2, by omega, by rw [hfs, rstep, if_pos hb', hb2']; rfl⟩) (by omega)
        · have hb2' : ks.tail.headD false = true := by simpa using hb2
          refine hcskip <| hthen <| hdrw [5] [(0, some 0), (1, some 0), (2, some 0), (3, some 0), (4, some 0), (5, none)] (by kernel_rfl) (by kernel_rfl) rfl 0 <| hty (fun m => y_ldN rfl ag141 sz141 (by simp) (m.blk 1 rfl).cells0) <| htyU (y_move rfl) <| htyU (y_nilp rfl) <| htyU (y_fld rfl fa132_2 (by decide)) <| hty (fun m => y_ld1 rfl ag129 (ld_blk (m.blk 3 rfl) rfl)) <| ?_
          refine htx (xh_call rfl Tryz.call79 (wmakeC) [2] rfl [] rfl ?_)
          rintro _ _ _ ⟨rfl, rfl, rfl⟩
          refine ⟨(fun h => absurd h (by decide)), ?_⟩
          refine htend <| hsub (ρ' := [(37, _), (7, _), (34, _), (33, _), (22, _), (21, _), (6, _), (16, _), (15, _), (14, _), (13, _), (4, _), (3, _), (0, _), (1, _)]) ⟨rfl, rfl, rfl, rfl, rfl, rfl, rfl, rfl, rfl, rfl, rfl, rfl, rfl, rfl, rfl, trivial⟩ <| hmemQ (X' := [_, _, _, _, _, _, _]) (S' := [_, _, _, _]) (fun _ m => m) <| hqblock <| hqblock <| hthen <| hreg <| hy (fun _ => y_add rfl rfl (w64 (by omega) (by omega))) <| hy (fun _ => y_move rfl) <| hend <| hsub (ρ' := [(15, _), (37, _), (7, _), (34, _), (33, _), (22, _), (21, _), (6, _), (16, _), (14, _), (13, _), (4, _), (3, _), (0, _), (1, _)]) ⟨rfl, rfl, rfl, rfl, rfl, rfl, rfl, rfl, rfl, rfl, rfl, rfl, rfl, rfl, rfl, trivial⟩ <| ?_
          refine hmemQ (fun w m => m.eqX 0 rfl (show _ = RMap SV st.gl (vals (aput L p r)) from congrArg (RMap SV st.gl) (vals_put _ _ _))) ?_
          refine hnext6 (i + 1) ks.tail.tail (aput L p r) A13 n13 c13 ⟨rfl, rfl, rfl, rfl, rfl, rfl, rfl, trivial⟩ [1, 0, 1, 1, 1, 1] rfl [0, 3] rfl (⟨hp2, by omega, by rw [hfs, rstep, if_pos hb', hb2']; rfl⟩) (by omega)
      · refine hcskip <| hthen <| hseq <| hreg <| hy (fun _ => y_move rfl) <| hend <| hthen <| hblock <| hseq <| hreg <| hy (fun _ => y_tas rfl (show _ = Result.ok (Value.tuple #[.agg [SV [], .slice none 0 0].toArray, .bool false]) _ by kernel_rfl)) <| hy (fun _ => y_extract rfl rfl) <| hy (fun _ => y_extract rfl rfl) <| hend <| hsub (ρ' := [(34, _), (33, _), (22, _), (21, _), (6, _), (16, _), (15, _), (14, _), (13, _), (4, _), (3, _), (0, _), (1, _)]) ⟨rfl, rfl, rfl, rfl, rfl, rfl, rfl, rfl, rfl, rfl, rfl, rfl, rfl, trivial⟩ <| hthen <| ?_
        refine hiff rfl (rfl) ?_
        refine hseq <| hreg <| hy (fun _ => y_assign rfl) <| hend <| hsub (ρ' := [(34, _), (33, _), (22, _), (21, _), (6, _), (16, _), (15, _), (14, _), (13, _), (4, _), (3, _), (0, _), (1, _)]) ⟨rfl, rfl, rfl, rfl, rfl, rfl, rfl, rfl, rfl, rfl, rfl, rfl, rfl, trivial⟩ <| hthen <| hdrw [8] [(0, some 0), (1, some 0), (2, some 0), (3, some 0), (4, some 0), (5, some 0), (6, some 0), (7, some 0), (8, none)] (by kernel_rfl) (by kernel_rfl) rfl 0 <| htyU (y_move rfl) <| htyU (y_move rfl) <| htyU (y_nilp rfl) <| htyU (y_fld rfl fa132_2 (by decide)) <| hty (fun m => y_ld1 rfl ag129 (ld_blk (m.blk 2 rfl) rfl)) <| htyU (y_mkf rfl rfl) <| htyU (y_nilm rfl (by kernel_rfl)) <| htyU (y_move rfl) <| ?_
        refine htx (xh_inv rfl rfl (fun w => by kernel_rfl) Tryz.call268 (nmakeC) [1] rfl [] rfl ?_)
        rintro _ _ _ ⟨rfl, rfl, rfl⟩
        refine ⟨(fun h => absurd h (by decide)), ?_⟩
        refine htend <| hsub (ρ' := [(34, _), (33, _), (22, _), (21, _), (6, _), (16, _), (15, _), (14, _), (13, _), (4, _), (3, _), (0, _), (1, _)]) ⟨rfl, rfl, rfl, rfl, rfl, rfl, rfl, rfl, rfl, rfl, rfl, rfl, rfl, trivial⟩ <| hmemQ (X' := [_, _, _, _, _, _]) (S' := [_, _, _]) (fun _ m => m) <| hqblock <| hqblock <| hthen <| hreg <| hy (fun _ => y_add rfl rfl (w64 (by omega) (by omega))) <| hy (fun _ => y_move rfl) <| hend <| hsub (ρ' := [(15, _), (34, _), (33, _), (22, _), (21, _), (6, _), (16, _), (14, _), (13, _), (4, _), (3, _), (0, _), (1, _)]) ⟨rfl, rfl, rfl, rfl, rfl, rfl, rfl, rfl, rfl, rfl, rfl, rfl, rfl, trivial⟩ <| ?_
        refine hnext6 (i + 1) ks.tail (apl L (.renamed a c9)) A12 n12 c12 ⟨rfl, rfl, rfl, rfl, rfl, rfl, rfl, trivial⟩ [1, 0, 0, 0, 0, 0] rfl [0, 2] rfl (⟨hp, by omega, by rw [hfs]; unfold rstep; rw [if_pos hb']; rfl⟩) (by omega)
      · refine hcskip <| hthen <| hseq <| hreg <| hy (fun _ => y_move rfl) <| hend <| hthen <| hblock <| hseq <| hreg <| hy (fun _ => y_tas rfl (show _ = Result.ok (Value.tuple #[.agg [SV [], .slice none 0 0].toArray, .bool false]) _ by kernel_rfl)) <| hy (fun _ => y_extract rfl rfl) <| hy (fun _ => y_extract rfl rfl) <| hend <| hsub (ρ' := [(34, _), (33, _), (22, _), (21, _), (6, _), (16, _), (15, _), (14, _), (13, _), (4, _), (3, _), (0, _), (1, _)]) ⟨rfl, rfl, rfl, rfl, rfl, rfl, rfl, rfl, rfl, rfl, rfl, rfl, rfl, trivial⟩ <| hthen <| ?_
        refine hiff rfl (rfl) ?_
        refine hseq <| hreg <| hy (fun _ => y_assign rfl) <| hend <| hsub (ρ' := [(34, _), (33, _), (22, _), (21, _), (6, _), (16, _), (15, _), (14, _), (13, _), (4, _), (3, _), (0, _), (1, _)]) ⟨rfl, rfl, rfl, rfl, rfl, rfl, rfl, rfl, rfl, rfl, rfl, rfl, rfl, trivial⟩ <| hthen <| hdrw [8] [(0, some 0), (1, some 0), (2, some 0), (3, some 0), (4, some 0), (5, some 0), (6, some 0), (7, some 0), (8, none)] (by kernel_rfl) (by kernel_rfl) rfl 0 <| htyU (y_move rfl) <| htyU (y_move rfl) <| htyU (y_nilp rfl) <| htyU (y_fld rfl fa132_2 (by decide)) <| hty (fun m => y_ld1 rfl ag129 (ld_blk (m.blk 2 rfl) rfl)) <| htyU (y_mkf rfl rfl) <| htyU (y_nilm rfl (by kernel_rfl)) <| htyU (y_move rfl) <| ?_
        refine htx (xh_inv rfl rfl (fun w => by kernel_rfl) Tryz.call269 (vmakeC) [1] rfl [] rfl ?_)
        rintro _ _ _ ⟨rfl, rfl, rfl⟩
        refine ⟨(fun h => absurd h (by decide)), ?_⟩
        refine htend <| hsub (ρ' := [(34, _), (33, _), (22, _), (21, _), (6, _), (16, _), (15, _), (14, _), (13, _), (4, _), (3, _), (0, _), (1, _)]) ⟨rfl, rfl, rfl, rfl, rfl, rfl, rfl, rfl, rfl, rfl, rfl, rfl, rfl, trivial⟩ <| hmemQ (X' := [_, _, _, _, _, _]) (S' := [_, _, _]) (fun _ m => m) <| hqblock <| hqblock <| hthen <| hreg <| hy (fun _ => y_add rfl rfl (w64 (by omega) (by omega))) <| hy (fun _ => y_move rfl) <| hend <| hsub (ρ' := [(15, _), (34, _), (33, _), (22, _), (21, _), (6, _), (16, _), (14, _), (13, _), (4, _), (3, _), (0, _), (1, _)]) ⟨rfl, rfl, rfl, rfl, rfl, rfl, rfl, rfl, rfl, rfl, rfl, rfl, rfl, trivial⟩ <| ?_
        refine hnext6 (i + 1) ks.tail (apl L (.removed p)) A12 n12 c12 ⟨rfl, rfl, rfl, rfl, rfl, rfl, rfl, trivial⟩ [1, 0, 0, 0, 0, 0] rfl [0, 2] rfl (⟨hp, by omega, by rw [hfs, rstep, if_pos hb']; rfl⟩) (by omega)
  · obtain rfl : i = st.waits.length := by omega
    have hL : L = (rfold bs st st.waits.length).2 := by rw [← hf]
    refine hexit <| hthen_exit <| hthen_exit <| hqblock_exit <| hthen <| hreg <| hy (fun _ => y_move rfl) <| hy (fun _ => y_move rfl) <| hy (fun _ => y_move rfl) <| hy (fun _ => y_move rfl) <| hy (fun _ => y_nilp rfl) <| hy (fun _ => y_fld rfl fa132_2 (by decide)) <| hy (fun m => y_ld1 rfl ag129 (ld_blk (m.blk 2 rfl) rfl)) <| ?_
    refine hx (xh_call rfl Tryz.call80 (mcloneC) [1] rfl [] rfl ?_)
    rintro _ _ _ ⟨g1, rfl, rfl, rfl⟩
    refine hy (fun _ => y_nilp rfl) <| hy (fun _ => y_fld rfl fa132_1 (by decide)) <| ?_
    refine hx0 (xh_st1a 3 rfl rfl rfl sz129 rfl (by first | exact Nat.le_of_ble_eq_true rfl | simp) ?_)
    refine hy (fun _ => y_nilp rfl) <| hy (fun _ => y_fld rfl fa132_3 (by decide)) <| ?_
    refine hx0 (xh_st1a 0 rfl rfl rfl sz130 rfl (by first | exact Nat.le_of_ble_eq_true rfl | simp) ?_)
    refine hy (fun _ => y_nilp rfl) <| hy (fun _ => y_fld rfl fa132_4 (by decide)) <| ?_
    refine hx0 (xh_st1a 0 rfl rfl rfl sz3 rfl (by first | exact Nat.le_of_ble_eq_true rfl | simp) ?_)
    refine hend <| hsub (ρ' := [(16, _), (15, _), (14, _), (13, _), (4, _), (3, _), (0, _), (1, _)]) ⟨rfl, rfl, rfl, rfl, rfl, rfl, rfl, rfl, trivial⟩ <| hmemQ (X' := [_, _, _, _, _, _, _]) (S' := [_, _]) (fun _ m => m) <| ?_
    refine hmemQ (fun w m => m.addX (r' := ROwn 139 1 (.slice none 0 0) 0 []) (.refl _ _) (Own.nil _ _ _ _) (fun k hk => hk.elim)) ?_
    have e : ∀ gs, st.started bs gs = { st with gs := gs, seen := L, lasts := L, waits := [], wA := none, wc := 0, power := -1 } := fun gs => by rw [hL]; rfl
    refine hmemQ (fun w m => m.eqX 1 rfl (show _ = RBlk g 132 (dcells (st.started bs g1)) from rfl)) ?_
    refine hmemQ (fun w m => m.eqX 3 rfl (show _ = RMap SV g1 (vals (st.started bs g1).seen) from by rw [hL]; rfl)) ?_
    refine hmemQ (fun w m => m.eqX 3 rfl (show _ = RMap SV st.gl (vals (st.started bs g1).lasts) from by rw [hL]; rfl)) ?_
    refine hmemQ (X' := RRows (rowsOf (st.started bs g1)) :: _) (fun w m => (m.perm (takeR_perm [7] _ [_] _ rfl)).rowHalf (rows_started g1)) ?_
    refine hmemQ (X' := RDisk g (st.started bs g1) :: _) (fun w m => (m.perm (takeR_perm [3, 2, 1, 1, 0] _ [_, _, _, _, _] _ rfl)).pack) ?_
    exact hret0 trivial rfl [0] rfl [] rfl ⟨_, rfl, rfl, rfl⟩
end Go.Proofs.YtfikjheicjamhaaGreatDoor
end
section
/- Contracts: the document's disk (layer 12), as one thing: Read, Write, Rename, Remove, Sync, Power, Restart. -/
set_option linter.unusedVariables false
set_option linter.unusedSimpArgs false
set_option maxRecDepth 20000
namespace Go.Proofs.YtfikjheicjamhaaGreatDoor
open Go.Eng Go.Hx
/-- a disk of the document, and where its lists lie -/
structure RX where
  d : RD
  A : Option Addr
  c : Nat
  Al : Option Addr
  cl : Nat
  A3 : Option Addr
  c3 : Nat
def RX.cs (x : RX) : List Value := rv x.d x.A x.d.seen.length x.c x.Al x.d.lasts.length x.cl x.A3 x.d.waits.length x.c3
abbrev RX.parts (x : RX) : List Res := [RRd 2 x.A x.d.seen.length (fc x.d.seen), RRd 2 x.Al x.d.lasts.length (fc x.d.lasts), RRd 4 x.A3 x.d.waits.length (wcs x.d.waits)]
def RRef (x : RX) : Res := RAll x.parts
theorem cs_one {x : RX} : ∀ u ∈ x.cs, u.oneCell' = true := dv_one
theorem View.ref0 {x : RX} : View (RRef x) (RRd 2 x.A x.d.seen.length (fc x.d.seen)) := View.alls 0 rfl
theorem View.ref1 {x : RX} : View (RRef x) (RRd 2 x.Al x.d.lasts.length (fc x.d.lasts)) := View.alls 1 rfl
theorem View.ref2 {x : RX} : View (RRef x) (RRd 4 x.A3 x.d.waits.length (wcs x.d.waits)) := View.alls 2 rfl
def RD.new (room : Int) : RD := ⟨room, [], [], [], -1⟩
def RX.new (room : Int) : RX := ⟨RD.new room, none, 0, none, 0, none, 0⟩
theorem der_ref {y : RX} {S : List Res} (h0 : ∃ t ∈ S, View t (RRd 2 y.A y.d.seen.length (fc y.d.seen))) (h1 : ∃ t ∈ S, View t (RRd 2 y.Al y.d.lasts.length (fc y.d.lasts))) (h2 : ∃ t ∈ S, View t (RRd 4 y.A3 y.d.waits.length (wcs y.d.waits))) : Der S [RRef y] := by
  refine Der.cons (fun s hs => ?_) Der.nil
  simp only [List.mem_cons, List.not_mem_nil, or_false] at hs
  rcases hs with rfl | rfl | rfl
  · exact h0
  · exact h1
  · exact h2
theorem ref_new {room : Int} : Der [] [RRef (RX.new room)] := by
  intro s hs
  obtain rfl := List.mem_singleton.1 hs
  refine ⟨fun w _ x hx => ?_, fun k hk => ?_⟩
  · simp only [List.mem_cons, List.not_mem_nil, or_false] at hx
    rcases hx with rfl | rfl | rfl <;> exact Rd.nil _ _ _
  · obtain ⟨x, hx, hk⟩ := hk
    simp only [List.mem_cons, List.not_mem_nil, or_false] at hx
    rcases hx with rfl | rfl | rfl <;> exact absurd rfl hk.1
theorem in1 {r : Res} {S : List Res} : ∃ t ∈ r :: S, View t r := ⟨r, List.mem_cons_self .., .same⟩
theorem inr {r a : Res} {S : List Res} (h : ∃ t ∈ S, View t r) : ∃ t ∈ a :: S, View t r := by
  obtain ⟨t, ht, hv⟩ := h
  exact ⟨t, List.mem_cons_of_mem _ ht, hv⟩
theorem inv1 {r a : Res} {S : List Res} (h : View a r) : ∃ t ∈ a :: S, View t r := ⟨a, List.mem_cons_self .., h⟩
theorem rnewX {room : Int} : Con Tryz.prog 35 [.int .i64 room] [] [] (fun v_ X_ S_ => ∃ y, v_ = (.agg y.cs.toArray) ∧ X_ = [] ∧ S_ = [RRef y] ∧ (y.d = RD.new room)) := by
  exact Con.viaS rnewC (fun s hs => by cases hs) (fun v X S h => by
    obtain ⟨rfl, rfl, rfl⟩ := h
    exact ⟨_, ⟨RX.new room, rfl, rfl, rfl, rfl⟩, ref_new⟩)
theorem rreadX {x : RX} {kk : Nat} {p : List UInt8} (ok : ROk x.d kk) (hkk : kk ≤ 100000) : Con Tryz.prog 64 [.agg x.cs.toArray, .string (strOf p)] [] [RRef x] (fun v_ X_ S_ => v_ = (.tuple #[.string (strOf (x.d.readB p)), .int .i64 (x.d.readE p)]) ∧ X_ = [] ∧ S_ = []) := by
  exact Con.viaS (rreadC rfl ok hkk) (fun s hs => ⟨_, List.mem_singleton_self _, by rw [List.mem_singleton.1 hs]; exact View.ref0⟩) (fun v X S h => ⟨[], ⟨h.1, h.2.1, rfl⟩, Der.nil⟩)
theorem write_lasts (d : RD) (p bb : List UInt8) : (d.write p bb).lasts = d.lasts := by
  unfold RD.write
  split <;> rfl
theorem views02 {x : RX} : ∀ s ∈ [RRd 2 x.A x.d.seen.length (fc x.d.seen), RRd 4 x.A3 x.d.waits.length (wcs x.d.waits)], ∃ t ∈ [RRef x], View t s := by
  intro s hs
  refine ⟨_, List.mem_singleton_self _, ?_⟩
  simp only [List.mem_cons, List.not_mem_nil, or_false] at hs
  rcases hs with rfl | rfl
  · exact View.ref0
  · exact View.ref2
theorem rwriteX {x : RX} {kk : Nat} {p bb : List UInt8} (ok : ROk x.d kk) (hkk : kk ≤ 100000) (hpl : p.length ≤ 1000000) (hbb : bb.length ≤ 1000000) : Con Tryz.prog 40 [.agg x.cs.toArray, .string (strOf p), .string (strOf bb)] [] [RRef x] (fun v_ X_ S_ => ∃ y, v_ = (.tuple #[.agg y.cs.toArray, .int .i64 (x.d.writeE p bb)]) ∧ X_ = [] ∧ S_ = [RRef y] ∧ (y.d = x.d.write p bb)) := by
  refine Con.viaS (rwriteC rfl rfl ok hkk hpl hbb) views02 (fun v X S h => ?_)
  obtain ⟨A1, n1, c1, A2, n2, c2, rfl, rfl, rfl, rfl, rfl⟩ := h
  refine ⟨_, ⟨⟨x.d.write p bb, A1, c1, x.Al, x.cl, A2, c2⟩, by unfold RX.cs; simp only [write_lasts], rfl, rfl, rfl⟩, der_ref in1 (inr (inr (inv1 ?_))) (inr in1)⟩
  simp only [write_lasts]
  exact View.ref1
theorem rdoX {x : RX} {kk : Nat} {k : Int} {p t bb : List UInt8} (ok : ROk x.d kk) (hkk : kk ≤ 100000) : Con Tryz.prog 108 [.agg x.cs.toArray, .agg (cv k p t bb).toArray] [] [RRef x] (fun v_ X_ S_ => ∃ y, v_ = (.agg y.cs.toArray) ∧ X_ = [] ∧ S_ = [RRef y] ∧ (y.d = x.d.did k p t bb)) := by
  have h1 := ok.seen
  have h2 := ok.waits
  refine Con.viaS (rdoC rfl (by omega) rfl (by omega) ok.p1 ok.p2) views02 (fun v X S h => ?_)
  obtain ⟨A1, n1, c1, A2, n2, c2, rfl, rfl, rfl, rfl, _, rfl⟩ := h
  have e : (x.d.waits ++ [(k, p, t, bb)]).length = x.d.waits.length + 1 := by simp
  refine ⟨_, ⟨⟨x.d.did k p t bb, A1, c1, x.Al, x.cl, A2, c2⟩, by unfold RX.cs; simp only [RD.did, e]; rfl, rfl, rfl, rfl⟩, der_ref in1 (inr (inr (inv1 View.ref1))) (inr (inv1 ?_))⟩
  simp only [RD.did, e]
  exact .same
/-- what is told of a Rename -/
def RD.renameE (d : RD) (a c : List UInt8) : Int := if ¬ Named c then 1 else d.readE a
def RD.rename (d : RD) (a c : List UInt8) : RD := if d.renameE a c = 0 then d.did 1 a c [] else d
theorem rrenameX {x : RX} {kk : Nat} {a c : List UInt8} (ok : ROk x.d kk) (hkk : kk ≤ 100000) (hcl : c.length ≤ 1000000) : Con Tryz.prog 103 [.agg x.cs.toArray, .string (strOf a), .string (strOf c)] [] [RRef x] (fun v_ X_ S_ => ∃ y, v_ = (.tuple #[.agg y.cs.toArray, .int .i64 (x.d.renameE a c)]) ∧ X_ = [] ∧ S_ = [RRef y] ∧ (y.d = x.d.rename a c)) := by
  refine henter (N := 31) Tryz.func103 rfl rfl (by simp) fun b => ?_
  refine hseq <| hreg <| ?_
  refine hx (xh_box rfl (fun g3 => ?_))
  refine hmemL (fun w m => m.eqX 0 rfl (show _ = RBlk g3 46 x.cs from congrArg (RBlk _ _) (cells_agg _))) ?_
  refine hx (xh_alloc ti46 (fun g6 => ?_))
  refine hy (fun _ => y_assign rfl) <| hend <| hmemQ (X' := [_, _]) (S' := [_]) (fun _ m => m) <| hthen <| hseq <| hreg <| hy (fun _ => y_move rfl) <| ?_
  refine hx (xh_call rfl Tryz.call106 (rnamedC (by omega)) [] rfl [] rfl ?_)
  rintro _ _ _ ⟨rfl, rfl, rfl⟩
  refine hy (fun _ => y_assign rfl) <| hend <| hsub (ρ' := [(8, _), (7, _), (6, _), (3, _), (0, _), (1, _), (2, _)]) ⟨rfl, rfl, rfl, rfl, rfl, rfl, rfl, trivial⟩ <| hmemQ (X' := [_, _]) (S' := [_]) (fun _ m => m) <| hthen <| hseq <| hseq <| hreg <| hy (fun _ => y_move rfl) <| hy (fun _ => y_notp rfl) <| hend <| hsub (ρ' := [(14, _), (8, _), (7, _), (6, _), (3, _), (0, _), (1, _), (2, _)]) ⟨rfl, rfl, rfl, rfl, rfl, rfl, rfl, rfl, trivial⟩ <| hthen <| ?_
  refine hif rfl (fun hN => ?_) (fun hN => ?_)
  · have hE : x.d.renameE a c = 1 := by rw [RD.renameE, if_pos hN]
    have hE0 : ¬ (1 : Int) = 0 := by decide
    have hW : x.d.rename a c = x.d := by rw [RD.rename, if_neg (by rw [hE]; exact hE0)]
    rw [hE, hW]
    refine hseq <| hreg <| hy (fun m => yV (y_ldN rfl ag46 sz46 rfl ((m.blk 1 rfl).cells0)) ((rfl : _ = Value.agg x.cs.toArray))) <| ?_
    refine hx0 (xh_stA 0 rfl rfl rfl sz46 rfl cs_one rfl ?_)
    refine hy (fun _ => y_assign rfl) <| hend <| hsub (ρ' := [(7, _), (14, _), (8, _), (6, _), (3, _), (0, _), (1, _), (2, _)]) ⟨rfl, rfl, rfl, rfl, rfl, rfl, rfl, rfl, trivial⟩ <| hmemQ (X' := [_, _]) (S' := [_]) (fun _ m => m) <| hthen <| hret <| hthen_ret <| ?_
    exact hretN1 trivial rfl rfl rfl ag46 sz46 rfl (fun m => (m.blk 0 rfl).cells0) [] rfl [0] rfl ⟨x, rfl, rfl, rfl, rfl⟩
  · have hE : x.d.renameE a c = x.d.readE a := by rw [RD.renameE, if_neg hN]
    refine hcskip <| hthen <| hseq <| hreg <| hy (fun m => yV (y_ldN rfl ag46 sz46 rfl ((m.blk 1 rfl).cells0)) ((rfl : _ = Value.agg x.cs.toArray))) <| hy (fun _ => y_move rfl) <| ?_
    refine hx (xh_call rfl Tryz.call64 (rreadX (by omega) (by omega)) [] rfl [0] rfl ?_)
    rintro _ _ _ ⟨rfl, rfl, rfl⟩
    refine hy (fun _ => y_move rfl) <| hy (fun _ => y_extract rfl rfl) <| hy (fun _ => y_extract rfl rfl) <| hy (fun _ => y_assign rfl) <| hy (fun _ => y_assign rfl) <| hend <| hsub (ρ' := [(10, _), (14, _), (8, _), (7, _), (6, _), (3, _), (0, _), (1, _), (2, _)]) ⟨rfl, rfl, rfl, rfl, rfl, rfl, rfl, rfl, rfl, trivial⟩ <| hmemQ (X' := [_, _]) (S' := [_]) (fun _ m => m) <| hthen <| hseq <| hseq <| hreg <| hy (fun _ => y_move rfl) <| hy (fun _ => y_neq rfl rfl) <| hend <| hsub (ρ' := [(23, _), (10, _), (14, _), (8, _), (7, _), (6, _), (3, _), (0, _), (1, _), (2, _)]) ⟨rfl, rfl, rfl, rfl, rfl, rfl, rfl, rfl, rfl, rfl, trivial⟩ <| hthen <| ?_
    refine hif rfl (fun hE0 => ?_) (fun hE0 => ?_)
    · have hW : x.d.rename a c = x.d := by rw [RD.rename, if_neg (by rw [hE]; exact hE0)]
      rw [hE, hW]
      refine hseq <| hreg <| hy (fun m => yV (y_ldN rfl ag46 sz46 rfl ((m.blk 1 rfl).cells0)) ((rfl : _ = Value.agg x.cs.toArray))) <| hy (fun _ => y_move rfl) <| ?_
      refine hx0 (xh_stA 0 rfl rfl rfl sz46 rfl cs_one rfl ?_)
      refine hy (fun _ => y_assign rfl) <| hend <| hsub (ρ' := [(7, _), (23, _), (10, _), (14, _), (8, _), (6, _), (3, _), (0, _), (1, _), (2, _)]) ⟨rfl, rfl, rfl, rfl, rfl, rfl, rfl, rfl, rfl, rfl, trivial⟩ <| hmemQ (X' := [_, _]) (S' := [_]) (fun _ m => m) <| hthen <| hret <| hthen_ret <| ?_
      exact hretN1 trivial rfl rfl rfl ag46 sz46 rfl (fun m => (m.blk 0 rfl).cells0) [] rfl [0] rfl ⟨x, rfl, rfl, rfl, rfl⟩
    · have hr0 := Decidable.not_not.1 hE0
      have hW : x.d.rename a c = x.d.did 1 a c [] := by rw [RD.rename, if_pos (by rw [hE]; exact hr0)]
      rw [hE, hW, hr0]
      refine hcskip <| hthen <| hseq <| hreg <| hy (fun m => yV (y_ldN rfl ag46 sz46 rfl ((m.blk 1 rfl).cells0)) ((rfl : _ = Value.agg x.cs.toArray))) <| hy (fun _ => y_move rfl) <| hy (fun _ => y_move rfl) <| hy (fun _ => yV (y_build ti175 rfl rfl (by kernel_rfl) (.cons (o := 0) (sz := 1) (by kernel_rfl) rfl rfl (Nat.le_of_ble_eq_true rfl) (.cons (o := 1) (sz := 1) (by kernel_rfl) rfl rfl (Nat.le_of_ble_eq_true rfl) (.cons (o := 2) (sz := 1) (by kernel_rfl) rfl rfl (Nat.le_of_ble_eq_true rfl) .nil)))) ((rfl : _ = Value.agg (cv 1 a c []).toArray))) <| ?_
      refine hx (xh_call rfl Tryz.call108 (rdoX (by omega) (by omega)) [] rfl [0] rfl ?_)
      rintro _ _ _ ⟨y, rfl, rfl, rfl, hp⟩
      refine hx0 (xh_stA 0 rfl rfl rfl sz46 rfl cs_one rfl ?_)
      refine hy (fun _ => y_assign rfl) <| hend <| hsub (ρ' := [(7, _), (23, _), (10, _), (14, _), (8, _), (6, _), (3, _), (0, _), (1, _), (2, _)]) ⟨rfl, rfl, rfl, rfl, rfl, rfl, rfl, rfl, rfl, rfl, trivial⟩ <| hmemQ (X' := [_, _]) (S' := [_, _]) (fun _ m => m) <| hthen <| hret <| ?_
      exact hretN1 trivial rfl rfl rfl ag46 sz46 rfl (fun m => (m.blk 0 rfl).cells0) [] rfl [0] rfl ⟨y, rfl, rfl, rfl, hp⟩
def RD.syncE (d : RD) : Int := if d.pw = 0 then 6 else 0
def RD.sync (d : RD) : RD := if d.pw = 0 then d else { d with lasts := d.seen, waits := [], pw := lessP d.pw }
theorem rsyncX {x : RX} {kk : Nat} (ok : ROk x.d kk) : Con Tryz.prog 102 [.agg x.cs.toArray] [] [RRef x] (fun v_ X_ S_ => ∃ y, v_ = (.tuple #[.agg y.cs.toArray, .int .i64 x.d.syncE]) ∧ X_ = [] ∧ S_ = [RRef y] ∧ (y.d = x.d.sync)) := by
  have hp1 := ok.p1
  have hp2 := ok.p2
  refine henter (N := 20) Tryz.func102 rfl rfl (by simp) fun b => ?_
  refine hseq <| hreg <| ?_
  refine hx (xh_box rfl (fun g1 => ?_))
  refine hmemL (fun w m => m.eqX 0 rfl (show _ = RBlk g1 46 x.cs from congrArg (RBlk _ _) (cells_agg _))) ?_
  refine hx (xh_alloc ti46 (fun g2 => ?_))
  refine hy (fun _ => y_assign rfl) <| hend <| hmemQ (X' := [_, _]) (S' := [_]) (fun _ m => m) <| hthen <| hseq <| hseq <| hreg <| hy (fun _ => y_fld rfl fa46_4 (by decide)) <| hy (fun m => y_ld1 rfl ag3 (ld_blk (m.blk 1 rfl) (i := 4) rfl)) <| hy (fun _ => y_eql rfl rfl) <| hend <| hsub (ρ' := [(6, _), (3, _), (2, _), (1, _), (0, _)]) ⟨rfl, rfl, rfl, rfl, rfl, trivial⟩ <| hthen <| ?_
  refine hif rfl (fun h0 => ?_) (fun h0 => ?_)
  · have hE : x.d.syncE = 6 := by rw [RD.syncE, if_pos h0]
    have hW : x.d.sync = x.d := by rw [RD.sync, if_pos h0]
    rw [hE, hW]
    refine hseq <| hreg <| hy (fun m => yV (y_ldN rfl ag46 sz46 rfl ((m.blk 1 rfl).cells0)) ((rfl : _ = Value.agg x.cs.toArray))) <| ?_
    refine hx0 (xh_stA 0 rfl rfl rfl sz46 rfl cs_one rfl ?_)
    refine hy (fun _ => y_assign rfl) <| hend <| hsub (ρ' := [(3, _), (6, _), (2, _), (1, _), (0, _)]) ⟨rfl, rfl, rfl, rfl, rfl, trivial⟩ <| hmemQ (X' := [_, _]) (S' := [_]) (fun _ m => m) <| hthen <| hret <| hthen_ret <| ?_
    exact hretN1 trivial rfl rfl rfl ag46 sz46 rfl (fun m => (m.blk 0 rfl).cells0) [] rfl [0] rfl ⟨x, rfl, rfl, rfl, rfl⟩
  · have hE : x.d.syncE = 0 := by rw [RD.syncE, if_neg h0]
    have hW : x.d.sync = { x.d with lasts := x.d.seen, waits := [], pw := lessP x.d.pw } := by rw [RD.sync, if_neg h0]
    rw [hE]
    refine hmemC (fun w m => m.asV 0 rfl View.ref0) ?_
    refine hfactC (fun m => rdX (m.rd 0 rfl)) ?_
    rintro ⟨hl_r0, hA_r0⟩
    refine hmemC (fun w m => m.addS (r' := RRd 4 none 0 []) (.refl _ _) (Rd.nil _ _ _) (fun k hk => absurd rfl hk.1)) ?_
    have hA_z : 0 < 0 → (none : Option Addr) ≠ none := fun h => absurd h (by decide)
    refine hcskip <| hthen <| hseq <| hreg <| hy (fun _ => y_fld rfl fa46_1 (by decide)) <| hy (fun m => y_ld1 rfl ag43 (ld_blk (m.blk 1 rfl) (i := 1) rfl)) <| hy (fun _ => y_fld rfl fa46_2 (by decide)) <| ?_
    refine hx0 (xh_st1a 1 rfl rfl rfl sz43 rfl (by first | exact Nat.le_of_ble_eq_true rfl | simp) ?_)
    refine hend <| hsub (ρ' := [(6, _), (3, _), (2, _), (1, _), (0, _)]) ⟨rfl, rfl, rfl, rfl, rfl, trivial⟩ <| hmemQ (X' := [_, _]) (S' := [_, _, _]) (fun _ m => m) <| hthen <| hseq <| hreg <| hy (fun _ => y_fld rfl fa46_3 (by decide)) <| ?_
    refine hx0 (xh_st1a 0 rfl rfl rfl sz44 rfl (by first | exact Nat.le_of_ble_eq_true rfl | simp) ?_)
    refine hend <| hsub (ρ' := [(6, _), (3, _), (2, _), (1, _), (0, _)]) ⟨rfl, rfl, rfl, rfl, rfl, trivial⟩ <| hmemQ (X' := [_, _]) (S' := [_, _, _]) (fun _ m => m) <| hthen <| hseq <| hseq <| hreg <| hy (fun _ => y_fld rfl fa46_4 (by decide)) <| hy (fun m => y_ld1 rfl ag3 (ld_blk (m.blk 0 rfl) (i := 4) rfl)) <| hy (fun _ => y_gtr rfl rfl) <| hend <| hsub (ρ' := [(14, _), (6, _), (3, _), (2, _), (1, _), (0, _)]) ⟨rfl, rfl, rfl, rfl, rfl, rfl, trivial⟩ <| hthen <| ?_
    refine hmemC (S' := RRef ⟨{ x.d with lasts := x.d.seen, waits := [], pw := lessP x.d.pw }, x.A, x.c, x.A, x.c, none, 0⟩ :: _) (fun w m => m.allS [1, 1, 0] rfl) ?_
    refine hif rfl (fun h1 => ?_) (fun h1 => ?_)
    · refine hreg <| hy (fun _ => y_fld rfl fa46_4 (by decide)) <| hy (fun m => y_ld1 rfl ag3 (ld_blk (m.blk 0 rfl) (i := 4) rfl)) <| hy (fun _ => y_sub rfl rfl (w64 (by omega) (by omega))) <| hy (fun _ => y_fld rfl fa46_4 (by decide)) <| ?_
      refine hx0 (xh_st1a 0 rfl rfl rfl sz3 rfl (by first | exact Nat.le_of_ble_eq_true rfl | simp) ?_)
      refine hend <| hsub (ρ' := [(14, _), (6, _), (3, _), (2, _), (1, _), (0, _)]) ⟨rfl, rfl, rfl, rfl, rfl, rfl, trivial⟩ <| hmemQ (X' := [_, _]) (S' := [_, _, _, _]) (fun _ m => m) <| hthen <| hseq <| hreg <| ?_
      refine hmemL (fun w m => m.eqX 0 rfl (show _ = RBlk g1 46 (RX.cs ⟨{ x.d with lasts := x.d.seen, waits := [], pw := lessP x.d.pw }, x.A, x.c, x.A, x.c, none, 0⟩) from by rw [lessP, if_pos h1]; rfl)) ?_
      refine hy (fun m => yV (y_ldN rfl ag46 sz46 rfl ((m.blk 0 rfl).cells0)) ((rfl : _ = Value.agg (RX.cs ⟨{ x.d with lasts := x.d.seen, waits := [], pw := lessP x.d.pw }, x.A, x.c, x.A, x.c, none, 0⟩).toArray))) <| ?_
      refine hx0 (xh_stA 1 rfl rfl rfl sz46 rfl cs_one rfl ?_)
      refine hy (fun _ => y_assign rfl) <| hend <| hsub (ρ' := [(3, _), (14, _), (6, _), (2, _), (1, _), (0, _)]) ⟨rfl, rfl, rfl, rfl, rfl, rfl, trivial⟩ <| hmemQ (X' := [_, _]) (S' := [_, _, _, _]) (fun _ m => m) <| hthen <| hret <| ?_
      exact hretN1 trivial rfl rfl rfl ag46 sz46 rfl (fun m => (m.blk 0 rfl).cells0) [] rfl [0] rfl ⟨_, rfl, rfl, rfl, hW.symm⟩
    · refine hcskip <| hthen <| hseq <| hreg <| ?_
      refine hmemL (fun w m => m.eqX 0 rfl (show _ = RBlk g1 46 (RX.cs ⟨{ x.d with lasts := x.d.seen, waits := [], pw := lessP x.d.pw }, x.A, x.c, x.A, x.c, none, 0⟩) from by rw [lessP, if_neg h1]; rfl)) ?_
      refine hy (fun m => yV (y_ldN rfl ag46 sz46 rfl ((m.blk 0 rfl).cells0)) ((rfl : _ = Value.agg (RX.cs ⟨{ x.d with lasts := x.d.seen, waits := [], pw := lessP x.d.pw }, x.A, x.c, x.A, x.c, none, 0⟩).toArray))) <| ?_
      refine hx0 (xh_stA 1 rfl rfl rfl sz46 rfl cs_one rfl ?_)
      refine hy (fun _ => y_assign rfl) <| hend <| hsub (ρ' := [(3, _), (14, _), (6, _), (2, _), (1, _), (0, _)]) ⟨rfl, rfl, rfl, rfl, rfl, rfl, trivial⟩ <| hmemQ (X' := [_, _]) (S' := [_, _, _, _]) (fun _ m => m) <| hthen <| hret <| ?_
      exact hretN1 trivial rfl rfl rfl ag46 sz46 rfl (fun m => (m.blk 0 rfl).cells0) [] rfl [0] rfl ⟨_, rfl, rfl, rfl, hW.symm⟩
def RD.power (d : RD) (n : Int) : RD := { d with pw := max n (-1) }
theorem rpowerX {x : RX} {n : Int} : Con Tryz.prog 57 [.agg x.cs.toArray, .int .i64 n] [] [RRef x] (fun v_ X_ S_ => ∃ y, v_ = (.agg y.cs.toArray) ∧ X_ = [] ∧ S_ = [RRef y] ∧ (y.d = x.d.power n)) := by
  refine henter (N := 9) Tryz.func57 rfl rfl (by simp) fun b => ?_
  refine hseq <| hreg <| ?_
  refine hx (xh_box rfl (fun g2 => ?_))
  refine hmemL (fun w m => m.eqX 0 rfl (show _ = RBlk g2 46 x.cs from congrArg (RBlk _ _) (cells_agg _))) ?_
  refine hmemL (fun w m => m.asV 0 rfl View.ref0) ?_
  refine hfactL (fun m => rdX (m.rd 0 rfl)) ?_
  rintro ⟨hl_r0, hA_r0⟩
  refine hmemL (fun w m => m.asV 1 rfl View.ref1) ?_
  refine hfactL (fun m => rdX (m.rd 0 rfl)) ?_
  rintro ⟨hl_r1, hA_r1⟩
  refine hmemL (fun w m => m.asV 2 rfl View.ref2) ?_
  refine hfactL (fun m => rdX (m.rd 0 rfl)) ?_
  rintro ⟨hl_r2, hA_r2⟩
  refine hx (xh_alloc ti46 (fun g4 => ?_))
  refine hend <| hmemQ (X' := [_, _]) (S' := [_, _, _, _]) (fun _ m => m) <| hthen <| hseq <| hreg <| hy (fun _ => y_move rfl) <| hy (fun _ => y_max rfl rfl) <| hy (fun _ => y_fld rfl fa46_4 (by decide)) <| ?_
  refine hx0 (xh_st1a 1 rfl rfl rfl sz3 rfl (by first | exact Nat.le_of_ble_eq_true rfl | simp) ?_)
  refine hend <| hsub (ρ' := [(4, _), (2, _), (0, _), (1, _)]) ⟨rfl, rfl, rfl, rfl, trivial⟩ <| hmemQ (X' := [_, _]) (S' := [_, _, _, _]) (fun _ m => m) <| hthen <| hseq <| hreg <| ?_
  refine hmemL (S' := RRef ⟨x.d.power n, x.A, x.c, x.Al, x.cl, x.A3, x.c3⟩ :: _) (fun w m => m.allS [2, 1, 0] rfl) ?_
  refine hmemL (fun w m => m.eqX 0 rfl (show _ = RBlk g2 46 (RX.cs ⟨x.d.power n, x.A, x.c, x.Al, x.cl, x.A3, x.c3⟩) from rfl)) ?_
  refine hy (fun m => yV (y_ldN rfl ag46 sz46 rfl ((m.blk 0 rfl).cells0)) ((rfl : _ = Value.agg (RX.cs ⟨x.d.power n, x.A, x.c, x.Al, x.cl, x.A3, x.c3⟩).toArray))) <| ?_
  refine hx0 (xh_stA 1 rfl rfl rfl sz46 rfl cs_one rfl ?_)
  refine hend <| hsub (ρ' := [(4, _), (2, _), (0, _), (1, _)]) ⟨rfl, rfl, rfl, rfl, trivial⟩ <| hmemQ (X' := [_, _]) (S' := [_, _, _, _, _]) (fun _ m => m) <| hthen <| hret <| ?_
  exact hretN trivial rfl rfl ag46 sz46 rfl (fun m => (m.blk 0 rfl).cells0) [] rfl [0] rfl ⟨_, rfl, rfl, rfl, rfl⟩
end Go.Proofs.YtfikjheicjamhaaGreatDoor
end
section
/- Contracts: the document's superblock, saved (layer 22). -/
set_option linter.unusedVariables false
set_option linter.unusedSimpArgs false
set_option maxRecDepth 20000
namespace Go.Proofs.YtfikjheicjamhaaGreatDoor
open Go.Eng Go.Hx
theorem rputSC {A : Option Addr} {k c : Nat} {l : List UInt8} {x : Sl} (h : x.wf) (hm : x.may) (hk : k ≤ 1000000) : Con Tryz.prog 179 [.slice A k c, .agg x.cs.toArray] [ROwn 5 1 (.slice A k c) k (b8s l)] [] (fun v_ X_ S_ => ∃ A1 c1, v_ = (.slice A1 (k + 37) c1) ∧ X_ = [ROwn 5 1 (.slice A1 (k + 37) c1) (k + 37) (b8s (l ++ x.by_))] ∧ S_ = []) := by
  have hz : x.size = (x.size.toNat : Int) ∧ x.size.toNat ≤ 65536 := by have := hm.1; have := hm.2.1; omega
  refine henter (N := 23) Tryz.func179 rfl rfl (by simp) fun b => ?_
  refine hseq <| hreg <| ?_
  refine hx (xh_box rfl (fun g3 => ?_))
  refine hmemL (fun w m => m.eqX 0 rfl (show _ = RBlk g3 49 x.cs from congrArg (RBlk _ _) (cells_agg _))) ?_
  refine hy (fun _ => y_assign rfl) <| hend <| hmemQ (X' := [_, _]) (S' := []) (fun _ m => m) <| hthen <| hseq <| hseq <| hreg <| hy (fun _ => y_fld rfl fa49_0 (by decide)) <| hy (fun m => y_ld1 rfl ag4 ((m.blk 0 rfl).cells0 0 _ sl0)) <| hend <| hsub (ρ' := [(6, _), (4, _), (3, _), (0, _), (1, _)]) ⟨rfl, rfl, rfl, rfl, rfl, trivial⟩ <| hthen <| ?_
  refine hifb rfl (fun hf => ?_) (fun hf => ?_)
  · refine hreg <| hy (fun _ => y_move rfl) <| ?_
    refine hx (xh_bsl Tryz.underlying27 ti5 rfl rfl rfl (by simp [Value.cells, B8]) (by decide) (by decide) (fun g8 => ?_))
    have hA_b8 : 0 < 1 → (some (⟨g8, 0, none⟩ : Addr)) ≠ none := fun _ h => by cases h
    refine hmemL (fun w m => m.eqX 0 rfl (show _ = ROwn 5 1 (.slice (some ⟨g8, 0, none⟩) 1 1) 1 (b8s [1]) from rfl)) ?_
    refine hx (xh_app 2 rfl rfl rfl Tryz.underlying27 Tryz.underlying27 (by exact .inl rfl) ti5 rfl (fun m => Src.of_rd (m.ord 0 rfl)) b8s_one (by unfold maxLen; omega) (by omega) (fun u => ?_))
    refine hfactL (fun m => (m.own 0 rfl).slice) ?_
    rintro ⟨A_o, c_o, rfl, hc_o⟩
    refine hfactL (fun m => (m.ord 0 rfl).2.1) fun hA_o => ?_
    refine hy (fun _ => y_assign rfl) <| hend <| hsub (ρ' := [(0, _), (6, _), (4, _), (3, _), (1, _)]) ⟨rfl, rfl, rfl, rfl, rfl, trivial⟩ <| hmemQ (X' := [_, _, _]) (S' := []) (fun _ m => m) <| hthen <| hseq <| hreg <| hy (fun _ => y_move rfl) <| hy (fun _ => y_fld rfl fa49_1 (by decide)) <| hy (fun m => yV (y_ldN rfl ag33 sz33 (by rw [b8s_length, h.len]) (fun j u hu => by rw [add_add]; exact (m.blk 2 rfl).cells0 (1 + j) u (sl_im hu))) ((rfl : _ = Value.agg (b8s x.image).toArray))) <| ?_
    refine hx (xh_call rfl Tryz.call170 (bytesC h.len) [] rfl [] rfl ?_)
    rintro _ _ _ ⟨v, rfl, rfl, rfl⟩
    refine hfactL (fun m => (m.own 0 rfl).slice) ?_
    rintro ⟨A_x, c_x, rfl, hc_x⟩
    refine hfactL (fun m => (m.ord 0 rfl).2.1) fun hA_x => ?_
    refine hx (xh_app 1 rfl rfl rfl Tryz.underlying27 Tryz.underlying27 (by exact .inl rfl) ti5 rfl (fun m => Src.of_rd (m.ord 0 rfl)) b8s_one (by unfold maxLen; omega) (by omega) (fun u2 => ?_))
    refine hfactL (fun m => (m.own 0 rfl).slice) ?_
    rintro ⟨A_o2, c_o2, rfl, hc_o⟩
    refine hfactL (fun m => (m.ord 0 rfl).2.1) fun hA_o => ?_
    refine hy (fun _ => y_assign rfl) <| hend <| hsub (ρ' := [(0, _), (6, _), (4, _), (3, _), (1, _)]) ⟨rfl, rfl, rfl, rfl, rfl, trivial⟩ <| hmemQ (X' := [_, _, _, _]) (S' := []) (fun _ m => m) <| hthen <| hseq <| hreg <| hy (fun _ => y_move rfl) <| hy (fun _ => y_fld rfl fa49_2 (by decide)) <| hy (fun m => yV (y_ld1 rfl ag3 ((m.blk 3 rfl).cells0 33 _ (sl33 h))) ((show Value.int .i64 x.size = .int .i64 (x.size.toNat : Int) by rw [← hz.1]))) <| ?_
    refine hx (xh_call rfl Tryz.call161 (numberC (by omega) (n := x.size.toNat)) [] rfl [] rfl ?_)
    rintro _ _ _ ⟨v2, rfl, rfl, rfl⟩
    refine hfactL (fun m => (m.own 0 rfl).slice) ?_
    rintro ⟨A_x2, c_x2, rfl, hc_x2⟩
    refine hfactL (fun m => (m.ord 0 rfl).2.1) fun hA_x2 => ?_
    refine hx (xh_app 1 rfl rfl rfl Tryz.underlying27 Tryz.underlying27 (by exact .inl rfl) ti5 rfl (fun m => Src.of_rd (m.ord 0 rfl)) b8s_one (by unfold maxLen; omega) (by omega) (fun u3 => ?_))
    refine hfactL (fun m => (m.own 0 rfl).slice) ?_
    rintro ⟨A_o3, c_o3, rfl, hc_o⟩
    refine hfactL (fun m => (m.ord 0 rfl).2.1) fun hA_o => ?_
    rw [show k + 1 + 32 + 4 = k + 37 by omega]
    refine hmemL (fun w m => m.eqX 0 rfl (show _ = ROwn 5 1 (.slice A_o3 (k + 37) c_o3) (k + 37) (b8s (l ++ x.by_)) from by rw [Sl.by_, if_pos hf]; simp [b8s])) ?_
    refine hy (fun _ => y_assign rfl) <| hend <| hsub (ρ' := [(4, _), (0, _), (6, _), (3, _), (1, _)]) ⟨rfl, rfl, rfl, rfl, rfl, trivial⟩ <| hmemQ (X' := [_, _, _, _, _]) (S' := []) (fun _ m => m) <| hthen <| hret <| ?_
    exact hret1 trivial rfl rfl [0] rfl [] rfl ⟨_, _, rfl, rfl, rfl⟩
  · refine hreg <| hy (fun _ => y_move rfl) <| ?_
    refine hx (xh_bsl Tryz.underlying27 ti5 rfl rfl rfl (by simp [Value.cells, B8]) (by decide) (by decide) (fun g11 => ?_))
    have hA_b11 : 0 < 1 → (some (⟨g11, 0, none⟩ : Addr)) ≠ none := fun _ h => by cases h
    refine hmemL (fun w m => m.eqX 0 rfl (show _ = ROwn 5 1 (.slice (some ⟨g11, 0, none⟩) 1 1) 1 (b8s [0]) from rfl)) ?_
    refine hx (xh_app 2 rfl rfl rfl Tryz.underlying27 Tryz.underlying27 (by exact .inl rfl) ti5 rfl (fun m => Src.of_rd (m.ord 0 rfl)) b8s_one (by unfold maxLen; omega) (by omega) (fun u => ?_))
    refine hfactL (fun m => (m.own 0 rfl).slice) ?_
    rintro ⟨A_o, c_o, rfl, hc_o⟩
    refine hfactL (fun m => (m.ord 0 rfl).2.1) fun hA_o => ?_
    refine hy (fun _ => y_assign rfl) <| hend <| hsub (ρ' := [(0, _), (6, _), (4, _), (3, _), (1, _)]) ⟨rfl, rfl, rfl, rfl, rfl, trivial⟩ <| hmemQ (X' := [_, _, _]) (S' := []) (fun _ m => m) <| hthen <| hseq <| hreg <| hy (fun _ => y_move rfl) <| hy (fun _ => y_fld rfl fa49_1 (by decide)) <| hy (fun m => yV (y_ldN rfl ag33 sz33 (by rw [b8s_length, h.len]) (fun j u hu => by rw [add_add]; exact (m.blk 2 rfl).cells0 (1 + j) u (sl_im hu))) ((rfl : _ = Value.agg (b8s x.image).toArray))) <| ?_
    refine hx (xh_call rfl Tryz.call170 (bytesC h.len) [] rfl [] rfl ?_)
    rintro _ _ _ ⟨v, rfl, rfl, rfl⟩
    refine hfactL (fun m => (m.own 0 rfl).slice) ?_
    rintro ⟨A_x, c_x, rfl, hc_x⟩
    refine hfactL (fun m => (m.ord 0 rfl).2.1) fun hA_x => ?_
    refine hx (xh_app 1 rfl rfl rfl Tryz.underlying27 Tryz.underlying27 (by exact .inl rfl) ti5 rfl (fun m => Src.of_rd (m.ord 0 rfl)) b8s_one (by unfold maxLen; omega) (by omega) (fun u2 => ?_))
    refine hfactL (fun m => (m.own 0 rfl).slice) ?_
    rintro ⟨A_o2, c_o2, rfl, hc_o⟩
    refine hfactL (fun m => (m.ord 0 rfl).2.1) fun hA_o => ?_
    refine hy (fun _ => y_assign rfl) <| hend <| hsub (ρ' := [(0, _), (6, _), (4, _), (3, _), (1, _)]) ⟨rfl, rfl, rfl, rfl, rfl, trivial⟩ <| hmemQ (X' := [_, _, _, _]) (S' := []) (fun _ m => m) <| hthen <| hseq <| hreg <| hy (fun _ => y_move rfl) <| hy (fun _ => y_fld rfl fa49_2 (by decide)) <| hy (fun m => yV (y_ld1 rfl ag3 ((m.blk 3 rfl).cells0 33 _ (sl33 h))) ((show Value.int .i64 x.size = .int .i64 (x.size.toNat : Int) by rw [← hz.1]))) <| ?_
    refine hx (xh_call rfl Tryz.call161 (numberC (by omega) (n := x.size.toNat)) [] rfl [] rfl ?_)
    rintro _ _ _ ⟨v2, rfl, rfl, rfl⟩
    refine hfactL (fun m => (m.own 0 rfl).slice) ?_
    rintro ⟨A_x2, c_x2, rfl, hc_x2⟩
    refine hfactL (fun m => (m.ord 0 rfl).2.1) fun hA_x2 => ?_
    refine hx (xh_app 1 rfl rfl rfl Tryz.underlying27 Tryz.underlying27 (by exact .inl rfl) ti5 rfl (fun m => Src.of_rd (m.ord 0 rfl)) b8s_one (by unfold maxLen; omega) (by omega) (fun u3 => ?_))
    refine hfactL (fun m => (m.own 0 rfl).slice) ?_
    rintro ⟨A_o3, c_o3, rfl, hc_o⟩
    refine hfactL (fun m => (m.ord 0 rfl).2.1) fun hA_o => ?_
    rw [show k + 1 + 32 + 4 = k + 37 by omega]
    refine hmemL (fun w m => m.eqX 0 rfl (show _ = ROwn 5 1 (.slice A_o3 (k + 37) c_o3) (k + 37) (b8s (l ++ x.by_)) from by rw [Sl.by_, if_neg (by rw [hf]; decide)]; simp [b8s])) ?_
    refine hy (fun _ => y_assign rfl) <| hend <| hsub (ρ' := [(4, _), (0, _), (6, _), (3, _), (1, _)]) ⟨rfl, rfl, rfl, rfl, rfl, trivial⟩ <| hmemQ (X' := [_, _, _, _, _]) (S' := []) (fun _ m => m) <| hthen <| hret <| ?_
    exact hret1 trivial rfl rfl [0] rfl [] rfl ⟨_, _, rfl, rfl, rfl⟩
theorem rbytesSC {s : Sup} (h : s.wf) (hm : s.may) : Con Tryz.prog 120 [.agg s.cs.toArray] [] [] (fun v_ X_ S_ => ∃ v, v_ = v ∧ X_ = [ROwn 5 1 v 87 (b8s s.bytes)] ∧ S_ = []) := by
  obtain ⟨ha, ha1, hg, hg1⟩ := may_nat hm
  have hav : IntKind.u8.wrap s.active = ((UInt8.ofNat s.active.toNat).toNat : Int) := by
    have := u8mod s.active.toNat
    rwa [← ha] at this
  refine henter (N := 26) Tryz.func120 rfl rfl (by simp) fun b => ?_
  refine hseq <| hreg <| ?_
  refine hx (xh_box rfl (fun g1 => ?_))
  refine hmemL (fun w m => m.eqX 0 rfl (show _ = RBlk g1 51 s.cs from congrArg (RBlk _ _) (cells_agg _))) ?_
  refine hy (fun _ => y_assign rfl) <| hend <| hmemQ (X' := [_]) (S' := []) (fun _ m => m) <| hthen <| hseq <| hreg <| ?_
  refine hx (xh_bsl Tryz.underlying27 ti5 rfl rfl rfl (by simp [Value.cells, B8]) (by decide) (by decide) (fun g4 => ?_))
  have hA_b4 : 0 < 4 → (some (⟨g4, 0, none⟩ : Addr)) ≠ none := fun _ h => by cases h
  refine hx (xh_cvS 0 rfl rfl Tryz.underlying27 Tryz.underlying5 ?_)
  refine hy (fun _ => y_assign rfl) <| hend <| hsub (ρ' := [(3, _), (2, _), (1, _), (0, _)]) ⟨rfl, rfl, rfl, rfl, trivial⟩ <| hmemQ (X' := [_, _]) (S' := []) (fun _ m => m) <| hthen <| hseq <| hreg <| hy (fun _ => y_move rfl) <| hy (fun _ => y_fld rfl fa51_0 (by decide)) <| hy (fun m => y_ld1 rfl ag3 ((m.blk 1 rfl).cells0 0 _ sup0)) <| hy (fun _ => y_conv rfl Tryz.underlying3 Tryz.underlying5 hav) <| ?_
  refine hx (xh_bsl Tryz.underlying27 ti5 rfl rfl rfl (by simp [Value.cells, B8]) (by decide) (by decide) (fun g10 => ?_))
  have hA_b10 : 0 < 1 → (some (⟨g10, 0, none⟩ : Addr)) ≠ none := fun _ h => by cases h
  refine hmemL (fun w m => m.eqX 0 rfl (show _ = ROwn 5 1 (.slice (some ⟨g10, 0, none⟩) 1 1) 1 (b8s [UInt8.ofNat s.active.toNat]) from rfl)) ?_
  refine hmemL (fun w m => m.eqX 1 rfl (show _ = ROwn 5 1 (.slice (some ⟨g4, 0, none⟩) 4 4) 4 (b8s [76, 84, 83, 49]) from rfl)) ?_
  refine hx (xh_app 0 rfl rfl rfl Tryz.underlying27 Tryz.underlying27 (by exact .inl rfl) ti5 rfl (fun m => Src.of_rd (m.ord 1 rfl)) b8s_one (by unfold maxLen; omega) (by omega) (fun u => ?_))
  refine hfactL (fun m => (m.own 0 rfl).slice) ?_
  rintro ⟨A_b4, c_b4, rfl, hc_b4⟩
  refine hfactL (fun m => (m.ord 0 rfl).2.1) fun hA_b4 => ?_
  refine hy (fun _ => y_assign rfl) <| hend <| hsub (ρ' := [(3, _), (2, _), (1, _), (0, _)]) ⟨rfl, rfl, rfl, rfl, trivial⟩ <| hmemQ (X' := [_, _, _]) (S' := []) (fun _ m => m) <| hthen <| hseq <| hreg <| hy (fun _ => y_move rfl) <| hy (fun _ => y_fld rfl fa51_1 (by decide)) <| hy (fun m => yV (y_ld1 rfl ag3 ((m.blk 2 rfl).cells0 1 _ sup1)) ((show Value.int .i64 s.gen = .int .i64 (s.gen.toNat : Int) by rw [← hg]))) <| ?_
  refine hx (xh_call rfl Tryz.call161 (numberC (by omega) (n := s.gen.toNat)) [] rfl [] rfl ?_)
  rintro _ _ _ ⟨v, rfl, rfl, rfl⟩
  refine hfactL (fun m => (m.own 0 rfl).slice) ?_
  rintro ⟨A_x, c_x, rfl, hc_x⟩
  refine hfactL (fun m => (m.ord 0 rfl).2.1) fun hA_x => ?_
  refine hx (xh_app 1 rfl rfl rfl Tryz.underlying27 Tryz.underlying27 (by exact .inl rfl) ti5 rfl (fun m => Src.of_rd (m.ord 0 rfl)) b8s_one (by unfold maxLen; omega) (by omega) (fun u2 => ?_))
  refine hfactL (fun m => (m.own 0 rfl).slice) ?_
  rintro ⟨A_b42, c_b42, rfl, hc_b4⟩
  refine hfactL (fun m => (m.ord 0 rfl).2.1) fun hA_b4 => ?_
  refine hmemL (fun w m => m.eqX 0 rfl (show _ = ROwn 5 1 (.slice A_b42 9 c_b42) 9 (b8s ([76, 84, 83, 49] ++ [UInt8.ofNat s.active.toNat] ++ le4 s.gen.toNat)) from by simp [b8s])) ?_
  refine hy (fun _ => y_assign rfl) <| hend <| hsub (ρ' := [(3, _), (2, _), (1, _), (0, _)]) ⟨rfl, rfl, rfl, rfl, trivial⟩ <| hmemQ (X' := [_, _, _, _]) (S' := []) (fun _ m => m) <| hthen <| hseq <| hreg <| hy (fun _ => y_move rfl) <| hy (fun _ => y_fld rfl fa51_2 (by decide)) <| hy (fun m => yV (y_ldN rfl ag49 sz49 (Sl.cs_len h.w0) (fun j u hu => by rw [add_add]; exact (m.blk 3 rfl).cells0 (2 + j) u (sup_s0 hu))) ((rfl : _ = Value.agg s.s0.cs.toArray))) <| ?_
  refine hx (xh_call rfl Tryz.call179 (rputSC h.w0 hm.2.2.2.1 (by decide) (x := s.s0) (l := ([76, 84, 83, 49] ++ [UInt8.ofNat s.active.toNat] ++ le4 s.gen.toNat))) [0] rfl [] rfl ?_)
  rintro _ _ _ ⟨A1, c1, rfl, rfl, rfl⟩
  refine hy (fun _ => y_assign rfl) <| hend <| hsub (ρ' := [(3, _), (2, _), (1, _), (0, _)]) ⟨rfl, rfl, rfl, rfl, trivial⟩ <| hmemQ (X' := [_, _, _, _]) (S' := []) (fun _ m => m) <| hthen <| hseq <| hreg <| hy (fun _ => y_move rfl) <| hy (fun _ => y_fld rfl fa51_3 (by decide)) <| hy (fun m => yV (y_ldN rfl ag49 sz49 (Sl.cs_len h.w1) (fun j u hu => by rw [add_add]; exact (m.blk 3 rfl).cells0 (36 + j) u (sup_s1 h hu))) ((rfl : _ = Value.agg s.s1.cs.toArray))) <| ?_
  refine hx (xh_call rfl Tryz.call179 (rputSC h.w1 hm.2.2.2.2 (by decide) (x := s.s1) (l := ([76, 84, 83, 49] ++ [UInt8.ofNat s.active.toNat] ++ le4 s.gen.toNat ++ s.s0.by_))) [0] rfl [] rfl ?_)
  rintro _ _ _ ⟨A12, c12, rfl, rfl, rfl⟩
  refine hx (xh_calll rfl Tryz.call176 (rcrcPutC (by omega) (n := 83) (l := s.body)) [] rfl (.x 0 rfl .own .nil) ?_)
  rintro _ _ _ ⟨v2, rfl, rfl, rfl⟩
  refine ⟨rfl, ?_⟩
  refine hfactL (fun m => (m.own 0 rfl).slice) ?_
  rintro ⟨A_x2, c_x2, rfl, hc_x2⟩
  refine hfactL (fun m => (m.ord 0 rfl).2.1) fun hA_x2 => ?_
  refine hy (fun _ => y_assign rfl) <| hend <| hsub (ρ' := [(2, _), (3, _), (1, _), (0, _)]) ⟨rfl, rfl, rfl, rfl, trivial⟩ <| hmemQ (X' := [_, _, _, _, _]) (S' := []) (fun _ m => m) <| hthen <| hret <| ?_
  exact hret1 trivial rfl rfl [0] rfl [] rfl ⟨_, rfl, rfl, rfl⟩
end Go.Proofs.YtfikjheicjamhaaGreatDoor
end
section
/- The document's files and a map's files, over plain lists. No program walked. -/
set_option linter.unusedVariables false
set_option linter.unusedSimpArgs false
namespace Go.Proofs.YtfikjheicjamhaaGreatDoor
open Go.Eng Go.Hx
theorem bl_eq : ∀ (x y : List UInt8), Op.bytesLess x y = decide (x < y)
  | [], [] => by simp [Op.bytesLess]
  | _ :: _, [] => by simp [Op.bytesLess]
  | [], _ :: _ => by simp [Op.bytesLess]
  | a :: x, b :: y => by
    rw [Op.bytesLess, bl_eq x y]
    simp only [List.cons_lt_cons_iff]
    by_cases h1 : a < b <;> by_cases h2 : a = b <;> by_cases h3 : x < y <;> simp [h1, h2, h3]
theorem sless_iff {a b : List UInt8} : sless a b = decide (a < b) := by
  unfold sless
  rw [bl_eq, Lib.toList_data, Lib.toList_data]
  rfl
def insF : List FP → FP → List FP
  | [], f => [f]
  | x :: r, f => if x.1 < f.1 then x :: insF r f else f :: (x :: r).filter fun y => decide (y.1 ≠ f.1)
theorem fold_true (f : FP) : ∀ (l acc : List FP), l.foldl (wstep f) (acc, true) = (acc ++ l.filter (fun y => decide (y.1 ≠ f.1)), true)
  | [], acc => by simp
  | x :: r, acc => by
    rw [List.foldl_cons]
    by_cases h : x.1 = f.1
    · have : wstep f (acc, true) x = (acc, true) := by simp [wstep, h]
      rw [this, fold_true f r acc]; simp [h]
    · have : wstep f (acc, true) x = (acc ++ [x], true) := by simp [wstep, h]
      rw [this, fold_true f r (acc ++ [x])]; simp [h]
def wfin (f : FP) (st : List FP × Bool) : List FP := if st.2 then st.1 else st.1 ++ [f]
theorem fold_false (f : FP) : ∀ (l acc : List FP), wfin f (l.foldl (wstep f) (acc, false)) = acc ++ insF l f
  | [], acc => by simp [insF, wfin]
  | x :: r, acc => by
    rw [List.foldl_cons]
    by_cases h : x.1 < f.1
    · have hne : x.1 ≠ f.1 := fun e => by rw [e] at h; exact List.lt_irrefl _ h
      have : wstep f (acc, false) x = (acc ++ [x], false) := by simp [wstep, sless_iff, h, hne]
      rw [this, fold_false f r (acc ++ [x]), insF, if_pos h]; simp
    · have hs : sless x.1 f.1 = false := by rw [sless_iff]; simpa using h
      rw [insF, if_neg h]
      by_cases he : x.1 = f.1
      · have hs' : sless f.1 f.1 = false := he ▸ hs
        have : wstep f (acc, false) x = (acc ++ [f], true) := by simp [wstep, hs', he]
        rw [this, fold_true]; simp [he, wfin]
      · have : wstep f (acc, false) x = (acc ++ [f] ++ [x], true) := by simp [wstep, hs, he]
        rw [this, fold_true]; simp [he, wfin]
theorem withF_ins (l : List FP) (f : FP) : withF l f = insF l f := by
  have := fold_false f l []
  rw [List.nil_append] at this
  rw [← this]
  unfold withF wst wfin
  rw [List.take_of_length_le (Nat.le_refl _)]
/-- what stands under a name -/
def lk : List FP → List UInt8 → Option (List UInt8)
  | [], _ => none
  | x :: r, p => if x.1 = p then some x.2 else lk r p
theorem lk_find : ∀ (l : List FP) (p : List UInt8), (l[findN l p]?).map (·.2) = lk l p
  | [], p => rfl
  | x :: r, p => by
    have := lk_find r p
    unfold findN at this ⊢
    rw [List.findIdx_cons]
    by_cases h : x.1 = p
    · simp [h, lk]
    · simp [h, lk, this]
theorem lk_filter (q : List UInt8) : ∀ (l : List FP) (p : List UInt8), lk (l.filter fun y => decide (y.1 ≠ q)) p = if p = q then none else lk l p
  | [], p => by simp [lk]
  | x :: r, p => by
    have ih := lk_filter q r p
    by_cases h : x.1 = q
    · rw [List.filter_cons, if_neg (by simp [h]), ih]
      by_cases hp : p = q
      · simp [hp]
      · rw [if_neg hp, if_neg hp, lk, if_neg (fun e => hp (e.symm.trans h))]
    · rw [List.filter_cons, if_pos (by simp [h]), lk, ih]
      by_cases hp : p = q
      · rw [if_pos hp, if_pos hp, if_neg (fun e => h (e.trans hp))]
      · rw [if_neg hp, if_neg hp, lk]
theorem lk_ins : ∀ (l : List FP) (f : FP) (p : List UInt8), lk (insF l f) p = if p = f.1 then some f.2 else lk l p
  | [], f, p => by simp only [insF, lk, eq_comm]
  | x :: r, f, p => by
    unfold insF
    by_cases h : x.1 < f.1
    · rw [if_pos h, lk, lk_ins r f p, lk]
      have hne : x.1 ≠ f.1 := fun e => by rw [e] at h; exact List.lt_irrefl _ h
      by_cases hp : p = f.1
      · rw [if_pos hp, if_pos hp, if_neg (fun e => hne (e.trans hp))]
      · rw [if_neg hp, if_neg hp]
    · rw [if_neg h, lk, lk_filter]
      by_cases hp : p = f.1
      · rw [if_pos hp.symm, if_pos hp]
      · rw [if_neg (fun e => hp e.symm), if_neg hp, if_neg hp]
/-- in order, each name once -/
def Srtd (l : List FP) : Prop := (l.map (·.1)).Pairwise (· < ·)
theorem srtd_filter {l : List FP} (q : FP → Bool) (h : Srtd l) : Srtd (l.filter q) := List.Pairwise.sublist (List.Sublist.map _ List.filter_sublist) h
theorem mem_ins {l : List FP} {f y : FP} (h : y ∈ insF l f) : y = f ∨ y ∈ l := by
  induction l with
  | nil => exact .inl (by simpa [insF] using h)
  | cons x r ih =>
    unfold insF at h
    split at h
    · rcases List.mem_cons.1 h with h | h
      · exact .inr (by rw [h]; exact List.mem_cons_self ..)
      · rcases ih h with h | h
        · exact .inl h
        · exact .inr (List.mem_cons_of_mem _ h)
    · rcases List.mem_cons.1 h with h | h
      · exact .inl h
      · exact .inr ((List.mem_filter.1 h).1)
theorem srtd_ins {l : List FP} {f : FP} (h : Srtd l) : Srtd (insF l f) := by
  induction l with
  | nil => simp [Srtd, insF]
  | cons x r ih =>
    have hx : ∀ y ∈ r, x.1 < y.1 := by
      intro y hy
      exact (List.pairwise_cons.1 h).1 _ (List.mem_map.2 ⟨y, hy, rfl⟩)
    have hr : Srtd r := (List.pairwise_cons.1 h).2
    unfold insF
    by_cases hlt : x.1 < f.1
    · rw [if_pos hlt]
      refine List.pairwise_cons.2 ⟨?_, ih hr⟩
      intro a ha
      obtain ⟨y, hy, rfl⟩ := List.mem_map.1 ha
      rcases mem_ins hy with rfl | hy
      · exact hlt
      · exact hx y hy
    · rw [if_neg hlt]
      refine List.pairwise_cons.2 ⟨?_, srtd_filter _ h⟩
      intro a ha
      obtain ⟨y, hy, rfl⟩ := List.mem_map.1 ha
      have hy1 := (List.mem_filter.1 hy).1
      have hy2 : y.1 ≠ f.1 := by simpa using (List.mem_filter.1 hy).2
      have hge : ¬ y.1 < f.1 := by
        rcases List.mem_cons.1 hy1 with rfl | h1
        · exact hlt
        · exact fun e => hlt (List.lt_trans (hx y h1) e)
      exact Decidable.byContradiction fun hn => hy2 (List.le_antisymm (List.not_lt.1 hn) (List.not_lt.1 hge))
/-- a map's files are the document's -/
structure FSim (fs : Files) (l : List FP) : Prop where
  ord : Srtd l
  nd : (akeys fs).Nodup
  look : ∀ p, (aget fs p).map (·.l) = lk l p
  len : ∀ x ∈ fs, x.2.n = x.2.l.length
theorem FSim.nil : FSim [] [] := ⟨by simp [Srtd], by simp [akeys], fun p => rfl, fun x h => by cases h⟩
theorem lk_mem {l : List FP} {p : List UInt8} : lk l p ≠ none ↔ p ∈ l.map (·.1) := by
  induction l with
  | nil => simp [lk]
  | cons x r ih =>
    unfold lk
    by_cases h : x.1 = p
    · simp [h]
    · rw [if_neg h, ih]; simp [Ne.symm h]
theorem FSim.keys {fs : Files} {l : List FP} (h : FSim fs l) : (akeys fs).Perm (l.map (·.1)) := by
  have hn : (l.map (·.1)).Nodup := List.Pairwise.imp (fun hlt e => by rw [e] at hlt; exact List.lt_irrefl _ hlt) h.ord
  refine (List.perm_ext_iff_of_nodup h.nd hn).2 fun p => ?_
  rw [← lk_mem, ← h.look p]
  have := @aget_none (List UInt8) BRow _ fs p
  cases hq : aget fs p with
  | none => simp [this.1 hq]
  | some r => simp; exact Decidable.byContradiction fun hm => by rw [this.2 hm] at hq; cases hq
theorem FSim.put {fs : Files} {l : List FP} (h : FSim fs l) {p : List UInt8} {r : BRow} (hr : r.n = r.l.length) : FSim (aput fs p r) (withF l (p, r.l)) := by
  rw [withF_ins]
  refine ⟨srtd_ins h.ord, aput_nodup h.nd, fun q => ?_, fun x hx => ?_⟩
  · rw [aget_aput, lk_ins]
    by_cases hq : p = q
    · rw [if_pos hq, if_pos hq.symm]; rfl
    · rw [if_neg hq, if_neg (fun e => hq e.symm)]; exact h.look q
  · rcases aput_vals (List.mem_map.2 ⟨x, hx, rfl⟩) with h1 | h1
    · obtain ⟨y, hy, e⟩ := List.mem_map.1 h1
      rw [← e]; exact h.len y hy
    · rw [h1]; exact hr
theorem sum_perm {a b : List Nat} (h : a.Perm b) : a.sum = b.sum := by
  induction h with
  | nil => rfl
  | cons x _ ih => simp [ih]
  | swap x y l => simp; omega
  | trans _ _ h1 h2 => rw [h1, h2]
theorem lk_self {l : List FP} (h : Srtd l) {x : FP} (hx : x ∈ l) : lk l x.1 = some x.2 := by
  induction l with
  | nil => cases hx
  | cons y r ih =>
    unfold lk
    rcases List.mem_cons.1 hx with rfl | h1
    · rw [if_pos rfl]
    · have hlt : y.1 < x.1 := (List.pairwise_cons.1 h).1 _ (List.mem_map.2 ⟨x, h1, rfl⟩)
      rw [if_neg (fun e => by rw [e] at hlt; exact List.lt_irrefl _ hlt)]
      exact ih (List.pairwise_cons.1 h).2 h1
theorem FSim.tot {fs : Files} {l : List FP} (h : FSim fs l) : tot fs = totF l := by
  let g : List UInt8 → Nat := fun p => ((lk l p).getD []).length
  have h1 : fs.map (fun x => x.2.n) = (akeys fs).map g := by
    rw [akeys, List.map_map]
    refine List.map_congr_left fun x hx => ?_
    have := h.look x.1
    rw [aget_of_mem h.nd (show (x.1, x.2) ∈ fs from hx)] at this
    show x.2.n = ((lk l x.1).getD []).length
    rw [← this, h.len x hx]; rfl
  have h2 : l.map (fun x => x.2.length) = (l.map (·.1)).map g := by
    rw [List.map_map]
    refine List.map_congr_left fun x hx => ?_
    show x.2.length = ((lk l x.1).getD []).length
    rw [lk_self h.ord hx]; rfl
  show (fs.map fun x => x.2.n).sum = (l.map fun x => x.2.length).sum
  rw [h1, h2]
  exact sum_perm (h.keys.map g)
theorem FSim.len1 {fs : Files} {l : List FP} (h : FSim fs l) : fs.length = l.length := by
  have := h.keys.length_eq
  simpa [akeys] using this
theorem FSim.sz {fs : Files} {l : List FP} (h : FSim fs l) (p : List UInt8) : ((aget fs p).map (·.n)).getD 0 = ((l[findN l p]?).map (·.2.length)).getD 0 := by
  have h1 := h.look p
  rw [← lk_find] at h1
  cases hq : aget fs p with
  | none =>
    rw [hq] at h1
    cases hl : l[findN l p]? with
    | none => rfl
    | some x => rw [hl] at h1; cases h1
  | some r =>
    rw [hq] at h1
    cases hl : l[findN l p]? with
    | none => rw [hl] at h1; cases h1
    | some x =>
      rw [hl] at h1
      have e : r.l = x.2 := Option.some.inj h1
      have := h.len _ (aget_mem hq)
      simp only [Option.map_some, Option.getD_some]
      rw [← e]; exact this
/-- a disk is the document's -/
structure DSim (st : DSt) (d : RD) : Prop where
  room : st.room = d.room
  power : st.power = d.pw
  files : FSim st.seen d.seen
  waits : st.waits.length = d.waits.length
theorem DSim.writeE {st : DSt} {d : RD} (h : DSim st d) (p bb : List UInt8) : writeE st p bb.length = d.writeE p bb := by
  have h1 := h.files.sz p
  have h2 := h.files.tot
  unfold Go.Proofs.YtfikjheicjamhaaGreatDoor.writeE RD.writeE RD.sz
  rw [h.power, h.room, h1, h2]
  by_cases hn : ¬ Named p
  · rw [if_pos hn, if_pos hn]
  · rw [if_neg hn, if_neg hn]
    by_cases h0 : d.pw = 0
    · rw [if_pos h0, if_pos h0]
    · rw [if_neg h0, if_neg h0]
      by_cases hr : d.room < (totF d.seen : Int) + (bb.length : Nat) - (((d.seen[findN d.seen p]?).map (·.2.length)).getD 0 : Nat)
      · rw [if_pos hr, if_pos (by omega)]
      · rw [if_neg hr, if_neg (by omega)]
theorem DSim.wrote {st : DSt} {d : RD} (h : DSim st d) {p : List UInt8} {r : BRow} (hr : r.n = r.l.length) {A : Option Addr} {c : Nat} : DSim (st.wrote p r A c) (d.did 0 p [] r.l) := by
  refine ⟨h.room, ?_, ?_, ?_⟩
  · show (if 0 < st.power then st.power - 1 else st.power) = lessP d.pw
    rw [h.power]; rfl
  · show FSim (aput st.seen p r) (makeF d.seen 0 p [] r.l)
    rw [makeF, if_pos rfl]; exact h.files.put hr
  · show (st.waits ++ [Chg.written p r]).length = (d.waits ++ [(0, p, [], r.l)]).length
    rw [List.length_append, List.length_append, h.waits]; rfl
theorem DSim.readE {st : DSt} {d : RD} (h : DSim st d) (p : List UInt8) : foundE st p = d.readE p := by
  have h1 := h.files.look p
  rw [← lk_find] at h1
  unfold foundE RD.readE
  rw [h.power]
  by_cases h0 : d.pw = 0
  · rw [if_pos h0, if_pos h0]
  · rw [if_neg h0, if_neg h0]
    cases ha : aget st.seen p with
    | none =>
      rw [ha] at h1
      cases hb : d.seen[findN d.seen p]? with
      | none => simp
      | some y => rw [hb] at h1; cases h1
    | some r =>
      rw [ha] at h1
      cases hb : d.seen[findN d.seen p]? with
      | none => rw [hb] at h1; cases h1
      | some y => simp
theorem DSim.readB {st : DSt} {d : RD} (h : DSim st d) (p : List UInt8) : readB st p = d.readB p := by
  have h1 := h.files.look p
  rw [← lk_find] at h1
  have h2 := h.readE p
  unfold Go.Proofs.YtfikjheicjamhaaGreatDoor.readB RD.readB
  rw [h2, ← h1]
  unfold RD.readE
  by_cases h0 : d.pw = 0
  · rw [if_pos h0, if_pos h0, if_neg (by decide)]
  · rw [if_neg h0, if_neg h0]
    cases hb : d.seen[findN d.seen p]? with
    | none =>
      rw [hb] at h1
      cases ha : aget st.seen p with
      | none => simp
      | some r => rw [ha] at h1; cases h1
    | some y => simp
end Go.Proofs.YtfikjheicjamhaaGreatDoor
end
section
/- Contracts: the document's disk (layer 12): Restart, names of a small world. -/
set_option linter.unusedVariables false
set_option linter.unusedSimpArgs false
set_option maxRecDepth 20000
namespace Go.Proofs.YtfikjheicjamhaaGreatDoor
open Go.Eng Go.Hx
theorem flat_get {α : Type} {f : α → List Value} {k : Nat} (hf : ∀ x, (f x).length = k) : ∀ (l : List α) (i j : Nat) (x : α), l[i]? = some x → j < k → (l.flatMap f)[i * k + j]? = (f x)[j]?
  | [], i, j, x, h, hj => by simp at h
  | a :: r, 0, j, x, h, hj => by
    simp only [List.getElem?_cons_zero, Option.some.injEq] at h
    subst h
    rw [List.flatMap_cons, Nat.zero_mul, Nat.zero_add, List.getElem?_append_left (by rw [hf]; exact hj)]
  | a :: r, i + 1, j, x, h, hj => by
    rw [List.flatMap_cons, List.getElem?_append_right (by rw [hf, Nat.succ_mul]; omega), hf, show (i + 1) * k + j - k = i * k + j by rw [Nat.succ_mul]; omega]
    exact flat_get hf r i j x (by simpa using h) hj
theorem flat_cells {α : Type} {f : α → List Value} {k : Nat} {w : World} {A : Option Addr} {n i : Nat} {l : List α} {x : α} (hf : ∀ x, (f x).length = k) (h : Rd w k A n (l.flatMap f)) (hx : l[i]? = some x) : ∀ (j : Nat) (u : Value), (f x)[j]? = some u → w.cell? (((A.getD d0).add (i * k)).add j) = some u := by
  intro j u hu
  have hj : j < k := by have := (List.getElem?_eq_some_iff.1 hu).1; rwa [hf] at this
  exact rd_fld h (by rw [flat_get hf l i j x hx hj]; exact hu)
theorem wcs_cells {w : World} {A : Option Addr} {n i : Nat} {l : List RC} {x : RC} (h : Rd w 4 A n (wcs l)) (hx : l[i]? = some x) : ∀ (j : Nat) (u : Value), (cv x.1 x.2.1 x.2.2.1 x.2.2.2)[j]? = some u → w.cell? (((A.getD d0).add (i * 4)).add j) = some u :=
  flat_cells (f := fun x : RC => cv x.1 x.2.1 x.2.2.1 x.2.2.2) (fun _ => rfl) h hx
/-- one change that waits, at a restart -/
def dstep (s : List Bool × List FP) (c : RC) : List Bool × List FP :=
  if s.1.headD false then
    if c.1 = 0 then (s.1.tail.tail, makeF s.2 c.1 c.2.1 c.2.2.1 (if s.1.tail.headD false then c.2.2.2 else c.2.2.2.take (c.2.2.2.length / 2)))
    else (s.1.tail, makeF s.2 c.1 c.2.1 c.2.2.1 c.2.2.2)
  else (s.1.tail, s.2)
def dfold (keep : List Bool) (d : RD) (i : Nat) : List Bool × List FP := (d.waits.take i).foldl dstep (keep, d.lasts)
theorem dfold_succ {keep : List Bool} {d : RD} {i : Nat} {c : RC} (h : d.waits[i]? = some c) : dfold keep d (i + 1) = dstep (dfold keep d i) c := by
  unfold dfold
  obtain ⟨hi, rfl⟩ := List.getElem?_eq_some_iff.1 h
  rw [List.take_succ_eq_append_getElem hi, List.foldl_append]
  rfl
def RD.restart (d : RD) (keep : List Bool) : RD := { d with seen := (dfold keep d d.waits.length).2, lasts := (dfold keep d d.waits.length).2, waits := [], pw := -1 }
theorem head_drop {bs : List Bool} {at_ : Nat} (h : at_ < bs.length) : (bools bs)[at_]? = some (.bool ((bs.drop at_).headD false)) := by
  have : bs.drop at_ = bs[at_] :: bs.drop (at_ + 1) := List.drop_eq_getElem_cons h
  rw [this]
  simp [bools, List.getElem?_map, List.getElem?_eq_getElem h]
theorem head_lt {bs : List Bool} {at_ : Nat} (h : (bs.drop at_).headD false = true) : at_ < bs.length := by
  refine Decidable.byContradiction fun hn => ?_
  rw [List.drop_eq_nil_of_le (by omega)] at h
  cases h
theorem tail_drop {bs : List Bool} {at_ : Nat} : (bs.drop at_).tail = bs.drop (at_ + 1) := List.tail_drop
theorem rrestartX {x : RX} {kk : Nat} {A : Option Addr} {n c : Nat} {bs : List Bool} (hc : n ≤ c) (ok : ROk x.d kk) (hkk : kk ≤ 100000) (hla : x.d.lasts.length ≤ 100000) (hn : n ≤ 1000000) (hbw : ∀ c ∈ x.d.waits, c.2.2.2.length ≤ 1048576) : Con Tryz.prog 58 [.agg x.cs.toArray, .slice A n c] [] [RRef x, RRd 1 A n (bools bs)] (fun v_ X_ S_ => ∃ y, v_ = (.agg y.cs.toArray) ∧ X_ = [] ∧ S_ = [RRef y] ∧ (y.d = x.d.restart bs)) := by
  have hw2 := ok.waits
  have hbl : (bools bs).length = bs.length := by simp [bools]
  refine henter (N := 82) Tryz.func58 rfl rfl (by simp) fun b => ?_
  refine hfactC (fun m => rdX (m.rd 1 rfl)) ?_
  rintro ⟨hl_k, hA_k⟩
  have hbn : bs.length = n := by omega
  refine hseq <| hreg <| ?_
  refine hx (xh_box rfl (fun g2 => ?_))
  refine hmemL (fun w m => m.eqX 0 rfl (show _ = RBlk g2 46 (dv x.d.room (.slice x.A x.d.seen.length x.c) (.slice x.Al x.d.lasts.length x.cl) (.slice x.A3 x.d.waits.length x.c3) x.d.pw) from congrArg (RBlk _ _) (cells_agg _))) ?_
  refine hmemL (fun w m => m.asV 0 rfl View.ref1) ?_
  refine hfactL (fun m => rdX (m.rd 0 rfl)) ?_
  rintro ⟨hl_r1, hA_r1⟩
  refine hmemL (fun w m => m.asV 1 rfl View.ref2) ?_
  refine hfactL (fun m => rdX (m.rd 0 rfl)) ?_
  rintro ⟨hl_r2, hA_r2⟩
  refine hx (xh_alloc ti46 (fun g4 => ?_))
  refine hend <| hmemQ (X' := [_, _]) (S' := [_, _, _, _]) (fun _ m => m) <| hthen <| hseq <| hreg <| hy (fun _ => y_assign rfl) <| hend <| hthen <| hseq <| hseq <| hreg <| hy (fun _ => y_assign rfl) <| hend <| hthen <| hblock <| ?_
  refine hloop5 (fun i at_ L A1 c1 => x.d.waits.length - i) (fun i at_ L A1 c1 => [(5, .int .i64 (at_ : Nat)), (6, .int .i64 (i : Nat))]) (fun i at_ L A1 c1 => [RBlk g2 46 (dv x.d.room (.slice x.A x.d.seen.length x.c) (.slice A1 L.length c1) (.slice x.A3 x.d.waits.length x.c3) x.d.pw)]) (fun i at_ L A1 c1 => [RRd 2 A1 L.length (fc L)]) (fun i at_ L A1 c1 => i ≤ x.d.waits.length ∧ (bs.drop at_, L) = dfold bs x.d i ∧ at_ ≤ 2 * i ∧ L.length ≤ x.d.lasts.length + i) 0 0 x.d.lasts x.Al x.cl [(4, _), (2, _), (0, _), (1, _)] ⟨rfl, rfl, rfl, rfl, trivial⟩ [1] rfl [1] rfl (⟨Nat.zero_le _, by simp [dfold], by omega, by omega⟩) ⟨rfl, rfl, trivial⟩ (fun i at_ L A1 c1 ⟨hi, hf, hat, hL⟩ => ?_)
  refine hseq <| hseq <| hreg <| hy (fun _ => y_move rfl) <| hy (fun _ => y_fld rfl fa46_3 (by decide)) <| hy (fun m => y_ld1 rfl ag44 (ld_blk (m.blk 0 rfl) (i := 3) rfl)) <| hy (fun _ => y_lenS rfl Tryz.underlying44) <| hy (fun _ => y_lss rfl rfl) <| hend <| hsub (ρ' := [(14, _), (5, _), (6, _), (4, _), (2, _), (0, _), (1, _)]) ⟨rfl, rfl, rfl, rfl, rfl, rfl, rfl, trivial⟩ <| hthen <| ?_
  refine hif rfl (fun hlt => ?_) (fun hlt => ?_)
  · obtain ⟨ch, hch⟩ : ∃ ch, x.d.waits[i]? = some ch := ⟨_, List.getElem?_eq_getElem (by omega)⟩
    have hfs := dfold_succ (keep := bs) hch
    rw [← hf] at hfs
    by_cases hb : (bs.drop at_).headD false = true
    · have hlt1 := head_lt hb
      have hbit := head_drop hlt1
      rw [hb] at hbit
      have hds : dstep (bs.drop at_, L) ch = if ch.1 = 0 then (bs.drop (at_ + 2), makeF L ch.1 ch.2.1 ch.2.2.1 (if (bs.drop (at_ + 1)).headD false then ch.2.2.2 else ch.2.2.2.take (ch.2.2.2.length / 2))) else (bs.drop (at_ + 1), makeF L ch.1 ch.2.1 ch.2.2.1 ch.2.2.2) := by
        unfold dstep
        rw [if_pos hb]
        simp only [tail_drop]
      rw [hds] at hfs
      refine hcskip <| hthen <| hseq <| hblock <| hseq <| hreg <| hy (fun _ => y_move rfl) <| hy (fun _ => y_move rfl) <| hy (fun _ => y_lenS rfl Tryz.underlying28) <| hy (fun _ => yT (y_lss rfl rfl) ((decide_eq_true (by omega)))) <| hy (fun _ => y_move rfl) <| hyg (o := _) rfl rfl rfl (fun _ => y_move rfl) <| hyg (o := _) rfl rfl rfl (fun _ => y_move rfl) <| hyg (o := _) rfl rfl rfl (fun _ => y_move rfl) <| hyg (o := _) rfl rfl rfl (fun _ => y_lenS rfl Tryz.underlying28) <| hyg (o := _) rfl rfl rfl (fun _ => y_sub rfl rfl (w64 (by omega) (by omega))) <| hyg (o := _) rfl rfl rfl (fun _ => y_max rfl rfl) <| hyg (o := _) rfl rfl rfl (fun _ => y_min rfl rfl) <| hyg (o := _) rfl rfl rfl (fun _ => y_idxS1 rfl rfl Tryz.underlying28 sz4 hA_k (show ((at_ : Nat) : Int) = _ by omega) (by omega)) <| hyg (o := _) rfl rfl rfl (fun m => yV (y_ld1 rfl ag4 ((m.rd 4 rfl).cell (j := at_) hbit)) ((rfl : _ = Value.bool true))) <| hy (fun _ => y_pickT rfl rfl) <| hy (fun _ => y_assign rfl) <| hend <| hsub (ρ' := [(7, _), (14, _), (5, _), (6, _), (4, _), (2, _), (0, _), (1, _)]) ⟨rfl, rfl, rfl, rfl, rfl, rfl, rfl, rfl, trivial⟩ <| hthen <| hseq <| hreg <| hy (fun _ => y_move rfl) <| hy (fun _ => y_add rfl rfl (w64 (by omega) (by omega))) <| hy (fun _ => y_assign rfl) <| hend <| hsub (ρ' := [(5, _), (7, _), (14, _), (6, _), (4, _), (2, _), (0, _), (1, _)]) ⟨rfl, rfl, rfl, rfl, rfl, rfl, rfl, rfl, trivial⟩ <| hthen <| hseq <| hseq <| hreg <| hy (fun _ => y_move rfl) <| hy (fun _ => (y_not rfl)) <| hend <| hsub (ρ' := [(35, _), (5, _), (7, _), (14, _), (6, _), (4, _), (2, _), (0, _), (1, _)]) ⟨rfl, rfl, rfl, rfl, rfl, rfl, rfl, rfl, rfl, trivial⟩ <| hthen <| ?_
      refine hiff rfl (rfl) ?_
      refine hcskip <| hthen <| hseq <| hreg <| hy (fun _ => y_fld rfl fa46_3 (by decide)) <| hy (fun m => y_ld1 rfl ag44 (ld_blk (m.blk 0 rfl) (i := 3) rfl)) <| hy (fun _ => y_move rfl) <| hy (fun _ => y_idxS rfl rfl Tryz.underlying44 sz175 hA_r2 rfl (by omega)) <| hy (fun m => yV (y_ldN rfl ag175 sz175 rfl (wcs_cells (m.rd 1 rfl) hch)) ((rfl : _ = Value.agg (cv ch.1 ch.2.1 ch.2.2.1 ch.2.2.2).toArray))) <| ?_
      refine hx (xh_alloc ti175 (fun g8 => ?_))
      refine hx0 (xh_stA 0 rfl rfl rfl sz175 rfl (wcs_one (l := [ch])) rfl ?_)
      refine hmemL (fun w m => m.eqX 0 rfl (show _ = RBlk g8 175 (cv ch.1 ch.2.1 ch.2.2.1 ch.2.2.2) from rfl)) ?_
      refine hend <| hsub (ρ' := [(8, _), (35, _), (5, _), (7, _), (14, _), (6, _), (4, _), (2, _), (0, _), (1, _)]) ⟨rfl, rfl, rfl, rfl, rfl, rfl, rfl, rfl, rfl, rfl, trivial⟩ <| hmemQ (X' := [_, _, _]) (S' := [_, _, _, _, _]) (fun _ m => m) <| hthen <| hseq <| hseq <| hreg <| hy (fun _ => y_fld rfl fa175_0 (by decide)) <| hy (fun m => y_ld1 rfl ag3 (ld_blk (m.blk 0 rfl) (i := 0) rfl)) <| hy (fun _ => y_eql rfl rfl) <| hend <| hsub (ρ' := [(43, _), (8, _), (35, _), (5, _), (7, _), (14, _), (6, _), (4, _), (2, _), (0, _), (1, _)]) ⟨rfl, rfl, rfl, rfl, rfl, rfl, rfl, rfl, rfl, rfl, rfl, trivial⟩ <| hthen <| ?_
      refine hif rfl (fun hk => ?_) (fun hk => ?_)
      · rw [if_pos hk] at hfs
        by_cases hb2 : (bs.drop (at_ + 1)).headD false = true
        · have hlt2 := head_lt hb2
          have hbit2 := head_drop hlt2
          rw [hb2] at hbit2
          rw [if_pos hb2] at hfs
          refine hseq <| hreg <| hy (fun _ => y_move rfl) <| hy (fun _ => y_move rfl) <| hy (fun _ => y_lenS rfl Tryz.underlying28) <| hy (fun _ => yT (y_lss rfl rfl) ((decide_eq_true (by omega)))) <| hy (fun _ => y_move rfl) <| hyg (o := _) rfl rfl rfl (fun _ => y_move rfl) <| hyg (o := _) rfl rfl rfl (fun _ => y_move rfl) <| hyg (o := _) rfl rfl rfl (fun _ => y_move rfl) <| hyg (o := _) rfl rfl rfl (fun _ => y_lenS rfl Tryz.underlying28) <| hyg (o := _) rfl rfl rfl (fun _ => y_sub rfl rfl (w64 (by omega) (by omega))) <| hyg (o := _) rfl rfl rfl (fun _ => y_max rfl rfl) <| hyg (o := _) rfl rfl rfl (fun _ => y_min rfl rfl) <| hyg (o := _) rfl rfl rfl (fun _ => y_idxS1 rfl rfl Tryz.underlying28 sz4 hA_k (show ((at_ + 1 : Nat) : Int) = _ by omega) (by omega)) <| hyg (o := _) rfl rfl rfl (fun m => yV (y_ld1 rfl ag4 ((m.rd 4 rfl).cell (j := at_ + 1) hbit2)) ((rfl : _ = Value.bool true))) <| hy (fun _ => y_pickT rfl rfl) <| hy (fun _ => y_assign rfl) <| hend <| hsub (ρ' := [(9, _), (43, _), (8, _), (35, _), (5, _), (7, _), (14, _), (6, _), (4, _), (2, _), (0, _), (1, _)]) ⟨rfl, rfl, rfl, rfl, rfl, rfl, rfl, rfl, rfl, rfl, rfl, rfl, trivial⟩ <| hthen <| hseq <| hreg <| hy (fun _ => y_move rfl) <| hy (fun _ => y_add rfl rfl (w64 (by omega) (by omega))) <| hy (fun _ => y_assign rfl) <| hend <| hsub (ρ' := [(5, _), (9, _), (43, _), (8, _), (35, _), (7, _), (14, _), (6, _), (4, _), (2, _), (0, _), (1, _)]) ⟨rfl, rfl, rfl, rfl, rfl, rfl, rfl, rfl, rfl, rfl, rfl, rfl, trivial⟩ <| hthen <| hseq <| hreg <| hy (fun _ => y_move rfl) <| hy (fun _ => (y_not rfl)) <| hend <| hsub (ρ' := [(62, _), (5, _), (9, _), (43, _), (8, _), (35, _), (7, _), (14, _), (6, _), (4, _), (2, _), (0, _), (1, _)]) ⟨rfl, rfl, rfl, rfl, rfl, rfl, rfl, rfl, rfl, rfl, rfl, rfl, rfl, trivial⟩ <| hthen <| ?_
          refine hiff rfl (rfl) ?_
          refine hmemC (fun w m => m.asV 1 rfl .same) ?_
          refine hfactC (fun m => rdX (m.rd 0 rfl)) ?_
          rintro ⟨hl_w0, hA_w0⟩
          refine hcskip <| hthen <| hreg <| hy (fun _ => y_fld rfl fa46_2 (by decide)) <| hy (fun m => y_ld1 rfl ag43 (ld_blk (m.blk 1 rfl) (i := 2) rfl)) <| hy (fun m => yV (y_ldN rfl ag175 sz175 rfl ((m.blk 0 rfl).cells0)) ((rfl : _ = Value.agg (cv ch.1 ch.2.1 ch.2.2.1 (ch.2.2.2)).toArray))) <| ?_
          refine hx (xh_call rfl Tryz.call127 (rmakeC rfl (by omega) (l := L)) [] rfl [1] rfl ?_)
          rintro _ _ _ ⟨A12, n1, c12, rfl, rfl, rfl, hp⟩
          refine hfactL (fun m => rdX (m.rd 0 rfl)) ?_
          rintro ⟨hl_q, hA_q⟩
          refine hy (fun _ => y_fld rfl fa46_2 (by decide)) <| ?_
          refine hx0 (xh_st1a 1 rfl rfl rfl sz43 rfl (by first | exact Nat.le_of_ble_eq_true rfl | simp) ?_)
          refine hend <| hsub (ρ' := [(62, _), (5, _), (9, _), (43, _), (8, _), (35, _), (7, _), (14, _), (6, _), (4, _), (2, _), (0, _), (1, _)]) ⟨rfl, rfl, rfl, rfl, rfl, rfl, rfl, rfl, rfl, rfl, rfl, rfl, rfl, trivial⟩ <| hmemQ (X' := [_, _, _]) (S' := [_, _, _, _, _, _, _]) (fun _ m => m) <| hqblock <| hthen <| hreg <| hy (fun _ => y_move rfl) <| hy (fun _ => y_add rfl rfl (w64 (by omega) (by omega))) <| hy (fun _ => y_assign rfl) <| hend <| hsub (ρ' := [(6, _), (62, _), (5, _), (9, _), (43, _), (8, _), (35, _), (7, _), (14, _), (4, _), (2, _), (0, _), (1, _)]) ⟨rfl, rfl, rfl, rfl, rfl, rfl, rfl, rfl, rfl, rfl, rfl, rfl, rfl, trivial⟩ <| ?_
          obtain ⟨rfl, hle⟩ := hp
          refine hmemQ (fun w m => m.eqX 0 rfl (show _ = RBlk g2 46 (dv x.d.room (.slice x.A x.d.seen.length x.c) (.slice A12 (makeF L ch.1 ch.2.1 ch.2.2.1 (ch.2.2.2)).length c12) (.slice x.A3 x.d.waits.length x.c3) x.d.pw) from rfl)) ?_
          refine hnext5 (i + 1) (at_ + 2) (makeF L ch.1 ch.2.1 ch.2.2.1 (ch.2.2.2)) A12 c12 ⟨rfl, rfl, rfl, rfl, rfl, rfl, trivial⟩ [0, 1] rfl [0, 3, 4, 5, 6] rfl (⟨by omega, hfs.symm, by omega, by omega⟩) (by omega)
        · have hb3 : (bs.drop (at_ + 1)).headD false = false := by simpa using hb2
          have hsz := strOf_size ch.2.2.2
          have hbs := hbw ch (List.mem_of_getElem? hch)
          rw [if_neg hb2] at hfs
          by_cases hlt2 : at_ + 1 < bs.length
          · have hbit2 := head_drop hlt2
            rw [hb3] at hbit2
            refine hseq <| hreg <| hy (fun _ => y_move rfl) <| hy (fun _ => y_move rfl) <| hy (fun _ => y_lenS rfl Tryz.underlying28) <| hy (fun _ => yT (y_lss rfl rfl) ((decide_eq_true (by omega)))) <| hy (fun _ => y_move rfl) <| hyg (o := _) rfl rfl rfl (fun _ => y_move rfl) <| hyg (o := _) rfl rfl rfl (fun _ => y_move rfl) <| hyg (o := _) rfl rfl rfl (fun _ => y_move rfl) <| hyg (o := _) rfl rfl rfl (fun _ => y_lenS rfl Tryz.underlying28) <| hyg (o := _) rfl rfl rfl (fun _ => y_sub rfl rfl (w64 (by omega) (by omega))) <| hyg (o := _) rfl rfl rfl (fun _ => y_max rfl rfl) <| hyg (o := _) rfl rfl rfl (fun _ => y_min rfl rfl) <| hyg (o := _) rfl rfl rfl (fun _ => y_idxS1 rfl rfl Tryz.underlying28 sz4 hA_k (show ((at_ + 1 : Nat) : Int) = _ by omega) (by omega)) <| hyg (o := _) rfl rfl rfl (fun m => yV (y_ld1 rfl ag4 ((m.rd 4 rfl).cell (j := at_ + 1) hbit2)) ((rfl : _ = Value.bool false))) <| hy (fun _ => y_pickT rfl rfl) <| hy (fun _ => y_assign rfl) <| hend <| hsub (ρ' := [(9, _), (43, _), (8, _), (35, _), (5, _), (7, _), (14, _), (6, _), (4, _), (2, _), (0, _), (1, _)]) ⟨rfl, rfl, rfl, rfl, rfl, rfl, rfl, rfl, rfl, rfl, rfl, rfl, trivial⟩ <| hthen <| hseq <| hreg <| hy (fun _ => y_move rfl) <| hy (fun _ => y_add rfl rfl (w64 (by omega) (by omega))) <| hy (fun _ => y_assign rfl) <| hend <| hsub (ρ' := [(5, _), (9, _), (43, _), (8, _), (35, _), (7, _), (14, _), (6, _), (4, _), (2, _), (0, _), (1, _)]) ⟨rfl, rfl, rfl, rfl, rfl, rfl, rfl, rfl, rfl, rfl, rfl, rfl, trivial⟩ <| hthen <| hseq <| hreg <| hy (fun _ => y_move rfl) <| hy (fun _ => (y_not rfl)) <| hend <| hsub (ρ' := [(62, _), (5, _), (9, _), (43, _), (8, _), (35, _), (7, _), (14, _), (6, _), (4, _), (2, _), (0, _), (1, _)]) ⟨rfl, rfl, rfl, rfl, rfl, rfl, rfl, rfl, rfl, rfl, rfl, rfl, rfl, trivial⟩ <| hthen <| ?_
            refine hift rfl (rfl) ?_
            refine hreg <| hy (fun _ => y_fld rfl fa175_3 (by decide)) <| hy (fun m => yV (y_ld1 rfl ag9 (ld_blk (m.blk 0 rfl) (i := 3) rfl)) ((rfl : _ = Value.string (strOf ch.2.2.2)))) <| hy (fun _ => y_fld rfl fa175_3 (by decide)) <| hy (fun m => yV (y_ld1 rfl ag9 (ld_blk (m.blk 0 rfl) (i := 3) rfl)) ((rfl : _ = Value.string (strOf ch.2.2.2)))) <| hy (fun _ => y_lenStr rfl Tryz.underlying9) <| hy (fun _ => y_quo rfl rfl (by omega) (by omega) (w64 (by omega) (by omega))) <| hy (fun _ => y_strTo rfl rfl Tryz.underlying9 (show ((ch.2.2.2.length / 2 : Nat) : Int) = _ by rw [hsz]; omega) (by rw [bytesOf_strOf]; omega)) <| hy (fun _ => y_fld rfl fa175_3 (by decide)) <| ?_
            refine hx0 (xh_st1a 0 rfl rfl rfl sz9 rfl (by first | exact Nat.le_of_ble_eq_true rfl | simp) ?_)
            refine hend <| hsub (ρ' := [(62, _), (5, _), (9, _), (43, _), (8, _), (35, _), (7, _), (14, _), (6, _), (4, _), (2, _), (0, _), (1, _)]) ⟨rfl, rfl, rfl, rfl, rfl, rfl, rfl, rfl, rfl, rfl, rfl, rfl, rfl, trivial⟩ <| hmemQ (X' := [_, _, _]) (S' := [_, _, _, _, _]) (fun _ m => m) <| hthen <| hreg <| ?_
            refine hmemL (fun w m => m.asV 1 rfl .same) ?_
            refine hfactL (fun m => rdX (m.rd 0 rfl)) ?_
            rintro ⟨hl_w0, hA_w0⟩
            refine hy (fun _ => y_fld rfl fa46_2 (by decide)) <| hy (fun m => y_ld1 rfl ag43 (ld_blk (m.blk 1 rfl) (i := 2) rfl)) <| hy (fun m => yV (y_ldN rfl ag175 sz175 rfl ((m.blk 0 rfl).cells0)) ((rfl : _ = Value.agg (cv ch.1 ch.2.1 ch.2.2.1 ((ch.2.2.2.take (ch.2.2.2.length / 2)))).toArray))) <| ?_
            refine hx (xh_call rfl Tryz.call127 (rmakeC rfl (by omega) (l := L)) [] rfl [1] rfl ?_)
            rintro _ _ _ ⟨A12, n1, c12, rfl, rfl, rfl, hp⟩
            refine hfactL (fun m => rdX (m.rd 0 rfl)) ?_
            rintro ⟨hl_q, hA_q⟩
            refine hy (fun _ => y_fld rfl fa46_2 (by decide)) <| ?_
            refine hx0 (xh_st1a 1 rfl rfl rfl sz43 rfl (by first | exact Nat.le_of_ble_eq_true rfl | simp) ?_)
            refine hend <| hsub (ρ' := [(62, _), (5, _), (9, _), (43, _), (8, _), (35, _), (7, _), (14, _), (6, _), (4, _), (2, _), (0, _), (1, _)]) ⟨rfl, rfl, rfl, rfl, rfl, rfl, rfl, rfl, rfl, rfl, rfl, rfl, rfl, trivial⟩ <| hmemQ (X' := [_, _, _]) (S' := [_, _, _, _, _, _, _]) (fun _ m => m) <| hqblock <| hthen <| hreg <| hy (fun _ => y_move rfl) <| hy (fun _ => y_add rfl rfl (w64 (by omega) (by omega))) <| hy (fun _ => y_assign rfl) <| hend <| hsub (ρ' := [(6, _), (62, _), (5, _), (9, _), (43, _), (8, _), (35, _), (7, _), (14, _), (4, _), (2, _), (0, _), (1, _)]) ⟨rfl, rfl, rfl, rfl, rfl, rfl, rfl, rfl, rfl, rfl, rfl, rfl, rfl, trivial⟩ <| ?_
            obtain ⟨rfl, hle⟩ := hp
            refine hmemQ (fun w m => m.eqX 0 rfl (show _ = RBlk g2 46 (dv x.d.room (.slice x.A x.d.seen.length x.c) (.slice A12 (makeF L ch.1 ch.2.1 ch.2.2.1 ((ch.2.2.2.take (ch.2.2.2.length / 2)))).length c12) (.slice x.A3 x.d.waits.length x.c3) x.d.pw) from rfl)) ?_
            refine hnext5 (i + 1) (at_ + 2) (makeF L ch.1 ch.2.1 ch.2.2.1 ((ch.2.2.2.take (ch.2.2.2.length / 2)))) A12 c12 ⟨rfl, rfl, rfl, rfl, rfl, rfl, trivial⟩ [0, 1] rfl [0, 3, 4, 5, 6] rfl (⟨by omega, hfs.symm, by omega, by omega⟩) (by omega)
          · refine hseq <| hreg <| hy (fun _ => y_move rfl) <| hy (fun _ => y_move rfl) <| hy (fun _ => y_lenS rfl Tryz.underlying28) <| hy (fun _ => yF (y_lss rfl rfl) ((decide_eq_false (by omega)))) <| hy (fun _ => y_move rfl) <| hskip rfl rfl rfl (by decide) <| hskip rfl rfl rfl (by decide) <| hskip rfl rfl rfl (by decide) <| hskip rfl rfl rfl (by decide) <| hskip rfl rfl rfl (by decide) <| hskip rfl rfl rfl (by decide) <| hskip rfl rfl rfl (by decide) <| hskip rfl rfl rfl (by decide) <| hskip rfl rfl rfl (by decide) <| hy (fun _ => y_pickF rfl rfl) <| hy (fun _ => y_assign rfl) <| hend <| hsub (ρ' := [(9, _), (43, _), (8, _), (35, _), (5, _), (7, _), (14, _), (6, _), (4, _), (2, _), (0, _), (1, _)]) ⟨rfl, rfl, rfl, rfl, rfl, rfl, rfl, rfl, rfl, rfl, rfl, rfl, trivial⟩ <| hthen <| hseq <| hreg <| hy (fun _ => y_move rfl) <| hy (fun _ => y_add rfl rfl (w64 (by omega) (by omega))) <| hy (fun _ => y_assign rfl) <| hend <| hsub (ρ' := [(5, _), (9, _), (43, _), (8, _), (35, _), (7, _), (14, _), (6, _), (4, _), (2, _), (0, _), (1, _)]) ⟨rfl, rfl, rfl, rfl, rfl, rfl, rfl, rfl, rfl, rfl, rfl, rfl, trivial⟩ <| hthen <| hseq <| hreg <| hy (fun _ => y_move rfl) <| hy (fun _ => (y_not rfl)) <| hend <| hsub (ρ' := [(62, _), (5, _), (9, _), (43, _), (8, _), (35, _), (7, _), (14, _), (6, _), (4, _), (2, _), (0, _), (1, _)]) ⟨rfl, rfl, rfl, rfl, rfl, rfl, rfl, rfl, rfl, rfl, rfl, rfl, rfl, trivial⟩ <| hthen <| ?_
            refine hift rfl (rfl) ?_
            refine hreg <| hy (fun _ => y_fld rfl fa175_3 (by decide)) <| hy (fun m => yV (y_ld1 rfl ag9 (ld_blk (m.blk 0 rfl) (i := 3) rfl)) ((rfl : _ = Value.string (strOf ch.2.2.2)))) <| hy (fun _ => y_fld rfl fa175_3 (by decide)) <| hy (fun m => yV (y_ld1 rfl ag9 (ld_blk (m.blk 0 rfl) (i := 3) rfl)) ((rfl : _ = Value.string (strOf ch.2.2.2)))) <| hy (fun _ => y_lenStr rfl Tryz.underlying9) <| hy (fun _ => y_quo rfl rfl (by omega) (by omega) (w64 (by omega) (by omega))) <| hy (fun _ => y_strTo rfl rfl Tryz.underlying9 (show ((ch.2.2.2.length / 2 : Nat) : Int) = _ by rw [hsz]; omega) (by rw [bytesOf_strOf]; omega)) <| hy (fun _ => y_fld rfl fa175_3 (by decide)) <| ?_
            refine hx0 (xh_st1a 0 rfl rfl rfl sz9 rfl (by first | exact Nat.le_of_ble_eq_true rfl | simp) ?_)
            refine hend <| hsub (ρ' := [(62, _), (5, _), (9, _), (43, _), (8, _), (35, _), (7, _), (14, _), (6, _), (4, _), (2, _), (0, _), (1, _)]) ⟨rfl, rfl, rfl, rfl, rfl, rfl, rfl, rfl, rfl, rfl, rfl, rfl, rfl, trivial⟩ <| hmemQ (X' := [_, _, _]) (S' := [_, _, _, _, _]) (fun _ m => m) <| hthen <| hreg <| ?_
            refine hmemL (fun w m => m.asV 1 rfl .same) ?_
            refine hfactL (fun m => rdX (m.rd 0 rfl)) ?_
            rintro ⟨hl_w0, hA_w0⟩
            refine hy (fun _ => y_fld rfl fa46_2 (by decide)) <| hy (fun m => y_ld1 rfl ag43 (ld_blk (m.blk 1 rfl) (i := 2) rfl)) <| hy (fun m => yV (y_ldN rfl ag175 sz175 rfl ((m.blk 0 rfl).cells0)) ((rfl : _ = Value.agg (cv ch.1 ch.2.1 ch.2.2.1 ((ch.2.2.2.take (ch.2.2.2.length / 2)))).toArray))) <| ?_
            refine hx (xh_call rfl Tryz.call127 (rmakeC rfl (by omega) (l := L)) [] rfl [1] rfl ?_)
            rintro _ _ _ ⟨A12, n1, c12, rfl, rfl, rfl, hp⟩
            refine hfactL (fun m => rdX (m.rd 0 rfl)) ?_
            rintro ⟨hl_q, hA_q⟩
            refine hy (fun _ => y_fld rfl fa46_2 (by decide)) <| ?_
            refine hx0 (xh_st1a 1 rfl rfl rfl sz43 rfl (by first | exact Nat.le_of_ble_eq_true rfl | simp) ?_)
            refine hend <| hsub (ρ' := [(62, _), (5, _), (9, _), (43, _), (8, _), (35, _), (7, _), (14, _), (6, _), (4, _), (2, _), (0, _), (1, _)]) ⟨rfl, rfl, rfl, rfl, rfl, rfl, rfl, rfl, rfl, rfl, rfl, rfl, rfl, trivial⟩ <| hmemQ (X' := [_, _, _]) (S' := [_, _, _, _, _, _, _]) (fun _ m => m) <| hqblock <| hthen <| hreg <| hy (fun _ => y_move rfl) <| hy (fun _ => y_add rfl rfl (w64 (by omega) (by omega))) <| hy (fun _ => y_assign rfl) <| hend <| hsub (ρ' := [(6, _), (62, _), (5, _), (9, _), (43, _), (8, _), (35, _), (7, _), (14, _), (4, _), (2, _), (0, _), (1, _)]) ⟨rfl, rfl, rfl, rfl, rfl, rfl, rfl, rfl, rfl, rfl, rfl, rfl, rfl, trivial⟩ <| ?_
            obtain ⟨rfl, hle⟩ := hp
            refine hmemQ (fun w m => m.eqX 0 rfl (show _ = RBlk g2 46 (dv x.d.room (.slice x.A x.d.seen.length x.c) (.slice A12 (makeF L ch.1 ch.2.1 ch.2.2.1 ((ch.2.2.2.take (ch.2.2.2.length / 2)))).length c12) (.slice x.A3 x.d.waits.length x.c3) x.d.pw) from rfl)) ?_
            refine hnext5 (i + 1) (at_ + 2) (makeF L ch.1 ch.2.1 ch.2.2.1 ((ch.2.2.2.take (ch.2.2.2.length / 2)))) A12 c12 ⟨rfl, rfl, rfl, rfl, rfl, rfl, trivial⟩ [0, 1] rfl [0, 3, 4, 5, 6] rfl (⟨by omega, hfs.symm, by omega, by omega⟩) (by omega)
      · rw [if_neg hk] at hfs
        refine hmemC (fun w m => m.asV 1 rfl .same) ?_
        refine hfactC (fun m => rdX (m.rd 0 rfl)) ?_
        rintro ⟨hl_w0, hA_w0⟩
        refine hcskip <| hthen <| hreg <| hy (fun _ => y_fld rfl fa46_2 (by decide)) <| hy (fun m => y_ld1 rfl ag43 (ld_blk (m.blk 1 rfl) (i := 2) rfl)) <| hy (fun m => yV (y_ldN rfl ag175 sz175 rfl ((m.blk 0 rfl).cells0)) ((rfl : _ = Value.agg (cv ch.1 ch.2.1 ch.2.2.1 (ch.2.2.2)).toArray))) <| ?_
        refine hx (xh_call rfl Tryz.call127 (rmakeC rfl (by omega) (l := L)) [] rfl [1] rfl ?_)
        rintro _ _ _ ⟨A12, n1, c12, rfl, rfl, rfl, hp⟩
        refine hfactL (fun m => rdX (m.rd 0 rfl)) ?_
        rintro ⟨hl_q, hA_q⟩
        refine hy (fun _ => y_fld rfl fa46_2 (by decide)) <| ?_
        refine hx0 (xh_st1a 1 rfl rfl rfl sz43 rfl (by first | exact Nat.le_of_ble_eq_true rfl | simp) ?_)
        refine hend <| hsub (ρ' := [(43, _), (8, _), (35, _), (5, _), (7, _), (14, _), (6, _), (4, _), (2, _), (0, _), (1, _)]) ⟨rfl, rfl, rfl, rfl, rfl, rfl, rfl, rfl, rfl, rfl, rfl, trivial⟩ <| hmemQ (X' := [_, _, _]) (S' := [_, _, _, _, _, _, _]) (fun _ m => m) <| hqblock <| hthen <| hreg <| hy (fun _ => y_move rfl) <| hy (fun _ => y_add rfl rfl (w64 (by omega) (by omega))) <| hy (fun _ => y_assign rfl) <| hend <| hsub (ρ' := [(6, _), (43, _), (8, _), (35, _), (5, _), (7, _), (14, _), (4, _), (2, _), (0, _), (1, _)]) ⟨rfl, rfl, rfl, rfl, rfl, rfl, rfl, rfl, rfl, rfl, rfl, trivial⟩ <| ?_
        obtain ⟨rfl, hle⟩ := hp
        refine hmemQ (fun w m => m.eqX 0 rfl (show _ = RBlk g2 46 (dv x.d.room (.slice x.A x.d.seen.length x.c) (.slice A12 (makeF L ch.1 ch.2.1 ch.2.2.1 (ch.2.2.2)).length c12) (.slice x.A3 x.d.waits.length x.c3) x.d.pw) from rfl)) ?_
        refine hnext5 (i + 1) (at_ + 1) (makeF L ch.1 ch.2.1 ch.2.2.1 (ch.2.2.2)) A12 c12 ⟨rfl, rfl, rfl, rfl, rfl, rfl, trivial⟩ [0, 1] rfl [0, 3, 4, 5, 6] rfl (⟨by omega, hfs.symm, by omega, by omega⟩) (by omega)
    · have hb3 : (bs.drop at_).headD false = false := by simpa using hb
      have hds : dstep (bs.drop at_, L) ch = (bs.drop (at_ + 1), L) := by
        unfold dstep
        rw [if_neg (by rw [hb3]; decide)]
        simp only [tail_drop]
      rw [hds] at hfs
      by_cases hlt1 : at_ < bs.length
      · have hbit := head_drop hlt1
        rw [hb3] at hbit
        refine hcskip <| hthen <| hseq <| hblock <| hseq <| hreg <| hy (fun _ => y_move rfl) <| hy (fun _ => y_move rfl) <| hy (fun _ => y_lenS rfl Tryz.underlying28) <| hy (fun _ => yT (y_lss rfl rfl) ((decide_eq_true (by omega)))) <| hy (fun _ => y_move rfl) <| hyg (o := _) rfl rfl rfl (fun _ => y_move rfl) <| hyg (o := _) rfl rfl rfl (fun _ => y_move rfl) <| hyg (o := _) rfl rfl rfl (fun _ => y_move rfl) <| hyg (o := _) rfl rfl rfl (fun _ => y_lenS rfl Tryz.underlying28) <| hyg (o := _) rfl rfl rfl (fun _ => y_sub rfl rfl (w64 (by omega) (by omega))) <| hyg (o := _) rfl rfl rfl (fun _ => y_max rfl rfl) <| hyg (o := _) rfl rfl rfl (fun _ => y_min rfl rfl) <| hyg (o := _) rfl rfl rfl (fun _ => y_idxS1 rfl rfl Tryz.underlying28 sz4 hA_k (show ((at_ : Nat) : Int) = _ by omega) (by omega)) <| hyg (o := _) rfl rfl rfl (fun m => yV (y_ld1 rfl ag4 ((m.rd 4 rfl).cell (j := at_) hbit)) ((rfl : _ = Value.bool false))) <| hy (fun _ => y_pickT rfl rfl) <| hy (fun _ => y_assign rfl) <| hend <| hsub (ρ' := [(7, _), (14, _), (5, _), (6, _), (4, _), (2, _), (0, _), (1, _)]) ⟨rfl, rfl, rfl, rfl, rfl, rfl, rfl, rfl, trivial⟩ <| hthen <| hseq <| hreg <| hy (fun _ => y_move rfl) <| hy (fun _ => y_add rfl rfl (w64 (by omega) (by omega))) <| hy (fun _ => y_assign rfl) <| hend <| hsub (ρ' := [(5, _), (7, _), (14, _), (6, _), (4, _), (2, _), (0, _), (1, _)]) ⟨rfl, rfl, rfl, rfl, rfl, rfl, rfl, rfl, trivial⟩ <| hthen <| hseq <| hseq <| hreg <| hy (fun _ => y_move rfl) <| hy (fun _ => (y_not rfl)) <| hend <| hsub (ρ' := [(35, _), (5, _), (7, _), (14, _), (6, _), (4, _), (2, _), (0, _), (1, _)]) ⟨rfl, rfl, rfl, rfl, rfl, rfl, rfl, rfl, rfl, trivial⟩ <| hthen <| ?_
        refine hift rfl (rfl) ?_
        refine hexit <| hthen_exit <| hqblock_exit <| hthen <| hreg <| hy (fun _ => y_move rfl) <| hy (fun _ => y_add rfl rfl (w64 (by omega) (by omega))) <| hy (fun _ => y_assign rfl) <| hend <| hsub (ρ' := [(6, _), (35, _), (5, _), (7, _), (14, _), (4, _), (2, _), (0, _), (1, _)]) ⟨rfl, rfl, rfl, rfl, rfl, rfl, rfl, rfl, rfl, trivial⟩ <| ?_
        refine hnext5 (i + 1) (at_ + 1) L A1 c1 ⟨rfl, rfl, rfl, rfl, rfl, rfl, trivial⟩ [0, 0] rfl [0, 1, 2, 3, 4] rfl (⟨by omega, hfs.symm, by omega, by omega⟩) (by omega)
      · refine hcskip <| hthen <| hseq <| hblock <| hseq <| hreg <| hy (fun _ => y_move rfl) <| hy (fun _ => y_move rfl) <| hy (fun _ => y_lenS rfl Tryz.underlying28) <| hy (fun _ => yF (y_lss rfl rfl) ((decide_eq_false (by omega)))) <| hy (fun _ => y_move rfl) <| hskip rfl rfl rfl (by decide) <| hskip rfl rfl rfl (by decide) <| hskip rfl rfl rfl (by decide) <| hskip rfl rfl rfl (by decide) <| hskip rfl rfl rfl (by decide) <| hskip rfl rfl rfl (by decide) <| hskip rfl rfl rfl (by decide) <| hskip rfl rfl rfl (by decide) <| hskip rfl rfl rfl (by decide) <| hy (fun _ => y_pickF rfl rfl) <| hy (fun _ => y_assign rfl) <| hend <| hsub (ρ' := [(7, _), (14, _), (5, _), (6, _), (4, _), (2, _), (0, _), (1, _)]) ⟨rfl, rfl, rfl, rfl, rfl, rfl, rfl, rfl, trivial⟩ <| hthen <| hseq <| hreg <| hy (fun _ => y_move rfl) <| hy (fun _ => y_add rfl rfl (w64 (by omega) (by omega))) <| hy (fun _ => y_assign rfl) <| hend <| hsub (ρ' := [(5, _), (7, _), (14, _), (6, _), (4, _), (2, _), (0, _), (1, _)]) ⟨rfl, rfl, rfl, rfl, rfl, rfl, rfl, rfl, trivial⟩ <| hthen <| hseq <| hseq <| hreg <| hy (fun _ => y_move rfl) <| hy (fun _ => (y_not rfl)) <| hend <| hsub (ρ' := [(35, _), (5, _), (7, _), (14, _), (6, _), (4, _), (2, _), (0, _), (1, _)]) ⟨rfl, rfl, rfl, rfl, rfl, rfl, rfl, rfl, rfl, trivial⟩ <| hthen <| ?_
        refine hift rfl (rfl) ?_
        refine hexit <| hthen_exit <| hqblock_exit <| hthen <| hreg <| hy (fun _ => y_move rfl) <| hy (fun _ => y_add rfl rfl (w64 (by omega) (by omega))) <| hy (fun _ => y_assign rfl) <| hend <| hsub (ρ' := [(6, _), (35, _), (5, _), (7, _), (14, _), (4, _), (2, _), (0, _), (1, _)]) ⟨rfl, rfl, rfl, rfl, rfl, rfl, rfl, rfl, rfl, trivial⟩ <| ?_
        refine hnext5 (i + 1) (at_ + 1) L A1 c1 ⟨rfl, rfl, rfl, rfl, rfl, rfl, trivial⟩ [0, 0] rfl [0, 1, 2, 3, 4] rfl (⟨by omega, hfs.symm, by omega, by omega⟩) (by omega)
  · obtain rfl : i = x.d.waits.length := by omega
    have hLL : L = (dfold bs x.d x.d.waits.length).2 := by rw [← hf]
    refine hmemC (fun w m => m.addS (r' := RRd 4 none 0 []) (.refl _ _) (Rd.nil _ _ _) (fun k hk => absurd rfl hk.1)) ?_
    have hA_z : 0 < 0 → (none : Option Addr) ≠ none := fun h => absurd h (by decide)
    refine hexit <| hthen_exit <| hthen_exit <| hqblock_exit <| hthen <| hseq <| hreg <| hy (fun _ => y_fld rfl fa46_2 (by decide)) <| hy (fun m => y_ld1 rfl ag43 (ld_blk (m.blk 0 rfl) (i := 2) rfl)) <| hy (fun _ => y_fld rfl fa46_1 (by decide)) <| ?_
    refine hx0 (xh_st1a 0 rfl rfl rfl sz43 rfl (by first | exact Nat.le_of_ble_eq_true rfl | simp) ?_)
    refine hend <| hsub (ρ' := [(14, _), (5, _), (6, _), (4, _), (2, _), (0, _), (1, _)]) ⟨rfl, rfl, rfl, rfl, rfl, rfl, rfl, trivial⟩ <| hmemQ (X' := [_, _]) (S' := [_, _, _, _, _, _]) (fun _ m => m) <| hthen <| hseq <| hreg <| hy (fun _ => y_fld rfl fa46_3 (by decide)) <| ?_
    refine hx0 (xh_st1a 0 rfl rfl rfl sz44 rfl (by first | exact Nat.le_of_ble_eq_true rfl | simp) ?_)
    refine hend <| hsub (ρ' := [(14, _), (5, _), (6, _), (4, _), (2, _), (0, _), (1, _)]) ⟨rfl, rfl, rfl, rfl, rfl, rfl, rfl, trivial⟩ <| hmemQ (X' := [_, _]) (S' := [_, _, _, _, _, _]) (fun _ m => m) <| hthen <| hseq <| hreg <| hy (fun _ => y_fld rfl fa46_4 (by decide)) <| ?_
    refine hx0 (xh_st1a 0 rfl rfl rfl sz3 rfl (by first | exact Nat.le_of_ble_eq_true rfl | simp) ?_)
    refine hend <| hsub (ρ' := [(14, _), (5, _), (6, _), (4, _), (2, _), (0, _), (1, _)]) ⟨rfl, rfl, rfl, rfl, rfl, rfl, rfl, trivial⟩ <| hmemQ (X' := [_, _]) (S' := [_, _, _, _, _, _]) (fun _ m => m) <| hthen <| hseq <| hreg <| ?_
    refine hmemL (S' := RRef ⟨{ x.d with seen := L, lasts := L, waits := [], pw := -1 }, A1, c1, A1, c1, none, 0⟩ :: _) (fun w m => m.allS [1, 1, 0] rfl) ?_
    refine hmemL (fun w m => m.eqX 0 rfl (show _ = RBlk g2 46 (RX.cs ⟨{ x.d with seen := L, lasts := L, waits := [], pw := -1 }, A1, c1, A1, c1, none, 0⟩) from rfl)) ?_
    refine hy (fun m => yV (y_ldN rfl ag46 sz46 rfl ((m.blk 0 rfl).cells0)) ((rfl : _ = Value.agg (RX.cs ⟨{ x.d with seen := L, lasts := L, waits := [], pw := -1 }, A1, c1, A1, c1, none, 0⟩).toArray))) <| ?_
    refine hx0 (xh_stA 1 rfl rfl rfl sz46 rfl cs_one rfl ?_)
    refine hend <| hsub (ρ' := [(14, _), (5, _), (6, _), (4, _), (2, _), (0, _), (1, _)]) ⟨rfl, rfl, rfl, rfl, rfl, rfl, rfl, trivial⟩ <| hmemQ (X' := [_, _]) (S' := [_, _, _, _, _, _, _]) (fun _ m => m) <| hthen <| hret <| ?_
    exact hretN trivial rfl rfl ag46 sz46 rfl (fun m => (m.blk 0 rfl).cells0) [] rfl [0] rfl ⟨_, rfl, rfl, rfl, by rw [hLL]; rfl⟩
end Go.Proofs.YtfikjheicjamhaaGreatDoor
end
section
/- A disk that is the document's, in all: what is seen, what lasts, what waits; kept by all that is done. No program walked. -/
set_option linter.unusedVariables false
set_option linter.unusedSimpArgs false
namespace Go.Proofs.YtfikjheicjamhaaGreatDoor
open Go.Eng Go.Hx
theorem FSim.del {fs : Files} {l : List FP} (h : FSim fs l) (p : List UInt8) : FSim (adel fs p) (withoutF l p) := by
  refine ⟨srtd_filter _ h.ord, adel_nodup h.nd, fun q => ?_, fun x hx => ?_⟩
  · rw [aget_adel h.nd]
    have := lk_filter p l q
    unfold withoutF
    rw [this]
    by_cases hq : p = q
    · rw [if_pos hq, if_pos hq.symm]; rfl
    · rw [if_neg hq, if_neg (fun e => hq e.symm)]; exact h.look q
  · have h1 := adel_vals (List.mem_map.2 ⟨x, hx, rfl⟩)
    obtain ⟨y, hy, e⟩ := List.mem_map.1 h1
    rw [← e]; exact h.len y hy
theorem FSim.at {fs : Files} {l : List FP} (h : FSim fs l) (p : List UInt8) : (aget fs p = none ∧ l[findN l p]? = none) ∨ ∃ r x, aget fs p = some r ∧ l[findN l p]? = some x ∧ r.l = x.2 ∧ r.n = r.l.length := by
  have h1 := h.look p
  rw [← lk_find] at h1
  cases ha : aget fs p with
  | none =>
    rw [ha] at h1
    cases hb : l[findN l p]? with
    | none => exact .inl ⟨rfl, rfl⟩
    | some y => rw [hb] at h1; cases h1
  | some r =>
    rw [ha] at h1
    cases hb : l[findN l p]? with
    | none => rw [hb] at h1; cases h1
    | some y =>
      rw [hb] at h1
      exact .inr ⟨r, y, rfl, rfl, Option.some.inj h1, h.len _ (aget_mem ha)⟩
/-- a change, as the document has it -/
def Chg.rc : Chg → RC
  | .written p r => (0, p, [], r.l)
  | .renamed a c => (1, a, c, [])
  | .removed p => (2, p, [], [])
def Chg.wl (c : Chg) : Prop := ∀ r, c.row = some r → r.n = r.l.length
theorem FSim.apl {fs : Files} {l : List FP} (h : FSim fs l) {c : Chg} (hc : c.wl) : FSim (apl fs c) (makeF l c.rc.1 c.rc.2.1 c.rc.2.2.1 c.rc.2.2.2) := by
  cases c with
  | written p r =>
    rw [makeF]
    exact h.put (hc r rfl)
  | renamed a b =>
    rw [makeF]
    simp only [Chg.rc, Go.Proofs.YtfikjheicjamhaaGreatDoor.apl]
    rcases h.at a with ⟨h1, h2⟩ | ⟨r, x, h1, h2, h3, h4⟩
    · simp only [h1, h2]; exact h
    · simp only [h1, h2]
      rw [← h3]
      exact (h.del a).put h4
  | removed p =>
    rw [makeF]
    simp only [Chg.rc, Go.Proofs.YtfikjheicjamhaaGreatDoor.apl]
    rcases h.at p with ⟨h1, h2⟩ | ⟨r, x, h1, h2, h3, h4⟩
    · simp only [h2]
      have e : adel fs p = fs := by
        have hk : ¬ p ∈ akeys fs := aget_none.1 h1
        clear h h2 h1
        induction fs with
        | nil => rfl
        | cons a q ih =>
          obtain ⟨k, u⟩ := a
          simp only [akeys, List.map_cons, List.mem_cons, not_or] at hk
          simp only [adel]
          rw [if_neg (fun e => hk.1 e.symm), ih hk.2]
      rw [if_neg (by decide), e]; exact h
    · simp only [h2]
      rw [if_neg (by decide)]
      exact h.del p
/-- a disk is the document's -/
structure DS (st : DSt) (d : RD) (k : Nat) : Prop where
  sim : DSim st d
  ok : DOk st k
  low : -1 ≤ d.pw
  lasts : FSim st.lasts d.lasts
  waits : st.waits.map Chg.rc = d.waits
  wlen : ∀ c ∈ st.waits, c.wl
theorem DS.le {st : DSt} {d : RD} {k k' : Nat} (h : DS st d k) (hk : k ≤ k') : DS st d k' := ⟨h.sim, h.ok.le hk, h.low, h.lasts, h.waits, h.wlen⟩
theorem DS.rok {st : DSt} {d : RD} {k : Nat} (h : DS st d k) : ROk d k := by
  refine ⟨?_, ?_, ?_, by have := h.low; omega, ?_⟩
  · rw [← h.sim.files.len1]; exact h.ok.seen
  · rw [← h.sim.waits]; have := h.ok.rest; omega
  · rw [← h.sim.files.tot]; exact h.ok.tot
  · rw [← h.sim.power]; exact h.ok.power
theorem DS.init {n : Int} {gs gl : Nat} (h : n ≤ 1048576) : DS (dinit n gs gl) (RD.new n) 0 :=
  ⟨⟨rfl, rfl, FSim.nil, rfl⟩, DOk.init h, Int.le_refl _, FSim.nil, rfl, fun c hc => by cases hc⟩
theorem lessP_low {p : Int} (h : -1 ≤ p) : -1 ≤ lessP p := by
  unfold lessP
  split <;> omega
theorem DS.did {st : DSt} {d : RD} {k : Nat} (h : DS st d k) {c : Chg} (hc : c.wl) {st1 : DSt} (hs : st1.room = st.room ∧ st1.lasts = st.lasts ∧ st1.power = st.spent.power ∧ st1.seen = apl st.seen c ∧ st1.waits = st.waits ++ [c]) (ok : DOk st1 (k + 1)) :
    DS st1 (d.did c.rc.1 c.rc.2.1 c.rc.2.2.1 c.rc.2.2.2) (k + 1) := by
  obtain ⟨h1, h2, h3, h4, h5⟩ := hs
  refine ⟨⟨h1.trans h.sim.room, ?_, ?_, ?_⟩, ok, lessP_low h.low, ?_, ?_, fun x hx => ?_⟩
  · rw [h3]
    show (if 0 < st.power then st.power - 1 else st.power) = lessP d.pw
    rw [h.sim.power]; rfl
  · rw [h4]; exact h.sim.files.apl hc
  · rw [h5, List.length_append, h.sim.waits]
    show _ = (d.waits ++ [_]).length
    rw [List.length_append]; rfl
  · rw [h2]; exact h.lasts
  · rw [h5, List.map_append, h.waits]; rfl
  · rw [h5] at hx
    rcases List.mem_append.1 hx with hx | hx
    · exact h.wlen x hx
    · rw [List.mem_singleton.1 hx]; exact hc
/-- behind a Write, of both -/
theorem DS.write {st st1 : DSt} {d : RD} {k n : Nat} (h : DS st d k) {p l : List UInt8} {B A : Option Addr} {c1 c2 : Nat} (hl : l.length = n) (hn : n ≤ 1048576)
    (hw : (writeE st p n ≠ 0 ∧ st1 = st) ∨ (writeE st p n = 0 ∧ st1 = st.wrote p ⟨B, n, c1, l⟩ A c2)) : DS st1 (d.write p l) (k + 1) ∧ d.writeE p l = writeE st p n := by
  subst hl
  have e := h.sim.writeE p l
  refine ⟨?_, e.symm⟩
  unfold RD.write
  rw [← e]
  rcases hw with ⟨h1, rfl⟩ | ⟨h1, rfl⟩
  · rw [if_neg h1]; exact h.le (Nat.le_succ _)
  · rw [if_pos h1]
    exact h.did (c := .written p ⟨B, l.length, c1, l⟩) (fun r hr => by cases hr; rfl) ⟨rfl, rfl, rfl, rfl, rfl⟩ (h.ok.wrote hn A c2)
theorem DS.readE {st : DSt} {d : RD} {k : Nat} (h : DS st d k) (p : List UInt8) : d.readE p = foundE st p := (h.sim.readE p).symm
theorem DS.readB {st : DSt} {d : RD} {k : Nat} (h : DS st d k) (p : List UInt8) : d.readB p = readB st p := (h.sim.readB p).symm
theorem DS.rename {st st1 : DSt} {d : RD} {k : Nat} (h : DS st d k) {a c : List UInt8} {A : Option Addr} {j : Nat}
    (hw : (renameE st a c ≠ 0 ∧ st1 = st) ∨ (renameE st a c = 0 ∧ st1 = st.did (.renamed a c) A j)) : DS st1 (d.rename a c) (k + 1) ∧ d.renameE a c = renameE st a c := by
  have e : d.renameE a c = renameE st a c := by
    unfold RD.renameE Go.Proofs.YtfikjheicjamhaaGreatDoor.renameE
    rw [h.readE]
  refine ⟨?_, e⟩
  unfold RD.rename
  rw [e]
  rcases hw with ⟨h1, rfl⟩ | ⟨h1, rfl⟩
  · rw [if_neg h1]; exact h.le (Nat.le_succ _)
  · rw [if_pos h1]
    exact h.did (c := .renamed a c) (fun r hr => by cases hr) ⟨rfl, rfl, rfl, rfl, rfl⟩ (h.ok.did rfl A j)
theorem DS.sync {st st1 : DSt} {d : RD} {k gl : Nat} (h : DS st d k) (hw : (st.power = 0 ∧ st1 = st) ∨ (st.power ≠ 0 ∧ st1 = st.synced gl)) : DS st1 d.sync k ∧ d.syncE = syncE st := by
  have e : d.syncE = syncE st := by unfold RD.syncE Go.Proofs.YtfikjheicjamhaaGreatDoor.syncE; rw [h.sim.power]
  refine ⟨?_, e⟩
  unfold RD.sync
  rw [← h.sim.power]
  rcases hw with ⟨h1, rfl⟩ | ⟨h1, rfl⟩
  · rw [if_pos h1]; exact h
  · rw [if_neg h1]
    refine ⟨⟨h.sim.room, ?_, h.sim.files, rfl⟩, h.ok.synced gl, ?_, h.sim.files, rfl, fun c hc => by cases hc⟩
    · rfl
    · rw [h.sim.power]; exact lessP_low h.low
theorem DS.power {st : DSt} {d : RD} {k : Nat} (h : DS st d k) {n : Int} (hn : n ≤ 1000000000000) : DS (st.powered n) (d.power n) k := by
  refine ⟨⟨h.sim.room, rfl, h.sim.files, h.sim.waits⟩, ⟨?_, h.ok.room, h.ok.seen, h.ok.rest, h.ok.small⟩, ?_, h.lasts, h.waits, h.wlen⟩
  · show max n (-1) ≤ _; omega
  · show -1 ≤ max n (-1); omega
theorem rstep_sim {ks : List Bool} {L : Files} {l : List FP} {c : Chg} (h : FSim L l) (hc : c.wl) : (rstep (ks, L) c).1 = (dstep (ks, l) c.rc).1 ∧ FSim (rstep (ks, L) c).2 (dstep (ks, l) c.rc).2 := by
  unfold rstep dstep
  by_cases hb : ks.headD false = true
  · rw [if_pos hb, if_pos hb]
    cases c with
    | written p r =>
      rw [if_pos (show (Chg.rc (.written p r)).1 = 0 from rfl)]
      refine ⟨rfl, ?_⟩
      have hr := hc r rfl
      by_cases hb2 : ks.tail.headD false = true
      · simp only [hb2, if_true]
        exact h.apl hc
      · simp only [hb2, if_false]
        have e : (Chg.written p r.half).rc = (0, p, [], r.l.take (r.l.length / 2)) := by simp [Chg.rc, BRow.half, hr]
        have := h.apl (c := .written p r.half) (fun x hx => by cases hx; simp [BRow.half]; omega)
        rw [e] at this
        exact this
    | renamed a b => exact ⟨rfl, h.apl hc⟩
    | removed p => exact ⟨rfl, h.apl hc⟩
  · rw [if_neg hb, if_neg hb]
    exact ⟨rfl, h⟩
theorem fold_sim : ∀ (cs : List Chg) {ks : List Bool} {L : Files} {l : List FP}, FSim L l → (∀ c ∈ cs, c.wl) → (cs.foldl rstep (ks, L)).1 = ((cs.map Chg.rc).foldl dstep (ks, l)).1 ∧ FSim (cs.foldl rstep (ks, L)).2 ((cs.map Chg.rc).foldl dstep (ks, l)).2
  | [], ks, L, l, h, hc => ⟨rfl, h⟩
  | c :: r, ks, L, l, h, hc => by
    obtain ⟨h1, h2⟩ := rstep_sim (ks := ks) h (hc c (List.mem_cons_self ..))
    have e : dstep (ks, l) c.rc = ((rstep (ks, L) c).1, (dstep (ks, l) c.rc).2) := by rw [h1]
    rw [List.map_cons, List.foldl_cons, List.foldl_cons, e]
    exact fold_sim r h2 (fun x hx => hc x (List.mem_cons_of_mem _ hx))
theorem DS.restart {st : DSt} {d : RD} {k : Nat} (h : DS st d k) (keep : List Bool) (gs : Nat) : DS (st.started keep gs) (d.restart keep) k := by
  have hf := (fold_sim st.waits (ks := keep) h.lasts h.wlen).2
  rw [h.waits] at hf
  have e1 : rfold keep st st.waits.length = st.waits.foldl rstep (keep, st.lasts) := by rw [rfold, List.take_of_length_le (Nat.le_refl _)]
  have e2 : dfold keep d d.waits.length = d.waits.foldl dstep (keep, d.lasts) := by rw [dfold, List.take_of_length_le (Nat.le_refl _)]
  rw [← e1, ← e2] at hf
  exact ⟨⟨h.sim.room, rfl, hf, rfl⟩, h.ok.started keep gs, by show -1 ≤ (-1 : Int); omega, hf, rfl, fun c hc => by cases hc⟩
theorem DS.wbound {st : DSt} {d : RD} {k : Nat} (h : DS st d k) : ∀ c ∈ d.waits, c.2.2.2.length ≤ 1048576 := by
  intro c hc
  rw [← h.waits] at hc
  obtain ⟨x, hx, rfl⟩ := List.mem_map.1 hc
  cases x with
  | written p r =>
    have h1 := h.wlen _ hx r rfl
    have h2 := h.ok.small r (by unfold rowsOf; exact List.mem_append_right _ (List.mem_filterMap.2 ⟨_, hx, rfl⟩))
    show r.l.length ≤ _
    omega
  | renamed a b => exact Nat.zero_le _
  | removed p => exact Nat.zero_le _
theorem DS.lbound {st : DSt} {d : RD} {k : Nat} (h : DS st d k) : d.lasts.length ≤ k := by
  rw [← h.lasts.len1]; have := h.ok.rest; omega
/-- a disk of the document that some disk of the program could be -/
def RD.ok (d : RD) (k : Nat) : Prop := ∃ st, DS st d k
theorem DS.rdok {st : DSt} {d : RD} {k : Nat} (h : DS st d k) : d.ok k := ⟨st, h⟩
theorem RD.ok.rok {d : RD} {k : Nat} (h : d.ok k) : ROk d k := by obtain ⟨st, h⟩ := h; exact h.rok
theorem RD.ok.le {d : RD} {k k' : Nat} (h : d.ok k) (hk : k ≤ k') : d.ok k' := by obtain ⟨st, h⟩ := h; exact ⟨st, h.le hk⟩
theorem RD.ok.new {n : Int} (h : n ≤ 1048576) : (RD.new n).ok 0 := ⟨dinit n 0 0, DS.init h⟩
theorem RD.ok.write {d : RD} {k : Nat} (h : d.ok k) {p l : List UInt8} (hl : l.length ≤ 1048576) : (d.write p l).ok (k + 1) := by
  obtain ⟨st, h⟩ := h
  by_cases he : Go.Proofs.YtfikjheicjamhaaGreatDoor.writeE st p l.length = 0
  · exact ⟨_, (h.write (st1 := st.wrote p ⟨none, l.length, 0, l⟩ none 0) rfl hl (.inr ⟨he, rfl⟩)).1⟩
  · exact ⟨_, (h.write (B := none) (A := none) (c1 := 0) (c2 := 0) (st1 := st) rfl hl (.inl ⟨he, rfl⟩)).1⟩
theorem RD.ok.rename {d : RD} {k : Nat} (h : d.ok k) {a c : List UInt8} : (d.rename a c).ok (k + 1) := by
  obtain ⟨st, h⟩ := h
  by_cases he : Go.Proofs.YtfikjheicjamhaaGreatDoor.renameE st a c = 0
  · exact ⟨_, (h.rename (st1 := st.did (.renamed a c) none 0) (.inr ⟨he, rfl⟩)).1⟩
  · exact ⟨_, (h.rename (A := none) (j := 0) (st1 := st) (.inl ⟨he, rfl⟩)).1⟩
theorem RD.ok.sync {d : RD} {k : Nat} (h : d.ok k) : d.sync.ok k := by
  obtain ⟨st, h⟩ := h
  by_cases he : st.power = 0
  · exact ⟨_, (h.sync (gl := 0) (st1 := st) (.inl ⟨he, rfl⟩)).1⟩
  · exact ⟨_, (h.sync (st1 := st.synced 0) (.inr ⟨he, rfl⟩)).1⟩
theorem RD.ok.power {d : RD} {k : Nat} (h : d.ok k) {n : Int} (hn : n ≤ 1000000000000) : (d.power n).ok k := by
  obtain ⟨st, h⟩ := h
  exact ⟨_, h.power hn⟩
theorem RD.ok.restart {d : RD} {k : Nat} (h : d.ok k) (keep : List Bool) : (d.restart keep).ok k := by
  obtain ⟨st, h⟩ := h
  exact ⟨_, h.restart keep 0⟩
end Go.Proofs.YtfikjheicjamhaaGreatDoor
end
section
/- What is done with superblocks, over plain disks. No program walked. -/
set_option linter.unusedVariables false
set_option linter.unusedSimpArgs false
namespace Go.Proofs.YtfikjheicjamhaaGreatDoor
open Go.Eng Go.Hx
/-- a file is written ahead, and takes its place -/
def RD.saveS (d : RD) (a c bb : List UInt8) : RD × Int :=
  if d.writeE a bb ≠ 0 then (d, d.writeE a bb) else
  if (d.write a bb).syncE ≠ 0 then (d.write a bb, (d.write a bb).syncE) else
  if (d.write a bb).sync.renameE a c ≠ 0 then ((d.write a bb).sync, (d.write a bb).sync.renameE a c) else
  (((d.write a bb).sync.rename a c).sync, ((d.write a bb).sync.rename a c).syncE)
def nSup : List UInt8 := [115, 47, 115, 117, 112, 101, 114]
def nNew : List UInt8 := [115, 47, 110, 101, 119]
def nSlot (i : Nat) : List UInt8 := if i = 0 then [115, 47, 48] else [115, 47, 49]
/-- a slot of bytes -/
def rdSl (l : List UInt8) : Sl := ⟨decide (l.getD 0 0 = 1), (l.drop 1).take 32, (num4 (l.drop 33) : Nat)⟩
def rdBody (l : List UInt8) : Sup := ⟨(l.getD 4 0).toNat, (num4 (l.drop 5) : Nat), rdSl (l.drop 9), rdSl (l.drop 46)⟩
/-- the superblock of bytes, or why there is none -/
def rdOk (l : List UInt8) : Prop := l.length = 83 ∧ l.take 4 = [76, 84, 83, 49] ∧ (l.getD 9 0).toNat ≤ 1 ∧ (l.getD 46 0).toNat ≤ 1 ∧ (rdBody l).may
instance (l : List UInt8) : Decidable (rdOk l) := by unfold rdOk; infer_instance
def rdSup (l : List UInt8) : Sup × Int := if takeE l ≠ 0 then (Sup.zero, takeE l) else if rdOk (l.take (l.length - 4)) then (rdBody (l.take (l.length - 4)), 0) else (Sup.zero, 2)
def RD.loadS (d : RD) : Sup × Int := if d.readE nSup ≠ 0 then (Sup.zero, d.readE nSup) else rdSup (d.readB nSup)
def RD.saveSup (d : RD) (s : Sup) : RD × Int := if s.may then d.saveS nNew nSup s.bytes else (d, 1)
def RD.imageS (d : RD) (s : Sup) (i : Nat) : List UInt8 × Int :=
  if (s.at i).full = false then ([], 4) else if d.readE (nSlot i) ≠ 0 then ([], d.readE (nSlot i)) else
  if ((d.readB (nSlot i)).length : Int) ≠ (s.at i).size ∨ shaL (d.readB (nSlot i)) ≠ (s.at i).image then ([], 7) else (d.readB (nSlot i), 0)
def RD.activeS (d : RD) : List UInt8 × Int := if d.loadS.2 ≠ 0 then ([], d.loadS.2) else d.imageS d.loadS.1 d.loadS.1.active.toNat
/-- the other slot -/
def _root_.Go.Hx.Sup.other (s : Sup) : Nat := (1 - s.active).toNat
def RD.stageS (d : RD) (bb : List UInt8) : RD × Int × Int :=
  if 65536 < bb.length then (d, 0, 3) else if d.loadS.2 ≠ 0 then (d, 0, d.loadS.2) else
  let s := d.loadS.1
  let p := if (s.at s.other).full then d.saveSup (s.put s.other Sl.zero) else (d, 0)
  if p.2 ≠ 0 then (p.1, 0, p.2) else
  if p.1.writeE (nSlot s.other) bb ≠ 0 then (p.1, 0, p.1.writeE (nSlot s.other) bb) else
  let d2 := p.1.write (nSlot s.other) bb
  if d2.syncE ≠ 0 then (d2, 0, d2.syncE) else (d2.sync, s.other, 0)
def _root_.Go.Hx.Sup.turned (s : Sup) : Sup := { s with active := 1 - s.active, gen := s.gen + 1 }
def RD.turnS (d : RD) (s : Sup) : RD × Int × Int := if 2147483647 ≤ s.gen then (d, 0, 5) else
  let p := d.saveSup s.turned
  if p.2 ≠ 0 then (p.1, 0, p.2) else (p.1, s.gen + 1, 0)
def RD.flipS (d : RD) (im : List UInt8) : RD × Int × Int :=
  if d.loadS.2 ≠ 0 then (d, 0, d.loadS.2) else
  let s := d.loadS.1
  if d.readE (nSlot s.other) ≠ 0 then (d, 0, d.readE (nSlot s.other)) else
  let q := d.readB (nSlot s.other)
  if 65536 < q.length then (d, 0, 3) else if shaL q ≠ im then (d, 0, 7) else d.turnS (s.put s.other ⟨true, im, (q.length : Int)⟩)
def RD.backS (d : RD) : RD × Int × Int :=
  if d.loadS.2 ≠ 0 then (d, 0, d.loadS.2) else
  let s := d.loadS.1
  if (d.imageS s s.other).2 ≠ 0 then (d, 0, (d.imageS s s.other).2) else d.turnS s
theorem num4_i (l : List UInt8) : (0 : Int) ≤ (num4 l : Nat) ∧ ((num4 l : Nat) : Int) ≤ 4294967295 := by have := num4_lt l; omega
theorem rdSl_wf {l : List UInt8} (h : 33 ≤ l.length) : (rdSl l).wf := by
  have := num4_i (l.drop 33)
  exact ⟨by simp [rdSl]; omega, by show _ ≤ ((num4 (l.drop 33) : Nat) : Int); omega, by show ((num4 (l.drop 33) : Nat) : Int) ≤ _; omega⟩
theorem rdBody_wf {l : List UInt8} (h : l.length = 83) : (rdBody l).wf := by
  have h1 := num4_i (l.drop 5)
  have h2 := (l.getD 4 0).toNat_lt
  refine ⟨?_, ?_, ?_, ?_, rdSl_wf (by rw [List.length_drop]; omega), rdSl_wf (by rw [List.length_drop]; omega)⟩
  · show _ ≤ ((l.getD 4 0).toNat : Int); omega
  · show ((l.getD 4 0).toNat : Int) ≤ _; omega
  · show _ ≤ ((num4 (l.drop 5) : Nat) : Int); omega
  · show ((num4 (l.drop 5) : Nat) : Int) ≤ _; omega
theorem rdSup_wf (l : List UInt8) : (rdSup l).1.wf := by
  unfold rdSup
  split
  · exact Sup.zero_wf
  · split
    · rename_i h; exact rdBody_wf h.1
    · exact Sup.zero_wf
theorem rdSup_may {l : List UInt8} (h : (rdSup l).2 = 0) : (rdSup l).1.may := by
  unfold rdSup at h ⊢
  split at h
  · rename_i h1; exact absurd h h1
  · rename_i h1
    rw [if_neg h1]
    split at h
    · rename_i h2; rw [if_pos h2]; exact h2.2.2.2.2
    · exact absurd h (by decide)
theorem RD.loadS_wf (d : RD) : d.loadS.1.wf := by
  unfold RD.loadS
  split
  · exact Sup.zero_wf
  · exact rdSup_wf _
theorem RD.loadS_may {d : RD} (h : d.loadS.2 = 0) : d.loadS.1.may := by
  unfold RD.loadS at h ⊢
  split at h
  · rename_i h1; exact absurd h h1
  · rename_i h1; rw [if_neg h1]; exact rdSup_may h
theorem _root_.Go.Hx.Sup.may_other {s : Sup} (h : s.may) : s.other < 2 ∧ (s.other : Int) = 1 - s.active ∧ s.active = (s.active.toNat : Int) ∧ s.active.toNat < 2 := by
  have := h.1
  unfold Sup.other
  omega
end Go.Proofs.YtfikjheicjamhaaGreatDoor
end
section
/- Contracts: superblocks saved by the document; read and saved by the program (layer 22). -/
set_option linter.unusedVariables false
set_option linter.unusedSimpArgs false
set_option maxRecDepth 20000
namespace Go.Proofs.YtfikjheicjamhaaGreatDoor
open Go.Eng Go.Hx
theorem saveS_ok {d : RD} {k : Nat} (h : d.ok k) {a c l : List UInt8} (hl : l.length ≤ 1048576) : (d.saveS a c l).1.ok (k + 2) := by
  have h1 := h.write (p := a) hl
  unfold RD.saveS
  split
  · exact h.le (by omega)
  · split
    · exact h1.le (by omega)
    · split
      · exact h1.sync.le (by omega)
      · exact h1.sync.rename.sync
theorem rsaveSC {x : RX} {kk : Nat} {s : Sup} (h : s.wf) (hm : s.may) (hD : x.d.ok kk) (hkk : kk ≤ 90000) : Con Tryz.prog 50 [.agg x.cs.toArray, .agg s.cs.toArray] [] [RRef x] (fun v_ X_ S_ => ∃ y, v_ = (.tuple #[.agg y.cs.toArray, .int .i64 (x.d.saveS nNew nSup s.bytes).2]) ∧ X_ = [] ∧ S_ = [RRef y] ∧ (y.d = (x.d.saveS nNew nSup s.bytes).1)) := by
  have hbl : s.bytes.length ≤ 1048576 := by rw [Sup.bytes_len h]; decide
  have ok1 := hD.write (p := nNew) hbl
  have okr := hD.rok
  have okr1 := ok1.rok
  have okr2 := ok1.sync.rok
  have okr3 := ok1.sync.rename (a := nNew) (c := nSup) |>.rok
  refine henter (N := 38) Tryz.func50 rfl rfl (by simp) fun b => ?_
  refine hseq <| hreg <| ?_
  refine hx (xh_box rfl (fun g2 => ?_))
  refine hmemL (fun w m => m.eqX 0 rfl (show _ = RBlk g2 46 x.cs from congrArg (RBlk _ _) (cells_agg _))) ?_
  refine hx (xh_box rfl (fun g3 => ?_))
  refine hmemL (fun w m => m.eqX 0 rfl (show _ = RBlk g3 51 s.cs from congrArg (RBlk _ _) (cells_agg _))) ?_
  refine hx (xh_alloc ti46 (fun g4 => ?_))
  refine hy (fun _ => y_assign rfl) <| hend <| hmemQ (X' := [_, _, _]) (S' := [_]) (fun _ m => m) <| hthen <| hseq <| hdrw [2, 3, 4, 8] [(0, some 2), (1, some 0), (2, none), (3, none), (4, none), (5, some 3), (6, some 3), (7, some 4), (8, none), (9, some 4)] (by kernel_rfl) (by kernel_rfl) rfl 3 <| hty (fun m => yV (y_ldN rfl ag46 sz46 rfl ((m.blk 2 rfl).cells0)) ((rfl : _ = Value.agg x.cs.toArray))) <| hty (fun m => yV (y_ldN rfl ag51 sz51 (Sup.cs_len h) ((m.blk 1 rfl).cells0)) ((rfl : _ = Value.agg s.cs.toArray))) <| ?_
  refine htx (xh_call rfl Tryz.call120 (rbytesSC h hm) [] rfl [] rfl ?_)
  rintro _ _ _ ⟨v, rfl, rfl, rfl⟩
  refine ⟨(fun _ => wk [1, 1, 1] [0] rfl rfl), ?_⟩
  refine htfact (fun m => (m.own 0 rfl).slice) ?_
  rintro ⟨A_x, c_x, rfl, hc_x⟩
  refine htfact (fun m => (m.ord 0 rfl).2.1) fun hA_x => ?_
  refine hts (fun _ => wk [1, 1, 1] [0] rfl rfl) (fun m => y_b2s rfl Tryz.underlying27 Tryz.underlying5 Tryz.underlying9 (m.ord 0 rfl)) <| ?_
  refine htx (xh_call rfl Tryz.call40 (rwriteX okr (by omega) (by decide) (by rw [Sup.bytes_len h]; decide) (p := nNew) (bb := s.bytes)) [] rfl [0] rfl ?_)
  rintro _ _ _ ⟨y, rfl, rfl, rfl, hd1⟩
  refine ⟨(fun _ => wk [1, 1, 1] [1] rfl rfl), ?_⟩
  refine htyU (y_move rfl) <| htyU (y_extract rfl rfl) <| htyU (y_extract rfl rfl) <| ?_
  refine htx0 (xh_stA 3 rfl rfl rfl sz46 rfl cs_one rfl ⟨(fun h => absurd h (by decide)), ?_⟩)
  refine htyU (y_assign rfl) <| htend <| hsub (ρ' := [(6, _), (5, _), (4, _), (3, _), (2, _), (0, _), (1, _)]) ⟨rfl, rfl, rfl, rfl, rfl, rfl, rfl, trivial⟩ <| hmemQ (X' := [_, _, _, _]) (S' := [_, _]) (fun _ m => m) <| hthen <| hseq <| hseq <| hreg <| hy (fun _ => y_move rfl) <| hy (fun _ => y_eql rfl rfl) <| hend <| hsub (ρ' := [(16, _), (6, _), (5, _), (4, _), (3, _), (2, _), (0, _), (1, _)]) ⟨rfl, rfl, rfl, rfl, rfl, rfl, rfl, rfl, trivial⟩ <| hthen <| ?_
  refine hif rfl (fun h1 => ?_) (fun h1 => ?_)
  · refine hreg <| hy (fun m => yV (y_ldN rfl ag46 sz46 rfl ((m.blk 0 rfl).cells0)) ((rfl : _ = Value.agg y.cs.toArray))) <| ?_
    refine hx (xh_call rfl Tryz.call102 (rsyncX (by rw [hd1]; exact okr1)) [] rfl [0] rfl ?_)
    rintro _ _ _ ⟨y2, rfl, rfl, rfl, hd2⟩
    refine hy (fun _ => y_move rfl) <| hy (fun _ => y_extract rfl rfl) <| hy (fun _ => y_extract rfl rfl) <| ?_
    refine hx0 (xh_stA 0 rfl rfl rfl sz46 rfl cs_one rfl ?_)
    refine hy (fun _ => y_assign rfl) <| hend <| hsub (ρ' := [(6, _), (16, _), (5, _), (4, _), (3, _), (2, _), (0, _), (1, _)]) ⟨rfl, rfl, rfl, rfl, rfl, rfl, rfl, rfl, trivial⟩ <| hmemQ (X' := [_, _, _, _]) (S' := [_, _, _]) (fun _ m => m) <| hthen <| hseq <| hseq <| hreg <| hy (fun _ => y_move rfl) <| hy (fun _ => y_eql rfl rfl) <| hend <| hsub (ρ' := [(23, _), (6, _), (16, _), (5, _), (4, _), (3, _), (2, _), (0, _), (1, _)]) ⟨rfl, rfl, rfl, rfl, rfl, rfl, rfl, rfl, rfl, trivial⟩ <| hthen <| ?_
    refine hif rfl (fun h2 => ?_) (fun h2 => ?_)
    · refine hreg <| hy (fun m => yV (y_ldN rfl ag46 sz46 rfl ((m.blk 0 rfl).cells0)) ((rfl : _ = Value.agg y2.cs.toArray))) <| ?_
      refine hx (xh_call rfl Tryz.call103 (rrenameX (by rw [hd2, hd1]; exact okr2) (by omega) (by decide) (a := nNew) (c := nSup)) [] rfl [0] rfl ?_)
      rintro _ _ _ ⟨y3, rfl, rfl, rfl, hd3⟩
      refine hy (fun _ => y_move rfl) <| hy (fun _ => y_extract rfl rfl) <| hy (fun _ => y_extract rfl rfl) <| ?_
      refine hx0 (xh_stA 0 rfl rfl rfl sz46 rfl cs_one rfl ?_)
      refine hy (fun _ => y_assign rfl) <| hend <| hsub (ρ' := [(6, _), (23, _), (16, _), (5, _), (4, _), (3, _), (2, _), (0, _), (1, _)]) ⟨rfl, rfl, rfl, rfl, rfl, rfl, rfl, rfl, rfl, trivial⟩ <| hmemQ (X' := [_, _, _, _]) (S' := [_, _, _, _]) (fun _ m => m) <| hthen <| hseq <| hseq <| hreg <| hy (fun _ => y_move rfl) <| hy (fun _ => y_eql rfl rfl) <| hend <| hsub (ρ' := [(30, _), (6, _), (23, _), (16, _), (5, _), (4, _), (3, _), (2, _), (0, _), (1, _)]) ⟨rfl, rfl, rfl, rfl, rfl, rfl, rfl, rfl, rfl, rfl, trivial⟩ <| hthen <| ?_
      refine hif rfl (fun h3 => ?_) (fun h3 => ?_)
      · have hS : x.d.saveS nNew nSup s.bytes = (y3.d.sync, y3.d.syncE) := by
          rw [hd3, hd2, hd1, RD.saveS, if_neg (by rw [h1]; decide), if_neg (by rw [← hd1, h2]; decide), if_neg (by rw [← hd1, ← hd2, h3]; decide)]
        rw [hS]
        refine hreg <| hy (fun m => yV (y_ldN rfl ag46 sz46 rfl ((m.blk 0 rfl).cells0)) ((rfl : _ = Value.agg y3.cs.toArray))) <| ?_
        refine hx (xh_call rfl Tryz.call102 (rsyncX (by rw [hd3, hd2, hd1]; exact okr3)) [] rfl [0] rfl ?_)
        rintro _ _ _ ⟨y4, rfl, rfl, rfl, hv⟩
        refine hy (fun _ => y_move rfl) <| hy (fun _ => y_extract rfl rfl) <| hy (fun _ => y_extract rfl rfl) <| ?_
        refine hx0 (xh_stA 0 rfl rfl rfl sz46 rfl cs_one rfl ?_)
        refine hy (fun _ => y_assign rfl) <| hend <| hsub (ρ' := [(6, _), (30, _), (23, _), (16, _), (5, _), (4, _), (3, _), (2, _), (0, _), (1, _)]) ⟨rfl, rfl, rfl, rfl, rfl, rfl, rfl, rfl, rfl, rfl, trivial⟩ <| hmemQ (X' := [_, _, _, _]) (S' := [_, _, _, _, _]) (fun _ m => m) <| hthen <| hseq <| hreg <| hy (fun m => yV (y_ldN rfl ag46 sz46 rfl ((m.blk 0 rfl).cells0)) ((rfl : _ = Value.agg y4.cs.toArray))) <| hy (fun _ => y_move rfl) <| ?_
        refine hx0 (xh_stA 2 rfl rfl rfl sz46 rfl cs_one rfl ?_)
        refine hy (fun _ => y_assign rfl) <| hend <| hsub (ρ' := [(5, _), (6, _), (30, _), (23, _), (16, _), (4, _), (3, _), (2, _), (0, _), (1, _)]) ⟨rfl, rfl, rfl, rfl, rfl, rfl, rfl, rfl, rfl, rfl, trivial⟩ <| hmemQ (X' := [_, _, _, _]) (S' := [_, _, _, _, _]) (fun _ m => m) <| hthen <| hret <| ?_
        exact hretN1 trivial rfl rfl rfl ag46 sz46 rfl (fun m => (m.blk 0 rfl).cells0) [] rfl [0] rfl ⟨y4, rfl, rfl, rfl, hv⟩
      · have hS : x.d.saveS nNew nSup s.bytes = (y2.d, y2.d.renameE nNew nSup) := by
          rw [hd2, hd1, RD.saveS, if_neg (by rw [h1]; decide), if_neg (by rw [← hd1, h2]; decide), if_pos (by rw [← hd1, ← hd2]; exact h3)]
        have hv : y3.d = y2.d := by rw [hd3, RD.rename, if_neg h3]
        rw [hS]
        refine hcskip <| hthen <| hseq <| hreg <| hy (fun m => yV (y_ldN rfl ag46 sz46 rfl ((m.blk 0 rfl).cells0)) ((rfl : _ = Value.agg y3.cs.toArray))) <| hy (fun _ => y_move rfl) <| ?_
        refine hx0 (xh_stA 2 rfl rfl rfl sz46 rfl cs_one rfl ?_)
        refine hy (fun _ => y_assign rfl) <| hend <| hsub (ρ' := [(5, _), (30, _), (6, _), (23, _), (16, _), (4, _), (3, _), (2, _), (0, _), (1, _)]) ⟨rfl, rfl, rfl, rfl, rfl, rfl, rfl, rfl, rfl, rfl, trivial⟩ <| hmemQ (X' := [_, _, _, _]) (S' := [_, _, _, _]) (fun _ m => m) <| hthen <| hret <| ?_
        exact hretN1 trivial rfl rfl rfl ag46 sz46 rfl (fun m => (m.blk 0 rfl).cells0) [] rfl [0] rfl ⟨y3, rfl, rfl, rfl, hv⟩
    · have hS : x.d.saveS nNew nSup s.bytes = (y.d, y.d.syncE) := by
        rw [hd1, RD.saveS, if_neg (by rw [h1]; decide), if_pos (by rw [← hd1]; exact h2)]
      have hv : y2.d = y.d := by
        rw [hd2, RD.sync, if_pos]
        unfold RD.syncE at h2
        split at h2
        · assumption
        · exact absurd rfl h2
      rw [hS]
      refine hcskip <| hthen <| hseq <| hseq <| hreg <| hy (fun _ => y_move rfl) <| hy (fun _ => y_eql rfl rfl) <| hend <| hsub (ρ' := [(30, _), (23, _), (6, _), (16, _), (5, _), (4, _), (3, _), (2, _), (0, _), (1, _)]) ⟨rfl, rfl, rfl, rfl, rfl, rfl, rfl, rfl, rfl, rfl, trivial⟩ <| hthen <| ?_
      refine hiff rfl (decide_eq_false h2) ?_
      refine hcskip <| hthen <| hseq <| hreg <| hy (fun m => yV (y_ldN rfl ag46 sz46 rfl ((m.blk 0 rfl).cells0)) ((rfl : _ = Value.agg y2.cs.toArray))) <| hy (fun _ => y_move rfl) <| ?_
      refine hx0 (xh_stA 2 rfl rfl rfl sz46 rfl cs_one rfl ?_)
      refine hy (fun _ => y_assign rfl) <| hend <| hsub (ρ' := [(5, _), (30, _), (23, _), (6, _), (16, _), (4, _), (3, _), (2, _), (0, _), (1, _)]) ⟨rfl, rfl, rfl, rfl, rfl, rfl, rfl, rfl, rfl, rfl, trivial⟩ <| hmemQ (X' := [_, _, _, _]) (S' := [_, _, _]) (fun _ m => m) <| hthen <| hret <| ?_
      exact hretN1 trivial rfl rfl rfl ag46 sz46 rfl (fun m => (m.blk 0 rfl).cells0) [] rfl [0] rfl ⟨y2, rfl, rfl, rfl, hv⟩
  · have hS : x.d.saveS nNew nSup s.bytes = (x.d, x.d.writeE nNew s.bytes) := by rw [RD.saveS, if_pos h1]
    have hv : y.d = x.d := by rw [hd1, RD.write, if_neg h1]
    rw [hS]
    refine hcskip <| hthen <| hseq <| hseq <| hreg <| hy (fun _ => y_move rfl) <| hy (fun _ => y_eql rfl rfl) <| hend <| hsub (ρ' := [(23, _), (16, _), (6, _), (5, _), (4, _), (3, _), (2, _), (0, _), (1, _)]) ⟨rfl, rfl, rfl, rfl, rfl, rfl, rfl, rfl, rfl, trivial⟩ <| hthen <| ?_
    refine hiff rfl (decide_eq_false h1) ?_
    refine hcskip <| hthen <| hseq <| hseq <| hreg <| hy (fun _ => y_move rfl) <| hy (fun _ => y_eql rfl rfl) <| hend <| hsub (ρ' := [(30, _), (23, _), (16, _), (6, _), (5, _), (4, _), (3, _), (2, _), (0, _), (1, _)]) ⟨rfl, rfl, rfl, rfl, rfl, rfl, rfl, rfl, rfl, rfl, trivial⟩ <| hthen <| ?_
    refine hiff rfl (decide_eq_false h1) ?_
    refine hcskip <| hthen <| hseq <| hreg <| hy (fun m => yV (y_ldN rfl ag46 sz46 rfl ((m.blk 0 rfl).cells0)) ((rfl : _ = Value.agg y.cs.toArray))) <| hy (fun _ => y_move rfl) <| ?_
    refine hx0 (xh_stA 2 rfl rfl rfl sz46 rfl cs_one rfl ?_)
    refine hy (fun _ => y_assign rfl) <| hend <| hsub (ρ' := [(5, _), (30, _), (23, _), (16, _), (6, _), (4, _), (3, _), (2, _), (0, _), (1, _)]) ⟨rfl, rfl, rfl, rfl, rfl, rfl, rfl, rfl, rfl, rfl, trivial⟩ <| hmemQ (X' := [_, _, _, _]) (S' := [_, _]) (fun _ m => m) <| hthen <| hret <| ?_
    exact hretN1 trivial rfl rfl rfl ag46 sz46 rfl (fun m => (m.blk 0 rfl).cells0) [] rfl [0] rfl ⟨y, rfl, rfl, rfl, hv⟩
end Go.Proofs.YtfikjheicjamhaaGreatDoor
end
section
/- Contracts: the program's digest of bytes (layer 2): its state. -/
set_option linter.unusedVariables false
set_option linter.unusedSimpArgs false
set_option maxRecDepth 20000
namespace Go.Proofs.YtfikjheicjamhaaGreatDoor
open Go.Eng Go.Hx
structure ShSt where
  h : List UInt32
  n : Nat
  A : Option Addr
  c : Nat
  rest : List UInt8
def stc (h : List UInt32) (n : Nat) (A : Option Addr) (m c : Nat) : List Value := wds h ++ [.int .i64 (n : Int), .slice A m c]
abbrev RSha (g : Nat) (s : ShSt) : Res := RPack [RBlk g 248 (stc s.h s.n s.A s.rest.length s.c), ROwn 5 1 (.slice s.A s.rest.length s.c) s.rest.length (b8s s.rest)]
/-- what a state has gone through -/
structure ShSt.ok (s : ShSt) (all : List UInt8) : Prop where
  len : s.h.length = 8
  n : s.n = all.length
  mid : ∃ d, d ++ s.rest = all ∧ d.length % 64 = 0 ∧ s.h = foldB h0L d
theorem stc_len {h : List UInt32} {n : Nat} {A : Option Addr} {m c : Nat} (hh : h.length = 8) : (stc h n A m c).length = 10 := by simp [stc, wds, hh]
theorem stc_8 {h : List UInt32} {n : Nat} {A : Option Addr} {m c : Nat} (hh : h.length = 8) : (stc h n A m c)[8]? = some (.int .i64 (n : Int)) := by
  rw [stc, List.getElem?_append_right (by rw [wds_length]; omega), wds_length, hh]; rfl
theorem stc_9 {h : List UInt32} {n : Nat} {A : Option Addr} {m c : Nat} (hh : h.length = 8) : (stc h n A m c)[9]? = some (.slice A m c) := by
  rw [stc, List.getElem?_append_right (by rw [wds_length]; omega), wds_length, hh]; rfl
theorem stc_h {h : List UInt32} {n : Nat} {A : Option Addr} {m c : Nat} {j : Nat} {u : Value} (hu : (wds h)[j]? = some u) : (stc h n A m c)[j]? = some u := by
  rw [stc, List.getElem?_append_left ((List.getElem?_eq_some_iff.1 hu).1)]; exact hu
theorem stc_set8 {h : List UInt32} {n n' : Nat} {A : Option Addr} {m c : Nat} (hh : h.length = 8) : (stc h n A m c).set 8 (.int .i64 (n' : Int)) = stc h n' A m c := by
  rw [stc, List.set_append_right _ _ (by rw [wds_length]; omega), wds_length, hh]; rfl
theorem stc_set9 {h : List UInt32} {n : Nat} {A A' : Option Addr} {m c m' c' : Nat} (hh : h.length = 8) : (stc h n A m c).set 9 (.slice A' m' c') = stc h n A' m' c' := by
  rw [stc, List.set_append_right _ _ (by rw [wds_length]; omega), wds_length, hh]; rfl
theorem stc_spl {h h' : List UInt32} {n : Nat} {A : Option Addr} {m c : Nat} (hh : h.length = 8) (hh' : h'.length = 8) : splice (stc h n A m c) 0 (wds h') = stc h' n A m c := by
  rw [splice, List.take_zero, List.nil_append, Nat.zero_add, wds_length, hh', stc, List.drop_append_of_le_length (by rw [wds_length]; omega), List.drop_of_length_le (by rw [wds_length]; omega)]; rfl
theorem newSC  : Con Tryz.prog 137 [] [] [] (fun v_ X_ S_ => ∃ g, v_ = (.pointer (some ⟨g, 0, none⟩)) ∧ X_ = [RSha g ⟨h0L, 0, none, 0, []⟩] ∧ S_ = []) := by
  refine henter (N := 4) Tryz.func137 rfl rfl (by simp) fun b => ?_
  refine hseq <| hreg <| hy (fun _ => y_assign rfl) <| hend <| hthen <| hseq <| hreg <| hy (fun _ => yV (y_buildA (n := 8) ti246 (by kernel_rfl) rfl (by kernel_rfl) rfl (by kernel_rfl) (by kernel_rfl) (wds_cells (l := [1779033703, 3144134277, 1013904242, 2773480762, 1359893119, 2600822924, 528734635, 1541459225]))) ((rfl : _ = Value.agg (wds h0L).toArray))) <| hy (fun _ => yV (y_build ti248 rfl rfl (by kernel_rfl) (.cons (o := 0) (sz := 8) (by kernel_rfl) rfl rfl (Nat.le_of_ble_eq_true rfl) .nil)) ((rfl : _ = Value.agg (stc h0L 0 none 0 0).toArray))) <| ?_
  refine hx (xh_box rfl (fun g3 => ?_))
  refine hy (fun _ => y_assign rfl) <| hend <| hsub (ρ' := [(0, _)]) ⟨rfl, trivial⟩ <| hmemQ (X' := [_]) (S' := []) (fun _ m => m) <| hthen <| hret <| ?_
  refine hmemQ (fun w m => m.eqX 0 rfl (show _ = RBlk g3 248 (stc h0L 0 none 0 0) from congrArg (RBlk _ _) (cells_agg _))) ?_
  refine hmemQ (fun w m => m.addX (r' := ROwn 5 1 (.slice none 0 0) 0 []) (.refl _ _) (Own.nil _ _ _ _) (fun k hk => hk.elim)) ?_
  refine hmemQ (X' := RSha g3 ⟨h0L, 0, none, 0, []⟩ :: _) (fun w m => (m.perm (takeR_perm [1, 0] _ [_, _] _ rfl)).pack) ?_
  exact hret1 trivial rfl rfl [0] rfl [] rfl ⟨_, rfl, rfl, rfl⟩
theorem ok_new : ShSt.ok ⟨h0L, 0, none, 0, []⟩ [] := ⟨rfl, rfl, [], rfl, rfl, rfl⟩
theorem writeSC {g : Nat} {s : ShSt} {B : Option Addr} {mb mc : Nat} {l : List UInt8} (hh : s.h.length = 8) (hn : s.n + mb ≤ 1000000000000000) (hr : s.rest.length + mb ≤ 140737488355328) : Con Tryz.prog 138 [.pointer (some ⟨g, 0, none⟩), .slice B mb mc] [RSha g s] [RRd 1 B mb (b8s l), RRoots] (fun v_ X_ S_ => ∃ s1, v_ = (.tuple #[]) ∧ X_ = [RSha g s1] ∧ S_ = [] ∧ (s1.rest.length < 64 ∧ ∀ all, s.ok all → s1.ok (all ++ l))) := by
  refine henter (N := 49) Tryz.func138 rfl rfl (by simp) fun b => ?_
  refine hfactC (fun m => rdB (m.rd 0 rfl)) ?_
  rintro ⟨hl_r, hA_r⟩
  have hlm : l.length = mb := hl_r
  have hl0 := stc_len (n := s.n) (A := s.A) (m := s.rest.length) (c := s.c) hh
  refine hmemC (fun w m => (m.perm (takeR_perm [0] _ [_] _ rfl)).unpack) ?_
  refine hseq <| hreg <| hy (fun _ => y_move rfl) <| hy (fun _ => y_nilp rfl) <| hy (fun _ => y_fld rfl fa248_1 (by decide)) <| hy (fun m => y_ld1 rfl ag3 ((m.blk 0 rfl).cells0 8 _ (stc_8 hh))) <| hy (fun _ => y_move rfl) <| hy (fun _ => y_lenS rfl Tryz.underlying27) <| hy (fun _ => y_add rfl rfl (w64 (by omega) (by omega))) <| hy (fun _ => y_nilp rfl) <| hy (fun _ => y_fld rfl fa248_1 (by decide)) <| ?_
  refine hx0 (xh_st1a 0 rfl rfl rfl sz3 rfl (by rw [hl0]; decide) ?_)
  refine hend <| hsub (ρ' := [(0, _), (1, _)]) ⟨rfl, rfl, trivial⟩ <| hmemQ (X' := [_, _]) (S' := [_, _]) (fun _ m => m) <| hthen <| hseq <| hreg <| ?_
  refine hmemL (fun w m => m.eqX 0 rfl (show _ = RBlk g 248 (stc s.h (s.n + mb) s.A s.rest.length s.c) from by rw [Nat.zero_add, ← Int.natCast_add, stc_set8 hh])) ?_
  refine hy (fun _ => y_move rfl) <| hy (fun _ => y_move rfl) <| hy (fun _ => y_nilp rfl) <| hy (fun _ => y_fld rfl fa248_2 (by decide)) <| hy (fun m => y_ld1 rfl ag27 ((m.blk 0 rfl).cells0 9 _ (stc_9 hh))) <| hy (fun _ => y_move rfl) <| ?_
  refine hx (xh_app 1 rfl rfl rfl Tryz.underlying27 Tryz.underlying27 (by exact .inl rfl) ti5 rfl (fun m => Src.of_rd (m.rd 0 rfl)) b8s_one (by unfold maxLen; omega) (by omega) (fun u => ?_))
  refine hfactL (fun m => (m.own 0 rfl).slice) ?_
  rintro ⟨A_d1, c_d1, rfl, hc_d1⟩
  refine hfactL (fun m => (m.ord 0 rfl).2.1) fun hA_d1 => ?_
  refine hmemL (fun w m => m.eqX 0 rfl (show _ = ROwn 5 1 (.slice A_d1 (s.rest ++ l).length c_d1) (s.rest ++ l).length (b8s (s.rest ++ l)) from by rw [List.length_append, hlm]; simp [b8s])) ?_
  have hls := stc_len (n := s.n + mb) (A := s.A) (m := s.rest.length) (c := s.c) hh
  refine hy (fun _ => y_nilp rfl) <| hy (fun _ => y_fld rfl fa248_2 (by decide)) <| ?_
  refine hx0 (xh_st1a 1 rfl rfl rfl sz27 rfl (by rw [hls]; decide) ?_)
  refine hend <| hsub (ρ' := [(0, _), (1, _)]) ⟨rfl, rfl, trivial⟩ <| hmemQ (X' := [_, _]) (S' := [_, _]) (fun _ m => m) <| hthen <| hblock <| ?_
  refine hmemC (fun w m => m.eqX 0 rfl (show _ = RBlk g 248 (stc s.h (s.n + mb) A_d1 (s.rest ++ l).length c_d1) from by rw [Nat.zero_add, stc_set9 hh, List.length_append, hlm])) ?_
  have hlen : (s.rest ++ l).length = s.rest.length + mb := by rw [List.length_append, hlm]
  refine hloop5 (fun h A1 c1 q dn => q.length) (fun h A1 c1 q dn => []) (fun h A1 c1 q dn => [RBlk g 248 (stc h (s.n + mb) A1 q.length c1), ROwn 5 1 (.slice A1 q.length c1) q.length (b8s q)]) (fun h A1 c1 q dn => []) (fun h A1 c1 q dn => h.length = 8 ∧ q.length ≤ c1 ∧ dn ++ q = s.rest ++ l ∧ dn.length % 64 = 0 ∧ ∀ D, D.length % 64 = 0 → s.h = foldB h0L D → h = foldB h0L (D ++ dn)) s.h A_d1 c_d1 (s.rest ++ l) [] [(0, _), (1, _)] ⟨rfl, rfl, trivial⟩ [0, 0] rfl [] rfl (⟨hh, (by omega), rfl, rfl, fun D _ e => by rw [List.append_nil]; exact e⟩) trivial (fun h A1 c1 q dn ⟨h8, hqc, hdq, hd64, hD⟩ => ?_)
  have hls := stc_len (n := s.n + mb) (A := A1) (m := q.length) (c := c1) h8
  refine hseq <| hseq <| hreg <| hy (fun _ => y_move rfl) <| hy (fun _ => y_nilp rfl) <| hy (fun _ => y_fld rfl fa248_2 (by decide)) <| hy (fun m => y_ld1 rfl ag27 ((m.blk 0 rfl).cells0 9 _ (stc_9 h8))) <| hy (fun _ => y_lenS rfl Tryz.underlying27) <| hy (fun _ => y_geq rfl rfl) <| hend <| hsub (ρ' := [(27, _), (0, _), (1, _)]) ⟨rfl, rfl, rfl, trivial⟩ <| hthen <| ?_
  refine hif rfl (fun hge => ?_) (fun hge => ?_)
  · have hq64 : 64 ≤ q.length := by omega
    refine hcskip <| hthen <| hblock <| hseq <| hdrw [10, 13] [(0, some 1), (1, some 0), (2, some 0), (3, some 0), (4, some 0), (5, some 1), (6, some 0), (7, some 0), (8, some 0), (9, some 0), (10, none), (11, some 1), (12, some 1), (13, none)] (by kernel_rfl) (by kernel_rfl) rfl 1 <| htyU (y_move rfl) <| htyU (y_move rfl) <| htyU (y_nilp rfl) <| htyU (y_fld rfl fa248_0 (by decide)) <| hty (fun m => yV (y_ldN rfl ag246 sz246 (by rw [wds_length, h8]) (fun j u hu => (m.blk 0 rfl).cells0 j u (stc_h hu))) ((rfl : _ = Value.agg (wds h).toArray))) <| htyU (y_move rfl) <| htyU (y_nilp rfl) <| htyU (y_fld rfl fa248_2 (by decide)) <| hty (fun m => y_ld1 rfl ag27 ((m.blk 0 rfl).cells0 9 _ (stc_9 h8))) <| htyU (y_slTo rfl rfl Tryz.underlying27 sz5 (show ((64 : Nat) : Int) = 64 from rfl) (by omega)) <| ?_
    refine htx (xh_calll rfl Tryz.call185 (mixC (by omega) h8 (l := (q.take 64))) [] rfl (.x 1 rfl (View.own.trans (View.take hq64)) (.s 1 rfl .nil)) ?_)
    rintro _ _ _ ⟨rfl, rfl, rfl⟩
    refine ⟨rfl, ?_⟩
    refine ⟨(fun _ => wk [0, 0] [0, 1] rfl rfl), ?_⟩
    refine htyU (y_nilp rfl) <| htyU (y_fld rfl fa248_0 (by decide)) <| ?_
    have hb8 := blockL_length h8 (q.take 64)
    refine htx0 (xh_stNa 0 rfl rfl rfl sz246 (by rw [wds_length, hb8]) wds_one (by rw [hls]; decide) ⟨(fun h => absurd h (by decide)), ?_⟩)
    refine htmem (fun w m => m.eqX 0 rfl (show _ = RBlk g 248 (stc (blockL h (q.take 64)) (s.n + mb) A1 q.length c1) from by rw [Nat.zero_add, stc_spl h8 hb8])) ?_
    have hls2 := stc_len (n := s.n + mb) (A := A1) (m := q.length) (c := c1) hb8
    refine htmem (X' := ROwn 5 1 (.slice (if c1 = 64 then A1 else A1.map (·.add (64 * 1))) (q.length - 64) (c1 - 64)) (q.length - 64) ((b8s q).drop (64 * 1)) :: _) (fun w m => (m.perm (takeR_perm [1] _ [_] _ rfl)).viewX (View.ownDrop hq64 hqc)) ?_
    refine htend <| hsub (ρ' := [(27, _), (0, _), (1, _)]) ⟨rfl, rfl, rfl, trivial⟩ <| hmemQ (X' := [_, _]) (S' := [_, _]) (fun _ m => m) <| hthen <| hreg <| hy (fun _ => y_move rfl) <| hy (fun _ => y_move rfl) <| hy (fun _ => y_nilp rfl) <| hy (fun _ => y_fld rfl fa248_2 (by decide)) <| hy (fun m => y_ld1 rfl ag27 ((m.blk 1 rfl).cells0 9 _ (stc_9 hb8))) <| hy (fun _ => y_slFrom rfl rfl Tryz.underlying27 sz5 (show ((64 : Nat) : Int) = 64 from rfl) (by omega)) <| hy (fun _ => y_nilp rfl) <| hy (fun _ => y_fld rfl fa248_2 (by decide)) <| ?_
    refine hx0 (xh_st1a 1 rfl rfl rfl sz27 rfl (by rw [hls2]; decide) ?_)
    refine hend <| hsub (ρ' := [(27, _), (0, _), (1, _)]) ⟨rfl, rfl, rfl, trivial⟩ <| hmemQ (X' := [_, _]) (S' := [_, _]) (fun _ m => m) <| hqblock <| ?_
    have hqd : (q.drop 64).length = q.length - 64 := List.length_drop
    have e9 : (b8s q).drop (64 * 1) = b8s (q.drop 64) := by simp [b8s, List.map_drop]
    generalize hA2 : (if c1 = 64 then A1 else A1.map (·.add (64 * 1))) = A2
    refine hmemQ (fun w m => m.eqX 0 rfl (show _ = RBlk g 248 (stc (blockL h (q.take 64)) (s.n + mb) A2 (q.drop 64).length (c1 - 64)) from by rw [Nat.zero_add, stc_set9 hb8, hqd])) ?_
    refine hmemQ (fun w m => m.eqX 1 rfl (show _ = ROwn 5 1 (.slice A2 (q.drop 64).length (c1 - 64)) (q.drop 64).length (b8s (q.drop 64)) from by rw [hqd, e9])) ?_
    refine hnext5 (blockL h (q.take 64)) A2 (c1 - 64) (q.drop 64) (dn ++ q.take 64) ⟨rfl, rfl, trivial⟩ [1, 0] rfl [0, 1] rfl (⟨hb8, by omega, by rw [List.append_assoc, List.take_append_drop]; exact hdq, by rw [List.length_append, List.length_take]; omega, fun D h1 h2 => by rw [← List.append_assoc, foldB_snoc (by rw [List.length_append]; omega) (by rw [List.length_take]; omega), ← hD D h1 h2]⟩) (by omega)
  · refine hexit <| hthen_exit <| hthen_exit <| hqblock_exit <| ?_
    have hok : ∀ all, s.ok all → ShSt.ok ⟨h, s.n + mb, A1, c1, q⟩ (all ++ l) := fun all ok => by
      obtain ⟨D, e1, e2, e3⟩ := ok.mid
      refine ⟨h8, ?_, D ++ dn, ?_, ?_, hD D e2 e3⟩
      · show s.n + mb = _
        rw [List.length_append, ok.n, hlm]
      · show (D ++ dn) ++ q = _
        rw [List.append_assoc, hdq, ← List.append_assoc, e1]
      · rw [List.length_append]; omega
    refine hmemQ (X' := RSha g ⟨h, s.n + mb, A1, c1, q⟩ :: _) (fun w m => (m.perm (takeR_perm [0, 0] _ [_, _] _ rfl)).pack) ?_
    exact hret0 trivial rfl [0] rfl [] rfl ⟨_, rfl, rfl, rfl, ⟨(by show q.length < 64; omega), hok⟩⟩
theorem stc_new {h : List UInt32} {n : Nat} {A : Option Addr} {m c : Nat} (hh : h.length = 8) {z : List Value} (hz : z.length = 10) : splice (splice (splice z 0 (wds h)) 8 [.int .i64 (n : Int)]) 9 [.slice A m c] = stc h n A m c := by
  have hw : (wds h).length = 8 := by rw [wds_length, hh]
  have e1 : splice z 0 (wds h) = wds h ++ z.drop 8 := by simp [splice, hw]
  match hq : z.drop 8, (show (z.drop 8).length = 2 by rw [List.length_drop, hz]) with
  | [x, y], _ =>
    rw [e1, hq]
    have e2 : splice (wds h ++ [x, y]) 8 [.int .i64 (n : Int)] = wds h ++ [.int .i64 (n : Int), y] := by
      rw [splice, List.take_append_of_le_length (by omega), List.take_of_length_le (by omega), List.drop_append, List.drop_of_length_le (by omega)]
      simp [hw]
    rw [e2, splice, List.take_append, List.take_of_length_le (by omega), List.drop_of_length_le (by simp [hw])]
    simp [hw, stc]
theorem bld_st {P : Program} {pl : Nat → Option (Nat × Nat)} {h : List UInt32} (hh : h.length = 8) {zs : List Value} (hz : zs.length = 10) (p0 : pl 0 = some (0, 8)) (p1 : pl 1 = some (8, 1)) (p2 : pl 2 = some (9, 1)) {n : Nat} {A : Option Addr} {m c : Nat} :
    Bld P pl zs [(0, .agg (wds h).toArray), (1, .int .i64 (n : Int)), (2, .slice A m c)] (stc h n A m c) := by
  have hw : (wds h).length = 8 := by rw [wds_length, hh]
  have l1 : (splice zs 0 (wds h)).length = 10 := by rw [splice_length (by omega), hz]
  have l2 : (splice (splice zs 0 (wds h)) 8 [Value.int .i64 (n : Int)]).length = 10 := by rw [splice_length (by rw [l1]; show 8 + 1 ≤ 10; decide), l1]
  refine .cons (vs := wds h) p0 rfl hw (by omega) (.cons (vs := [.int .i64 (n : Int)]) p1 rfl rfl (by omega) (.cons (vs := [.slice A m c]) p2 rfl rfl (by omega) ?_))
  have e := stc_new (n := n) (A := A) (m := m) (c := c) hh hz
  show Bld P pl (splice (splice (splice zs 0 (wds h)) 8 [.int .i64 (n : Int)]) 9 [.slice A m c]) [] _
  rw [e]
  exact .nil
theorem cloneSC {g : Nat} {s : ShSt} (hh : s.h.length = 8) (hr : s.rest.length ≤ 140737488351232) : Con Tryz.prog 186 [.pointer (some ⟨g, 0, none⟩)] [RSha g s] [] (fun v_ X_ S_ => ∃ g2 s2, v_ = (.pointer (some ⟨g2, 0, none⟩)) ∧ X_ = [RSha g s, RSha g2 s2] ∧ S_ = [] ∧ (s2.h = s.h ∧ s2.n = s.n ∧ s2.rest = s.rest)) := by
  refine henter (N := 18) Tryz.func186 rfl rfl (by simp) fun b => ?_
  refine hmemC (fun w m => (m.perm (takeR_perm [0] _ [_] _ rfl)).unpack) ?_
  have hl0 := stc_len (n := s.n) (A := s.A) (m := s.rest.length) (c := s.c) hh
  refine hseq <| hreg <| hy (fun _ => y_assign rfl) <| hend <| hthen <| hseq <| hdrw [12, 14] [(0, some 2), (1, some 1), (2, some 1), (3, some 1), (4, some 2), (5, some 1), (6, some 1), (7, some 1), (8, some 2), (9, some 2), (10, some 0), (11, some 0), (12, none), (13, some 1), (14, none), (15, some 2)] (by kernel_rfl) (by kernel_rfl) rfl 99 <| htyU (y_move rfl) <| htyU (y_nilp rfl) <| htyU (y_fld rfl fa248_0 (by decide)) <| hty (fun m => yV (y_ldN rfl ag246 sz246 (by rw [wds_length, hh]) (fun j u hu => (m.blk 0 rfl).cells0 j u (stc_h hu))) ((rfl : _ = Value.agg (wds s.h).toArray))) <| htyU (y_move rfl) <| htyU (y_nilp rfl) <| htyU (y_fld rfl fa248_1 (by decide)) <| hty (fun m => y_ld1 rfl ag3 ((m.blk 0 rfl).cells0 8 _ (stc_8 hh))) <| htyU (y_move rfl) <| htyU (y_nilp rfl) <| htyU (y_fld rfl fa248_2 (by decide)) <| hty (fun m => y_ld1 rfl ag27 ((m.blk 0 rfl).cells0 9 _ (stc_9 hh))) <| ?_
  refine htx (xh_calll rfl Tryz.call111 (cloneC (by omega)) [] rfl (.x 1 rfl .own .nil) ?_)
  rintro _ _ _ ⟨v, rfl, rfl, rfl⟩
  refine ⟨rfl, ?_⟩
  refine ⟨(fun _ => wk [1, 1] [] rfl rfl), ?_⟩
  refine htfact (fun m => (m.own 0 rfl).slice) ?_
  rintro ⟨A_x, c_x, rfl, hc_x⟩
  refine htfact (fun m => (m.ord 0 rfl).2.1) fun hA_x => ?_
  refine htyU (y_build ti248 rfl rfl (by kernel_rfl) (bld_st hh rfl (by kernel_rfl) (by kernel_rfl) (by kernel_rfl))) <| ?_
  refine htx (xh_box rfl (fun g17 => ⟨(fun _ => wk [2, 2] [] rfl rfl), ?_⟩))
  refine htyU (y_assign rfl) <| htend <| hsub (ρ' := [(2, _), (0, _)]) ⟨rfl, rfl, trivial⟩ <| hmemQ (X' := [_, _, _, _]) (S' := []) (fun _ m => m) <| hthen <| hret <| ?_
  refine hmemQ (fun w m => m.eqX 0 rfl (show _ = RBlk g17 248 (stc s.h s.n A_x s.rest.length c_x) from congrArg (RBlk _ _) (cells_agg _))) ?_
  refine hmemQ (X' := RSha g s :: _) (fun w m => (m.perm (takeR_perm [2, 2] _ [_, _] _ rfl)).pack) ?_
  refine hmemQ (X' := RSha g17 ⟨s.h, s.n, A_x, c_x, s.rest⟩ :: _) (fun w m => (m.perm (takeR_perm [1, 1] _ [_, _] _ rfl)).pack) ?_
  exact hret1 trivial rfl rfl [1, 0] rfl [] rfl ⟨_, _, rfl, rfl, rfl, ⟨rfl, rfl, rfl⟩⟩
end Go.Proofs.YtfikjheicjamhaaGreatDoor
end
