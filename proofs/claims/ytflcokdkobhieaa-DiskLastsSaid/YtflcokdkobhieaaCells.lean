/- Values that came in, with all that is read through them: cells. No statement is proved here. -/
import Derived.Test.YtflcokdkobhieaaMem3
import Derived.Test.YtflcokdkobhieaaRowKit
import Derived.ChangeSame
set_option linter.unusedVariables false
set_option linter.unusedSimpArgs false
namespace Go.Eng
open Go.RowKit Go.ChangeShapes Go.WideShapes
inductive Cell
  | v (x : Value)
  | s (sz : Nat) (A : Option Addr) (n c : Nat) (xs : List Cell)
def Cell.val : Cell → Value
  | .v x => x
  | .s _ A n c _ => .slice A n c
mutual
def Cell.foot : Cell → Nat → Prop
  | .v _ => fun _ => False
  | .s _ A _ _ xs => fun k => (xs ≠ [] ∧ ∃ a, A = some a ∧ k = a.block) ∨ feetC xs k
def feetC : List Cell → Nat → Prop
  | [] => fun _ => False
  | x :: r => fun k => x.foot k ∨ feetC r k
end
mutual
def Cell.holds (w : World) : Cell → Prop
  | .v _ => True
  | .s sz A n c xs => Rd w sz A n (xs.map Cell.val) ∧ n ≤ c ∧ holdC w xs
def holdC (w : World) : List Cell → Prop
  | [] => True
  | x :: r => x.holds w ∧ holdC w r
end
theorem feetC_iff {k : Nat} : ∀ {xs : List Cell}, feetC xs k ↔ ∃ x ∈ xs, x.foot k
  | [] => by simp [feetC]
  | x :: r => by simp only [feetC, feetC_iff (xs := r), List.mem_cons, exists_eq_or_imp]
theorem holdC_iff {w : World} : ∀ {xs : List Cell}, holdC w xs ↔ ∀ x ∈ xs, x.holds w
  | [] => by simp [holdC]
  | x :: r => by simp only [holdC, holdC_iff (xs := r), List.mem_cons, forall_eq_or_imp]
mutual
theorem Cell.keep {S : Nat → Prop} {w w' : World} (f : Fr S w w') : ∀ (c : Cell), (∀ k, c.foot k → ¬ S k) → c.holds w → c.holds w'
  | .v _, _, _ => trivial
  | .s sz A n c xs, h, hh => by
    obtain ⟨h1, h2, h3⟩ := hh
    refine ⟨Rd.keep h1 f (fun k hk => h k ?_), h2, keepC f xs (fun k hk => h k (.inr hk)) h3⟩
    obtain ⟨hne, a, ha, hk⟩ := hk
    exact .inl ⟨fun e => hne (by rw [e]; rfl), a, ha, hk⟩
theorem keepC {S : Nat → Prop} {w w' : World} (f : Fr S w w') : ∀ (xs : List Cell), (∀ k, feetC xs k → ¬ S k) → holdC w xs → holdC w' xs
  | [], _, _ => trivial
  | x :: r, h, hh => ⟨Cell.keep f x (fun k hk => h k (.inl hk)) hh.1, keepC f r (fun k hk => h k (.inr hk)) hh.2⟩
end
mutual
theorem Cell.low {w : World} : ∀ (c : Cell) {k : Nat}, c.holds w → c.foot k → k < w.heap.size
  | .v _, _, _, h => h.elim
  | .s sz A n c xs, k, hh, hk => by
    obtain ⟨h1, h2, h3⟩ := hh
    rcases hk with ⟨hne, a, ha, hk⟩ | hk
    · exact (RRd sz A n (xs.map Cell.val)).low h1 ⟨fun e => hne (List.map_eq_nil_iff.1 e), a, ha, hk⟩
    · exact lowC xs h3 hk
theorem lowC {w : World} : ∀ (xs : List Cell) {k : Nat}, holdC w xs → feetC xs k → k < w.heap.size
  | [], _, _, h => h.elim
  | x :: r, k, hh, hk => by
    rcases hk with hk | hk
    · exact Cell.low x hh.1 hk
    · exact lowC r hh.2 hk
end
def RCell (c : Cell) : Res := ⟨c.foot, fun w => c.holds w, fun f h x => c.keep f h x, fun x hk => c.low x hk⟩
/-- the row itself -/
theorem View.row0 {sz n c : Nat} {A : Option Addr} {xs : List Cell} : View (RCell (.s sz A n c xs)) (RRd sz A n (xs.map Cell.val)) :=
  .of (fun w h => h.1) (fun k hk => by
    obtain ⟨hne, a, ha, hk⟩ := hk
    exact .inl ⟨fun e => hne (by rw [e]; rfl), a, ha, hk⟩)
/-- what is read through one of its cells -/
theorem View.cell {sz n c j : Nat} {A : Option Addr} {xs : List Cell} {y : Cell} (h : xs[j]? = some y) : View (RCell (.s sz A n c xs)) (RCell y) :=
  .of (fun w hh => holdC_iff.1 hh.2.2 y (List.mem_of_getElem? h)) (fun k hk => .inr (feetC_iff.2 ⟨y, List.mem_of_getElem? h, hk⟩))
/-- what types say of cells -/
inductive Ty (P : Program) : TypeId → List Cell → Prop
  | int {t : TypeId} {k : IntKind} {z : Int} (ht : P.underlying t = some (.int k)) (hw : (Lit.int k z).wf = true) : Ty P t [.v (.int k z)]
  | bool {t : TypeId} {b : Bool} (ht : P.underlying t = some .bool) : Ty P t [.v (.bool b)]
  | str {t : TypeId} {s : List UInt8} (ht : P.underlying t = some .string) (hs : s.length ≤ 140737488351232) : Ty P t [.v (.string (strOf s))]
  | slice {t e : TypeId} {A : Option Addr} {n c : Nat} {xs : List Cell} (ht : P.underlying t = some (.slice e)) (hc : n ≤ c) (hn : n * P.bytesOf e ≤ 140737488351232) (hl : xs.length = n * P.cellsOf e)
      (h : ∀ i, i < n → Ty P e ((xs.drop (i * P.cellsOf e)).take (P.cellsOf e))) : Ty P t [.s (P.cellsOf e) A n c xs]
  | arr {t e : TypeId} {n : Nat} {xs : List Cell} (ht : P.underlying t = some (.array n e)) (hl : xs.length = P.cellsOf t) (h : ∀ i, i < n → Ty P e ((xs.drop (i * P.cellsOf e)).take (P.cellsOf e))) : Ty P t xs
  | struct {t : TypeId} {fs : Array Field} {xs : List Cell} (ht : P.underlying t = some (.struct fs)) (hl : xs.length = P.cellsOf t) (h : ∀ (i : Nat) (f : Field), fs[i]? = some f → Ty P f.type ((xs.drop f.offset).take (P.cellsOf f.type))) : Ty P t xs
/-- fields one behind the other -/
def contig (P : Program) : List Field → Nat → Nat → Bool
  | [], o, e => o == e
  | f :: r, o, e => f.offset == o && contig P r (o + P.cellsOf f.type) e
/-- types of whole numbers, bools, texts, slices, arrays, structs, all the way down -/
def parts (P : Program) : Nat → TypeId → Bool
  | 0, _ => false
  | n + 1, t => match P.underlying t with
    | some (.int _) | some .bool | some .string => true
    | some (.slice e) => parts P n e && decide (0 < P.cellsOf e)
    | some (.array m e) => parts P n e && (P.cellsOf t == m * P.cellsOf e)
    | some (.struct fs) => fs.toList.all (fun f => parts P n f.type) && contig P fs.toList 0 (P.cellsOf t)
    | _ => false
section
variable {H : Type} {enc : TypeId × Value → H} {P : Program} {w : World} {base : Nat} {spare : Nat → Bool} {held : Bool}
theorem cells_at' {b : Nat} {a : Addr} {n : Nat} {cs : List Value} (h : w.cells? b a n = some cs) : cs.length = n ∧ ∀ j u, cs[j]? = some u → w.cell? (a.add j) = some u := by
  obtain ⟨hb, hl, hcell⟩ := World.cells?_some h
  refine ⟨hl, fun j u hu => ?_⟩
  have hj : j < n := by rw [← hl]; exact (List.getElem?_eq_some_iff.1 hu).1
  rw [hcell j hj, hu]
theorem weightsAll_mem {e : TypeId} {d : DataW H} {n : Nat} : ∀ {ds : List (DataW H)}, d ∈ ds → n ∈ d.weights P e → n ∈ DataW.weightsAll P e ds
  | [], h, _ => by cases h
  | a :: r, h, hn => by
    simp only [DataW.weightsAll, List.mem_append]
    rcases List.mem_cons.1 h with rfl | h
    · exact .inl hn
    · exact .inr (weightsAll_mem h hn)
/-- pieces one behind the other -/
theorem pieces {sz : Nat} {Q : List Cell → Prop} {R : Nat → List Value → Prop} : ∀ (m : Nat), (∀ i, i < m → ∃ ys : List Cell, ys.length = sz ∧ Q ys ∧ R i (ys.map Cell.val) ∧ holdC w ys) →
    ∃ xs : List Cell, xs.length = m * sz ∧ (∀ i, i < m → Q ((xs.drop (i * sz)).take sz) ∧ R i (((xs.drop (i * sz)).take sz).map Cell.val)) ∧ holdC w xs
  | 0, _ => ⟨[], by simp, fun i hi => absurd hi (by omega), trivial⟩
  | m + 1, h => by
    obtain ⟨xs, h1, h2, h3⟩ := pieces m (fun i hi => h i (by omega))
    obtain ⟨ys, h4, h5, h6, h7⟩ := h m (by omega)
    have hlen : (m + 1) * sz = m * sz + sz := by rw [Nat.add_mul, Nat.one_mul]
    refine ⟨xs ++ ys, by rw [List.length_append, h1, h4, hlen], fun i hi => ?_, holdC_iff.2 fun x hx => ?_⟩
    · by_cases hm : i = m
      · subst hm
        have e : ((xs ++ ys).drop (i * sz)).take sz = ys := by
          rw [← h1, List.drop_left, List.take_of_length_le (by omega)]
        rw [e]
        exact ⟨h5, h6⟩
      · have hi' : i < m := by omega
        have hle : i * sz + sz ≤ m * sz := by
          have := Nat.mul_le_mul_right sz (show i + 1 ≤ m by omega)
          rwa [Nat.add_mul, Nat.one_mul] at this
        have e : ((xs ++ ys).drop (i * sz)).take sz = (xs.drop (i * sz)).take sz := by
          rw [List.drop_append_of_le_length (by omega), List.take_append_of_le_length (by rw [List.length_drop]; omega)]
        rw [e]
        exact h2 i hi'
    · rcases List.mem_append.1 hx with hx | hx
      · exact holdC_iff.1 h3 x hx
      · exact holdC_iff.1 h7 x hx
theorem get_piece {xs : List Value} {sz i j : Nat} (hj : j < sz) : ((xs.drop (i * sz)).take sz)[j]? = xs[i * sz + j]? := by
  rw [List.getElem?_take, if_pos hj, List.getElem?_drop]
theorem structPieces {cs : List Value} : ∀ (fs : List Field) (o e : Nat), contig P fs o e = true → (∀ f ∈ fs, ∃ ys : List Cell, ys.length = P.cellsOf f.type ∧ Ty P f.type ys ∧ ys.map Cell.val = (cs.drop f.offset).take (P.cellsOf f.type) ∧ holdC w ys) →
    o ≤ e ∧ ∃ xs : List Cell, xs.length = e - o ∧ xs.map Cell.val = (cs.drop o).take (e - o) ∧ holdC w xs ∧ ∀ f ∈ fs, o ≤ f.offset ∧ Ty P f.type ((xs.drop (f.offset - o)).take (P.cellsOf f.type))
  | [], o, e, hc, _ => by
    have : o = e := by simpa [contig] using hc
    subst this
    exact ⟨Nat.le_refl _, [], by simp, by simp, trivial, by simp⟩
  | f :: r, o, e, hc, h => by
    simp only [contig, Bool.and_eq_true, beq_iff_eq] at hc
    obtain ⟨h0, hc⟩ := hc
    obtain ⟨hle, xs, h1, h2, h3, h4⟩ := structPieces r _ e hc (fun g hg => h g (List.mem_cons_of_mem _ hg))
    obtain ⟨ys, h5, h6, h7, h8⟩ := h f (List.mem_cons_self ..)
    rw [h0] at h7
    refine ⟨by omega, ys ++ xs, by rw [List.length_append, h1, h5]; omega, ?_, holdC_iff.2 fun x hx => ?_, fun g hg => ?_⟩
    · rw [List.map_append, h7, h2, ← List.drop_drop, show e - o = P.cellsOf f.type + (e - (o + P.cellsOf f.type)) by omega, List.take_add]
    · rcases List.mem_append.1 hx with hx | hx
      · exact holdC_iff.1 h8 x hx
      · exact holdC_iff.1 h3 x hx
    · rcases List.mem_cons.1 hg with rfl | hg
      · refine ⟨by omega, ?_⟩
        rw [h0, Nat.sub_self, List.drop_zero, ← h5, List.take_left]
        exact h6
      · obtain ⟨h9, h10⟩ := h4 g hg
        refine ⟨by omega, ?_⟩
        have e1 : (ys ++ xs).drop (g.offset - o) = xs.drop (g.offset - (o + P.cellsOf f.type)) := by
          rw [List.drop_append, List.drop_of_length_le (by omega), List.nil_append]
          congr 1
          omega
        rw [e1]
        exact h10
theorem open_cells : ∀ (k fuel : Nat) (t : TypeId) (cs : List Value) (x : DataW H × List MemPlace), parts P k t = true → DataW.trod enc P w 0 spare held fuel t cs = some x → (∀ q ∈ DataW.weights P t x.1, q ≤ 140737488351232) → ∃ xs : List Cell, xs.map Cell.val = cs ∧ holdC w xs ∧ Ty P t xs
  | 0, fuel, t, cs, x, hp, _, _ => by simp [parts] at hp
  | k + 1, fuel, t, cs, x, hp, h, hw => by
    unfold parts at hp
    split at hp
    · rename_i q ht
      obtain ⟨z, rfl, _, hz⟩ := DataW.trod_int ht h
      exact ⟨[.v (.int q z)], rfl, ⟨trivial, trivial⟩, .int ht hz⟩
    · rename_i ht
      obtain ⟨b, rfl, _⟩ := DataW.trod_bool ht h
      exact ⟨[.v (.bool b)], rfl, ⟨trivial, trivial⟩, .bool ht⟩
    · rename_i ht
      obtain ⟨s, rfl, hx, _⟩ := DataW.trod_string ht h
      have h1 := hw s.data.toList.length (by rw [hx]; simp [DataW.weights])
      exact ⟨[.v (.string s)], rfl, ⟨trivial, trivial⟩, .str (s := bytesOf s) ht h1⟩
    · rename_i e ht
      simp only [Bool.and_eq_true, decide_eq_true_eq] at hp
      rcases DataW.trod_slice ht h with ⟨rfl, rfl⟩ | ⟨a, len, cap, elems, rest, m, _, rfl, hx, hb, hl, hm, hlen, hel, _, _⟩
      · exact ⟨[.s (P.cellsOf e) none 0 0 []], rfl, ⟨⟨Rd.nil _ _ _, Nat.le_refl _, trivial⟩, trivial⟩, .slice ht (Nat.le_refl _) (by simp) (by simp) (fun i hi => absurd hi (by omega))⟩
      · have hwe : ∀ d ∈ elems.map (·.1), ∀ q ∈ DataW.weights P e d, q ≤ 140737488351232 := fun d hd q hq => hw q (by
          rw [hx]
          simp only [DataW.weights, ht, List.mem_cons, List.mem_append]
          exact .inr (.inl (weightsAll_mem hd hq)))
        obtain ⟨xs, h1, h2, h3⟩ := pieces (w := w) (sz := P.cellsOf e) (Q := Ty P e) (R := fun i vs => ∀ j u, vs[j]? = some u → w.cell? (a.add (i * P.cellsOf e + j)) = some u) len (fun i hi => by
          have h1 := hel i hi
          rw [List.getElem?_eq_getElem (by omega)] at h1
          obtain ⟨c, hc1, hc2⟩ := Option.bind_eq_some_iff.1 h1
          obtain ⟨hcl, hcc⟩ := cells_at' hc1
          obtain ⟨ys, h4, h5, h6⟩ := open_cells k _ e c _ hp.1 hc2 (fun q hq => hwe _ (List.mem_map.2 ⟨_, List.getElem_mem _, rfl⟩) q hq)
          refine ⟨ys, by rw [← hcl, ← h4, List.length_map], h6, fun j u hu => ?_, h5⟩
          rw [h4] at hu
          have := hcc j u hu
          rwa [add_add] at this)
        have hR : Rd w (P.cellsOf e) (some a) len (xs.map Cell.val) := ⟨by rw [List.length_map, h1], fun _ e => (by cases e), fun q u hu => by
          have hq : q < len * P.cellsOf e := by
            have := (List.getElem?_eq_some_iff.1 hu).1
            rwa [List.length_map, h1] at this
          have hd : q / P.cellsOf e < len := (Nat.div_lt_iff_lt_mul hp.2).2 hq
          have hmod := Nat.mod_lt q hp.2
          have hqe : q / P.cellsOf e * P.cellsOf e + q % P.cellsOf e = q := by
            have := Nat.div_add_mod q (P.cellsOf e)
            rw [Nat.mul_comm] at this
            exact this
          have := (h2 _ hd).2 (q % P.cellsOf e) u (by rw [List.map_take, List.map_drop, get_piece hmod, hqe]; exact hu)
          rw [hqe] at this
          simpa using this⟩
        have hn : len * P.bytesOf e ≤ 140737488351232 := by
          have := hw ((elems.length + rest.length) * P.bytesOf e) (by rw [hx]; simp [DataW.weights, ht])
          rw [hlen, Nat.add_mul] at this
          omega
        exact ⟨[.s (P.cellsOf e) (some a) len cap xs], rfl, ⟨⟨hR, hl, h3⟩, trivial⟩, .slice ht hl hn h1 (fun i hi => (h2 i hi).1)⟩
    · rename_i m e ht
      simp only [Bool.and_eq_true, beq_iff_eq] at hp
      obtain ⟨ys, n, _, hx, hlen, hyl, hel⟩ := DataW.trod_array ht h
      have hwe : ∀ d ∈ ys.map (·.1), ∀ q ∈ DataW.weights P e d, q ≤ 140737488351232 := fun d hd q hq => hw q (by
        rw [hx]
        simp only [DataW.weights, ht]
        exact weightsAll_mem hd hq)
      obtain ⟨xs, h1, h2, h3⟩ := pieces (w := w) (sz := P.cellsOf e) (Q := Ty P e) (R := fun i vs => vs = (cs.drop (i * P.cellsOf e)).take (P.cellsOf e)) m (fun i hi => by
        have h1 := hel i hi
        rw [List.getElem?_eq_getElem (by omega)] at h1
        obtain ⟨zs, h4, h5, h6⟩ := open_cells k _ e _ _ hp.1 h1 (fun q hq => hwe _ (List.mem_map.2 ⟨_, List.getElem_mem _, rfl⟩) q hq)
        refine ⟨zs, ?_, h6, h4, h5⟩
        have := congrArg List.length h4
        rw [List.length_map, List.length_take, List.length_drop, hlen, hp.2] at this
        have hle : i * P.cellsOf e + P.cellsOf e ≤ m * P.cellsOf e := by
          have := Nat.mul_le_mul_right (P.cellsOf e) (show i + 1 ≤ m by omega)
          rwa [Nat.add_mul, Nat.one_mul] at this
        omega)
      refine ⟨xs, ?_, h3, .arr ht (by rw [h1, hp.2]) (fun i hi => (h2 i hi).1)⟩
      apply List.ext_getElem?
      intro q
      by_cases hq : q < m * P.cellsOf e
      · have hpos : 0 < P.cellsOf e := by
          rcases Nat.eq_zero_or_pos (P.cellsOf e) with h0 | h0
          · rw [h0, Nat.mul_zero] at hq; omega
          · exact h0
        have hd : q / P.cellsOf e < m := (Nat.div_lt_iff_lt_mul hpos).2 hq
        have hmod := Nat.mod_lt q hpos
        have hqe : q / P.cellsOf e * P.cellsOf e + q % P.cellsOf e = q := by
          have := Nat.div_add_mod q (P.cellsOf e)
          rw [Nat.mul_comm] at this
          exact this
        have h4 := congrArg (fun l : List Value => l[q % P.cellsOf e]?) (h2 _ hd).2
        simp only [List.map_take, List.map_drop] at h4
        rwa [get_piece hmod, get_piece hmod, hqe] at h4
      · rw [List.getElem?_eq_none (by rw [List.length_map, h1]; omega), List.getElem?_eq_none (by rw [hlen, hp.2]; omega)]
    · rename_i fs ht
      simp only [Bool.and_eq_true, List.all_eq_true] at hp
      obtain ⟨ys, n, _, hx, hlen, hyl, hel⟩ := DataW.trod_struct ht h
      have hw2 : ∀ (i : Nat) (f : Field) (d : DataW H), fs[i]? = some f → (ys.map (·.1))[i]? = some d → ∀ q ∈ DataW.weights P f.type d, q ≤ 140737488351232 := fun i f d hf hd q hq => hw q (by
        rw [hx]
        simp only [DataW.weights, ht]
        exact DataW.weights_mem_each (j := i) (t := f.type) (d := d) (by simp [hf]) hd q hq)
      obtain ⟨_, xs, h1, h2, h3, h4⟩ := structPieces (P := P) (w := w) (cs := cs) fs.toList 0 (P.cellsOf t) hp.2 (fun f hf => by
        obtain ⟨i, hi⟩ := List.mem_iff_getElem?.1 hf
        have hi' : fs[i]? = some f := by simpa using hi
        have h1 := hel i f hi'
        have hlt : i < ys.length := by
          rw [hyl]
          exact (Array.getElem?_eq_some_iff.1 hi').1
        rw [List.getElem?_eq_getElem hlt] at h1
        obtain ⟨zs, h5, h6, h7⟩ := open_cells k _ f.type _ _ (hp.1 f hf) h1 (fun q hq => hw2 i f _ hi' (by rw [List.getElem?_map, List.getElem?_eq_getElem hlt]; rfl) q hq)
        have hz : zs.length = P.cellsOf f.type := by
          have hz := congrArg List.length h5
          rw [List.length_map, List.length_take, List.length_drop, hlen] at hz
          have hin : ∀ (l : List Field) (o e : Nat), contig P l o e = true → f ∈ l → f.offset + P.cellsOf f.type ≤ e ∧ o ≤ e := by
            intro l
            induction l with
            | nil => intro o e _ hm; cases hm
            | cons g r ih =>
              intro o e hc hm
              simp only [contig, Bool.and_eq_true, beq_iff_eq] at hc
              have hge : ∀ (l : List Field) (o e : Nat), contig P l o e = true → o ≤ e := by
                intro l
                induction l with
                | nil => intro o e hc; simp [contig] at hc; omega
                | cons g r ih => intro o e hc; simp only [contig, Bool.and_eq_true, beq_iff_eq] at hc; have := ih _ _ hc.2; omega
              rcases List.mem_cons.1 hm with rfl | hm
              · have := hge _ _ _ hc.2
                omega
              · have := ih _ _ hc.2 hm
                omega
          have := hin _ _ _ hp.2 hf
          omega
        exact ⟨zs, hz, h7, h5, h6⟩)
      refine ⟨xs, ?_, h3, .struct ht (by rw [h1]; omega) (fun i f hf => ?_)⟩
      · rw [h2, List.drop_zero, Nat.sub_zero, ← hlen, List.take_length]
      · have := (h4 f (by rw [Array.mem_toList_iff]; exact Array.mem_of_getElem? hf)).2
        rwa [Nat.sub_zero] at this
    · cases hp
end
/-! ### what a type says, read back -/
section
variable {P : Program} {t e : TypeId} {xs : List Cell}
theorem ty_int {k : IntKind} (ht : P.underlying t = some (.int k)) (h : Ty P t xs) : ∃ z, xs = [.v (.int k z)] ∧ (Lit.int k z).wf = true := by
  cases h with
  | int ht' hw => rw [ht] at ht'; cases ht'; exact ⟨_, rfl, hw⟩
  | bool ht' => rw [ht] at ht'; cases ht'
  | str ht' => rw [ht] at ht'; cases ht'
  | slice ht' => rw [ht] at ht'; cases ht'
  | arr ht' => rw [ht] at ht'; cases ht'
  | struct ht' => rw [ht] at ht'; cases ht'
theorem ty_i64 (ht : P.underlying t = some (.int .i64)) (h : Ty P t xs) : ∃ z, xs = [.v (.int .i64 z)] ∧ -9223372036854775808 ≤ z ∧ z ≤ 9223372036854775807 := by
  obtain ⟨z, rfl, hw⟩ := ty_int ht h
  refine ⟨z, rfl, ?_⟩
  simp only [Lit.wf, IntKind.min, IntKind.max, IntKind.signed, IntKind.bits] at hw
  simp at hw
  omega
theorem ty_u8 (ht : P.underlying t = some (.int .u8)) (h : Ty P t xs) : ∃ c : UInt8, xs = [.v (B8 c)] := by
  obtain ⟨z, rfl, hw⟩ := ty_int ht h
  have hb := bounds_u8 hw
  refine ⟨UInt8.ofNat z.toNat, ?_⟩
  rw [B8, UInt8.toNat_ofNat', Nat.mod_eq_of_lt (by omega)]
  congr 3
  omega
theorem ty_bool (ht : P.underlying t = some .bool) (h : Ty P t xs) : ∃ b, xs = [.v (.bool b)] := by
  cases h with
  | int ht' => rw [ht] at ht'; cases ht'
  | bool ht' => exact ⟨_, rfl⟩
  | str ht' => rw [ht] at ht'; cases ht'
  | slice ht' => rw [ht] at ht'; cases ht'
  | arr ht' => rw [ht] at ht'; cases ht'
  | struct ht' => rw [ht] at ht'; cases ht'
theorem ty_str (ht : P.underlying t = some .string) (h : Ty P t xs) : ∃ s, xs = [.v (.string (strOf s))] ∧ s.length ≤ 140737488351232 := by
  cases h with
  | int ht' => rw [ht] at ht'; cases ht'
  | bool ht' => rw [ht] at ht'; cases ht'
  | str ht' hs => exact ⟨_, rfl, hs⟩
  | slice ht' => rw [ht] at ht'; cases ht'
  | arr ht' => rw [ht] at ht'; cases ht'
  | struct ht' => rw [ht] at ht'; cases ht'
theorem ty_slice (ht : P.underlying t = some (.slice e)) (h : Ty P t xs) : ∃ A n c ys, xs = [.s (P.cellsOf e) A n c ys] ∧ n ≤ c ∧ n * P.bytesOf e ≤ 140737488351232 ∧ ys.length = n * P.cellsOf e ∧ ∀ i, i < n → Ty P e ((ys.drop (i * P.cellsOf e)).take (P.cellsOf e)) := by
  cases h with
  | int ht' => rw [ht] at ht'; cases ht'
  | bool ht' => rw [ht] at ht'; cases ht'
  | str ht' => rw [ht] at ht'; cases ht'
  | slice ht' hc hn hl h => rw [ht] at ht'; cases ht'; exact ⟨_, _, _, _, rfl, hc, hn, hl, h⟩
  | arr ht' => rw [ht] at ht'; cases ht'
  | struct ht' => rw [ht] at ht'; cases ht'
theorem ty_arr {n : Nat} (ht : P.underlying t = some (.array n e)) (h : Ty P t xs) : xs.length = P.cellsOf t ∧ ∀ i, i < n → Ty P e ((xs.drop (i * P.cellsOf e)).take (P.cellsOf e)) := by
  cases h with
  | int ht' => rw [ht] at ht'; cases ht'
  | bool ht' => rw [ht] at ht'; cases ht'
  | str ht' => rw [ht] at ht'; cases ht'
  | slice ht' => rw [ht] at ht'; cases ht'
  | arr ht' hl h => rw [ht] at ht'; cases ht'; exact ⟨hl, h⟩
  | struct ht' => rw [ht] at ht'; cases ht'
theorem ty_struct {fs : Array Field} (ht : P.underlying t = some (.struct fs)) (h : Ty P t xs) : xs.length = P.cellsOf t ∧ ∀ (i : Nat) (f : Field), fs[i]? = some f → Ty P f.type ((xs.drop f.offset).take (P.cellsOf f.type)) := by
  cases h with
  | int ht' => rw [ht] at ht'; cases ht'
  | bool ht' => rw [ht] at ht'; cases ht'
  | str ht' => rw [ht] at ht'; cases ht'
  | slice ht' => rw [ht] at ht'; cases ht'
  | arr ht' => rw [ht] at ht'; cases ht'
  | struct ht' hl h => rw [ht] at ht'; cases ht'; exact ⟨hl, h⟩
theorem bytes_cells (he : P.underlying e = some (.int .u8)) (hc : P.cellsOf e = 1) : ∀ {n : Nat} {ys : List Cell}, ys.length = n → (∀ i, i < n → Ty P e ((ys.drop i).take 1)) → ∃ l : List UInt8, ys.map Cell.val = b8s l ∧ l.length = n := by
  intro n ys hl h
  refine ⟨ys.map fun y => match y.val with | .int _ z => UInt8.ofNat z.toNat | _ => 0, ?_, by simpa using hl⟩
  apply List.ext_getElem?
  intro i
  simp only [b8s, List.map_map, List.getElem?_map]
  by_cases hi : i < n
  · obtain ⟨c, hc⟩ := ty_u8 he (h i hi)
    have h2 : ((ys.drop i).take 1)[0]? = some (.v (B8 c)) := by rw [hc]; rfl
    rw [List.getElem?_take, if_pos (by omega), List.getElem?_drop, Nat.add_zero] at h2
    rw [h2]
    simp [Cell.val, B8]
  · rw [List.getElem?_eq_none (by omega)]
    rfl
theorem ty_bytes (ht : P.underlying t = some (.slice e)) (he : P.underlying e = some (.int .u8)) (hc : P.cellsOf e = 1) (hb : P.bytesOf e = 1) (h : Ty P t xs) : ∃ A n c ys l, xs = [.s 1 A n c ys] ∧ n ≤ c ∧ n ≤ 140737488351232 ∧ ys.map Cell.val = b8s l ∧ l.length = n := by
  obtain ⟨A, n, c, ys, rfl, h1, h2, h3, h4⟩ := ty_slice ht h
  rw [hc] at h3 h4 ⊢
  rw [hb] at h2
  obtain ⟨l, h5, h6⟩ := bytes_cells he hc (by omega : ys.length = n) (fun i hi => by have := h4 i hi; rwa [Nat.mul_one] at this)
  exact ⟨A, n, c, ys, l, rfl, h1, by omega, h5, h6⟩
theorem ty_dig {n : Nat} (ht : P.underlying t = some (.array n e)) (he : P.underlying e = some (.int .u8)) (hc : P.cellsOf e = 1) (hct : P.cellsOf t = n) (h : Ty P t xs) : ∃ l : List UInt8, xs.map Cell.val = b8s l ∧ l.length = n := by
  obtain ⟨h1, h2⟩ := ty_arr ht h
  rw [hc] at h2
  exact bytes_cells he hc (by omega) (fun i hi => by have := h2 i hi; rwa [Nat.mul_one] at this)
end
theorem piece_get {α : Type} {xs ys : List α} {sz i o : Nat} {y : α} (h : (xs.drop (i * sz)).take sz = ys) (ho : ys[o]? = some y) : xs[i * sz + o]? = some y := by
  rw [← h, List.getElem?_take] at ho
  split at ho
  · rwa [List.getElem?_drop] at ho
  · cases ho
theorem cell_val {xs : List Cell} {j : Nat} {y : Cell} (h : xs[j]? = some y) : (xs.map Cell.val)[j]? = some y.val := by rw [List.getElem?_map, h]; rfl
theorem rd_fld {w : World} {sz n i o : Nat} {A : Option Addr} {xs : List Value} {u : Value} (h : Rd w sz A n xs) (hu : xs[i * sz + o]? = some u) : w.cell? (((A.getD d0).add (i * sz)).add o) = some u := by
  rw [add_add]
  exact h.cell hu
theorem cellF {w : World} {sz n c : Nat} {A : Option Addr} {xs : List Cell} (h : (RCell (.s sz A n c xs)).holds w) : xs.length = n * sz ∧ (0 < n → A ≠ none) ∧ n ≤ c := ⟨by have := h.1.1; rwa [List.length_map] at this, h.1.2.1, h.2.1⟩
theorem View.rowOf {sz n c : Nat} {A : Option Addr} {xs : List Cell} {vs : List Value} (h : xs.map Cell.val = vs) : View (RCell (.s sz A n c xs)) (RRd sz A n vs) := h ▸ View.row0
theorem View.cellRow {sz n c j sz' n' c' : Nat} {A A' : Option Addr} {xs ys : List Cell} {vs : List Value} (h : xs[j]? = some (.s sz' A' n' c' ys)) (hb : ys.map Cell.val = vs) : View (RCell (.s sz A n c xs)) (RRd sz' A' n' vs) := (View.cell h).trans (View.rowOf hb)
section
variable {H : Type} {enc : TypeId × Value → H} {P : Program} {W : World} {spare : Nat → Bool} {held : Bool} {tss : List TypeId} {dss : List (DataW H)}
/-- a parameter that came in -/
theorem open_param {t : TypeId} {v : Value} {d : DataW H} {ps : List MemPlace} {j : Nat} (k : Nat) (hp : parts P k t = true) (h : DataW.Trod enc P W 0 spare held t v d ps) (hsz : (DataW.weightsEach P tss dss).all (· ≤ reachBytes) = true) (hjt : tss[j]? = some t) (hjd : dss[j]? = some d) :
    ∃ xs : List Cell, xs.map Cell.val = v.cells.toList ∧ holdC W xs ∧ Ty P t xs := by
  obtain ⟨fuel, hf⟩ := h
  refine open_cells k fuel t _ _ hp hf (fun q hq => ?_)
  have := List.all_eq_true.1 hsz q (DataW.weights_mem_each hjt hjd q hq)
  have hr : reachBytes = 140737488351232 := rfl
  simp at this
  omega
theorem open_sl {t e : TypeId} {A : Option Addr} {n c : Nat} {d : DataW H} {ps : List MemPlace} {j : Nat} (k : Nat) (hp : parts P k t = true) (ht : P.underlying t = some (.slice e)) (h : DataW.Trod enc P W 0 spare held t (.slice A n c) d ps) (hsz : (DataW.weightsEach P tss dss).all (· ≤ reachBytes) = true) (hjt : tss[j]? = some t) (hjd : dss[j]? = some d) :
    ∃ ys : List Cell, (RCell (.s (P.cellsOf e) A n c ys)).holds W ∧ Ty P t [.s (P.cellsOf e) A n c ys] := by
  obtain ⟨xs, h1, h2, h3⟩ := open_param k hp h hsz hjt hjd
  obtain ⟨A', n', c', ys, rfl, _⟩ := ty_slice ht h3
  have e1 : [Cell.val (.s (P.cellsOf e) A' n' c' ys)] = [Value.slice A n c] := h1
  simp only [Cell.val, List.cons.injEq, Value.slice.injEq, and_true] at e1
  obtain ⟨rfl, rfl, rfl⟩ := e1
  exact ⟨ys, h2.1, h3⟩
end
end Go.Eng
