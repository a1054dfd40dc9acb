/- The engine, seventh part: nil slices, empty slices, words of 32 bits, parts of blocks, rows of arrays of bytes. No statement is proved here. -/
import Derived.Test.YtflcokdkobhieaaEng6
import Derived.Lib.SliceRun
import Derived.Laws.BitsAllLaws
set_option linter.unusedVariables false
set_option linter.unusedSimpArgs false
namespace Go.Eng
open Go.RowKit
theorem w32 {r : Int} (h1 : 0 ≤ r) (h2 : r < 4294967296) : IntKind.u32.wrap r = r := by
  simp [IntKind.wrap, IntKind.signed, IntKind.bits]
  omega
section
variable {P : Program} {Q : Exit → Act → World → Prop} {N : Nat} {D : List Deferred} {ρ : Env} {w : World} {x y : Operand} {ty t t' e : TypeId} {v : Value} {K : Value → World → Prop}
theorem y_eqSn {A : Option Addr} {n c n' c' : Nat} (hx : ev ρ x = some (.slice A n c)) (hy : ev ρ y = some (.slice none n' c')) (ht : P.underlying t = some (.slice e)) : Yl P N D ρ w (.binOp .eql t x y t') ty (.bool A.isNone) := fun _ _ _ _ _ ha => by
  simp only [execOp, ha.eval hx, ha.eval hy]
  simp [eqGuard, Lib.run_eql_slice_nil w t e A n c n' c' ht]
theorem y_inv32 {m : Nat} (hx : ev ρ x = some (.int .u32 (m : Int))) (h : m < 4294967296) : Yl P N D ρ w (.unOp .xor t x) ty (.int .u32 ((4294967295 ^^^ m : Nat) : Int)) := fun _ _ _ _ _ ha => by
  have h1 := u32_xor_nat 4294967295 m (by decide) h
  simp only [bits] at h1
  simp [execOp, ha.eval hx, Op.unary, Op.intBits, IntKind.signed, IntKind.max, IntKind.bits] at h1 ⊢
  exact h1
/-- an empty slice that is not nil -/
theorem x_bsl0 {z : Value} {sz bytes : Nat} (ht : P.underlying t = some (.slice e)) (hT : TI P e z sz bytes)
    (k : ∀ g w', w.heap.size ≤ g → Fr No w w' → Blk w' g e [] → K (.slice (some ⟨g, 0, none⟩) 0 0) w') : XW P Q N D ρ w (.buildSlice t 0 #[]) ty K := by
  obtain ⟨ie, hi', hzero, hsize, _⟩ := hT.get
  refine xw_of_run (w' := w.alloc (.cells #[] e)) (fun a _ _ _ _ ha => ?_) (k _ _ (Nat.le_refl _) (Fr.alloc w _) (Blk.new w e []))
  simp [execOp, Instr.buildSlice, Instr.fill, run_underlying ht, sizeOf, typeInfo, hi', newRow]
  congr 2
  apply Array.ext'
  simp
end
theorem Own.made0 {w : World} {base g : Nat} {e : TypeId} {sz : Nat} (h : Blk w g e []) (hb : base ≤ g) : Own w base e sz (.slice (some ⟨g, 0, none⟩) 0 0) 0 [] :=
  ⟨by simp, .inr ⟨g, 0, 0, [], rfl, hb, h, Nat.le_refl _, by decide, by simp, by simp⟩⟩
/-- a part of a block -/
theorem Blk.part {w : World} {g : Nat} {t : TypeId} {cs : List Value} (h : Blk w g t cs) (o : Nat) {vs : List Value} (hv : ∀ j u, vs[j]? = Option.some u → cs[o + j]? = Option.some u) : ∀ (j : Nat) (u : Value), vs[j]? = Option.some u → w.cell? (((⟨g, 0, Option.none⟩ : Addr).add o).add j) = Option.some u := by
  intro j u hu
  rw [add_add]
  exact h.cell_add (by rw [Nat.zero_add]; exact hv j u hu)
/-- arrays of bytes in a row -/
def dc (ds : List (List UInt8)) : List Value := ds.flatMap b8s
theorem dc_append (a b : List (List UInt8)) : dc (a ++ b) = dc a ++ dc b := by simp [dc]
theorem dc_one (a : List UInt8) : dc [a] = b8s a := by simp [dc]
theorem dc_length {ds : List (List UInt8)} {k : Nat} (h : ∀ d ∈ ds, d.length = k) : (dc ds).length = ds.length * k := by
  induction ds with
  | nil => simp [dc]
  | cons d r ih =>
    have h1 := ih (fun x hx => h x (List.mem_cons_of_mem _ hx))
    have h2 := h d (List.mem_cons_self ..)
    simp only [dc, List.flatMap_cons, List.length_append, b8s_length, List.length_cons] at h1 ⊢
    rw [h1, h2, Nat.add_mul]
    omega
theorem dc_get {ds : List (List UInt8)} {k : Nat} (h : ∀ d ∈ ds, d.length = k) : ∀ (i : Nat), i < ds.length → ∀ (j : Nat) (u : Value), (b8s (ds.getD i []))[j]? = Option.some u → (dc ds)[i * k + j]? = Option.some u := by
  induction ds with
  | nil => intro i hi; simp at hi
  | cons d r ih =>
    intro i hi j u hu
    have h2 := h d (List.mem_cons_self ..)
    cases i with
    | zero =>
      simp only [List.getD_cons_zero] at hu
      have hj : j < (b8s d).length := (List.getElem?_eq_some_iff.1 hu).1
      simp only [dc, List.flatMap_cons, Nat.zero_mul, Nat.zero_add]
      rw [List.getElem?_append_left hj]
      exact hu
    | succ i =>
      simp only [List.getD_cons_succ] at hu
      have := ih (fun x hx => h x (List.mem_cons_of_mem _ hx)) i (by simpa using hi) j u hu
      simp only [dc, List.flatMap_cons]
      rw [List.getElem?_append_right (by rw [b8s_length, h2, Nat.add_mul]; omega), b8s_length, h2]
      have e : (i + 1) * k + j - k = i * k + j := by rw [Nat.add_mul]; omega
      rw [e]
      exact this
theorem Rd.dig {w : World} {A : Option Addr} {n k : Nat} {ds : List (List UInt8)} (h : Rd w k A n (dc ds)) (hd : ∀ d ∈ ds, d.length = k) {i : Nat} (hi : i < ds.length) : ∀ (j : Nat) (u : Value), (b8s (ds.getD i []))[j]? = Option.some u → w.cell? (((A.getD d0).add (i * k)).add j) = Option.some u := by
  intro j u hu
  rw [add_add]
  exact h.2.2 _ u (dc_get hd i hi j u hu)
theorem dc_getD {ds : List (List UInt8)} {k : Nat} (h : ∀ d ∈ ds, d.length = k) {i : Nat} (hi : i < ds.length) : (ds.getD i []).length = k := by
  rw [List.getD, List.getElem?_eq_getElem hi]
  exact h _ (List.getElem_mem hi)
theorem dc_take {ds : List (List UInt8)} {k : Nat} (h : ∀ d ∈ ds, d.length = k) (i : Nat) : (dc ds).take (i * k) = dc (ds.take i) := by
  induction ds generalizing i with
  | nil => simp [dc]
  | cons d r ih =>
    have h2 := h d (List.mem_cons_self ..)
    cases i with
    | zero => simp [dc]
    | succ i =>
      have := ih (fun x hx => h x (List.mem_cons_of_mem _ hx)) i
      simp only [dc, List.flatMap_cons, List.take_succ_cons] at this ⊢
      rw [List.take_append, b8s_length, h2, Nat.add_mul, Nat.one_mul, Nat.add_sub_cancel, this, List.take_of_length_le (by rw [b8s_length, h2]; omega)]
theorem dc_drop {ds : List (List UInt8)} {k : Nat} (h : ∀ d ∈ ds, d.length = k) (i : Nat) : (dc ds).drop (i * k) = dc (ds.drop i) := by
  induction ds generalizing i with
  | nil => simp [dc]
  | cons d r ih =>
    have h2 := h d (List.mem_cons_self ..)
    cases i with
    | zero => simp [dc]
    | succ i =>
      have := ih (fun x hx => h x (List.mem_cons_of_mem _ hx)) i
      simp only [dc, List.flatMap_cons, List.drop_succ_cons] at this ⊢
      rw [List.drop_append, b8s_length, h2, Nat.add_mul, Nat.one_mul, Nat.add_sub_cancel, this, List.drop_of_length_le (by rw [b8s_length, h2]; omega), List.nil_append]
theorem Rd.cut_dc {w : World} {A : Option Addr} {n c m : Nat} {ds : List (List UInt8)} (h : Rd w m A n (dc ds)) (hd : ∀ d ∈ ds, d.length = m) (hc : n ≤ c) {k : Nat} (hk : k ≤ n) : Rd w m (if c = k then A else A.map (·.add (k * m))) (n - k) (dc (ds.drop k)) := by
  have := Rd.cut h hk hc
  rwa [dc_drop hd] at this
theorem Rd.take_dc {w : World} {A : Option Addr} {n m : Nat} {ds : List (List UInt8)} (h : Rd w m A n (dc ds)) (hd : ∀ d ∈ ds, d.length = m) {k : Nat} (hk : k ≤ n) : Rd w m A k (dc (ds.take k)) := by
  have := h.take hk
  rwa [dc_take hd] at this
theorem dc_oneCell {ds : List (List UInt8)} : ∀ u ∈ dc ds, u.oneCell' = true := by
  intro u hu
  simp only [dc, List.mem_flatMap, b8s, List.mem_map] at hu
  obtain ⟨_, _, _, _, rfl⟩ := hu
  rfl
theorem b8s_oneCell {l : List UInt8} : ∀ u ∈ b8s l, u.oneCell' = true := by
  intro u hu
  simp only [b8s, List.mem_map] at hu
  obtain ⟨_, _, rfl⟩ := hu
  rfl
/-- a store of all of a block -/
theorem x_stA {P : Program} {Q : Exit → Act → World → Prop} {N : Nat} {D : List Deferred} {ρ : Env} {w : World} {x y : Operand} {ty t : TypeId} {K : Value → World → Prop} {g n : Nat} {bt : TypeId} {cs vs : List Value} (hx : ev ρ x = some (.pointer (some ⟨g, 0, none⟩))) (hy : ev ρ y = some (.agg vs.toArray)) (hs : szB P t = some n) (hl : vs.length = n) (h1 : ∀ u ∈ vs, u.oneCell' = true) (hb : Blk w g bt cs) (hcl : cs.length = n)
    (k : ∀ w', Fr (fun i => i = g) w w' → Blk w' g bt vs → w'.heap.size = w.heap.size → K undef w') : XW P Q N D ρ w (.store t x y) ty K := by
  refine x_stN hx hy hs hl h1 hb (by omega) fun w' hf hb' hsz => k w' hf ?_ hsz
  rwa [splice_all (by omega)] at hb'
/-! a struct of 32 bytes and one more -/
theorem j_img {w : World} {g : Nat} {t : TypeId} {img : List UInt8} {s : Value} (h : Blk w g t (b8s img ++ [s])) : ∀ (j : Nat) (u : Value), (b8s img)[j]? = Option.some u → w.cell? (((⟨g, 0, Option.none⟩ : Addr).add 0).add j) = Option.some u :=
  h.part 0 (fun j u hu => by rw [Nat.zero_add, List.getElem?_append_left (List.getElem?_eq_some_iff.1 hu).1]; exact hu)
theorem j_s {w : World} {g : Nat} {t : TypeId} {img : List UInt8} {s : Value} (h : Blk w g t (b8s img ++ [s])) (hi : img.length = 32) : w.cell? ((⟨g, 0, Option.none⟩ : Addr).add 32) = Option.some s :=
  h.cell_add (by rw [Nat.zero_add, List.getElem?_append_right (by rw [b8s_length, hi]; exact Nat.le_refl _), b8s_length, hi]; rfl)
theorem j_len {img : List UInt8} {s : Value} (hi : img.length = 32) : (b8s img ++ [s]).length = 33 := by simp [b8s_length, hi]
theorem j_one {img : List UInt8} {s : Value} (hs : s.oneCell' = true) : ∀ u ∈ b8s img ++ [s], u.oneCell' = true := by
  intro u hu
  rcases List.mem_append.1 hu with h | h
  · exact b8s_oneCell u h
  · have : u = s := by simpa using h
    rw [this]; exact hs
theorem j_set {img : List UInt8} {s v : Value} (hi : img.length = 32) : (b8s img ++ [s]).set 32 v = b8s img ++ [v] := by
  rw [List.set_append, if_neg (by rw [b8s_length, hi]; omega), b8s_length, hi]
  rfl
theorem bldJ {P : Program} {pl : Nat → Option (Nat × Nat)} {zi img : List UInt8} {z s : Value} (h0 : pl 0 = Option.some (0, 32)) (h1 : pl 1 = Option.some (32, 1)) (hz : zi.length = 32) (hi : img.length = 32) (hs : s.cells.toList = [s]) :
    Bld P pl (b8s zi ++ [z]) [(0, .agg (b8s img).toArray), (1, s)] (b8s img ++ [s]) := by
  refine .cons h0 (cells_agg _) (by rw [b8s_length, hi]) (by rw [j_len hz]; omega) (.cons h1 hs rfl ?_ ?_)
  · rw [splice_length (by rw [b8s_length, hi, j_len hz]; omega), j_len hz]; omega
  · have e : splice (splice (b8s zi ++ [z]) 0 (b8s img)) 32 [s] = b8s img ++ [s] := by
      have e1 : splice (b8s zi ++ [z]) 0 (b8s img) = b8s img ++ [z] := by
        simp only [splice, List.take_zero, List.nil_append, Nat.zero_add, b8s_length, hi]
        rw [List.drop_append, List.drop_of_length_le (by rw [b8s_length, hz]; omega), b8s_length, hz]
        rfl
      rw [e1, splice_one (by rw [j_len hi]; omega), j_set hi]
    rw [e]
    exact .nil
theorem bldJ0 {P : Program} {pl : Nat → Option (Nat × Nat)} {zi img : List UInt8} {z : Value} (h0 : pl 0 = Option.some (0, 32)) (hz : zi.length = 32) (hi : img.length = 32) :
    Bld P pl (b8s zi ++ [z]) [(0, .agg (b8s img).toArray)] (b8s img ++ [z]) := by
  refine .cons h0 (cells_agg _) (by rw [b8s_length, hi]) (by rw [j_len hz]; omega) ?_
  have e1 : splice (b8s zi ++ [z]) 0 (b8s img) = b8s img ++ [z] := by
    simp only [splice, List.take_zero, List.nil_append, Nat.zero_add, b8s_length, hi]
    rw [List.drop_append, List.drop_of_length_le (by rw [b8s_length, hz]; omega), b8s_length, hz]
    rfl
  rw [e1]
  exact .nil
end Go.Eng
