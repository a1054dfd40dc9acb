/- The engine, fifth part: slices, strings, composite values. No statement is proved here. -/
import Derived.Test.YtflcokdkobhieaaEng4
import Derived.Laws.Tables
set_option linter.unusedVariables false
set_option linter.unusedSimpArgs false
namespace Go.Eng
open Go.RowKit
theorem Rd.of_blk {w : World} {g e sz n : Nat} {cs : List Value} (h : Blk w g e cs) (hl : cs.length = n * sz) : Rd w sz (Option.some ⟨g, 0, none⟩) n cs :=
  ⟨hl, fun _ e => (by cases e), fun j u hu => by rw [Option.getD_some, addr_add, Nat.zero_add]; exact h.cell hu⟩
theorem Src.of_blk {P : Program} {w : World} {g e sz n c : Nat} {cs : List Value} (h : Blk w g e cs) (hl : cs.length = n * sz) : Src P w sz n (.slice (some ⟨g, 0, none⟩) n c) cs := Src.of_rd (Rd.of_blk h hl)
theorem strOf_at {s : List UInt8} {j : Nat} (h : j < s.length) : (strOf s).data[j]? = some (s.getD j 0) := by
  simp [strOf, List.getD, List.getElem?_eq_getElem h]
theorem wrapU8 {m : Int} {x : UInt8} (h : m = (x.toNat : Int)) : IntKind.u8.wrap m = (x.toNat : Int) := by
  subst h
  have := x.toNat_lt
  simp [IntKind.wrap, IntKind.signed, IntKind.bits]
  omega
theorem add_zero (a : Addr) : a.add 0 = a := by simp [Addr.add]
theorem map_add_zero (A : Option Addr) : A.map (·.add 0) = A := by cases A <;> simp [add_zero]
section
variable {P : Program} {N : Nat} {D : List Deferred} {ρ : Env} {w : World} {ty t t' e : TypeId} {x y z : Operand} {v : Value} {k k' : IntKind} {i j : Int} {A : Option Addr} {n c sz : Nat}
theorem run_bound {j m : Nat} {code : BoundsCode} (h1 : j ≤ m) : (Instr.sliceBound (.int k (j : Int)) m code).run P w = .ok j w := by
  have h0 : (0 : Int) ≤ (j : Int) := by omega
  simp [Instr.sliceBound, asIntOf, h0, h1]
theorem y_slTo {a : Nat} (hx : ev ρ x = some (.slice A n c)) (hy : ev ρ y = some (.int k i)) (ht : P.underlying t = some (.slice e)) (hs : szB P e = some sz) (hj : ((a : Nat) : Int) = i) (h1 : a ≤ c) :
    Yl P N D ρ w (.slice t x none (some y) none) ty (.slice A a c) := fun ac _ _ _ _ ha => by
  subst hj
  have : (if c = 0 then A else A.map (·.add (0 * sz))) = A := by split <;> simp [map_add_zero]
  simp [execOp, ha.eval hx, ha.eval hy, Instr.sliceAt, Instr.slice, Instr.sliceBounds, run_underlying ht, run_sizeOf hs, run_bound h1] at this ⊢
  exact this
theorem y_slFrom {a : Nat} (hx : ev ρ x = some (.slice A n c)) (hy : ev ρ y = some (.int k i)) (ht : P.underlying t = some (.slice e)) (hs : szB P e = some sz) (hj : ((a : Nat) : Int) = i) (h1 : a ≤ n) :
    Yl P N D ρ w (.slice t x (some y) none none) ty (.slice (if c = a then A else A.map (·.add (a * sz))) (n - a) (c - a)) := fun ac _ _ _ _ ha => by
  subst hj
  simp [execOp, ha.eval hx, ha.eval hy, Instr.sliceAt, Instr.slice, Instr.sliceBounds, run_underlying ht, run_sizeOf hs, run_bound h1]
theorem y_slBoth {a b : Nat} (hx : ev ρ x = some (.slice A n c)) (hy : ev ρ y = some (.int k i)) (hz : ev ρ z = some (.int k' j)) (ht : P.underlying t = some (.slice e)) (hs : szB P e = some sz) (hi : ((a : Nat) : Int) = i) (hj : ((b : Nat) : Int) = j) (h1 : a ≤ b) (h2 : b ≤ c) :
    Yl P N D ρ w (.slice t x (some y) (some z) none) ty (.slice (if c = a then A else A.map (·.add (a * sz))) (b - a) (c - a)) := fun ac _ _ _ _ ha => by
  subst hi
  subst hj
  simp [execOp, ha.eval hx, ha.eval hy, ha.eval hz, Instr.sliceAt, Instr.slice, Instr.sliceBounds, run_underlying ht, run_sizeOf hs, run_bound h2, run_bound h1]
theorem y_slArr {p : Addr} (hx : ev ρ x = some (.pointer (some p))) (ht : P.underlying t = some (.array n e)) (hs : szB P e = some sz) : Yl P N D ρ w (.slice t x none none none) ty (.slice (some p) n n) := fun a _ _ _ _ ha => by
  simp [execOp, ha.eval hx, Instr.sliceAt, Instr.sureAddr, Instr.sliceBounds, run_underlying ht, run_sizeOf hs, add_zero]
theorem extract_str (s : ByteArray) (l h : Nat) : s.extract l h = strOf (((bytesOf s).take h).drop l) := by
  apply ByteArray.ext
  rw [ByteArray.data_extract]
  apply Array.ext'
  simp [strOf, bytesOf, List.drop_take]
theorem y_strBoth {s : ByteArray} {a b : Nat} (hx : ev ρ x = some (.string s)) (hy : ev ρ y = some (.int k i)) (hz : ev ρ z = some (.int k' j)) (ht : P.underlying t = some .string) (hi : ((a : Nat) : Int) = i) (hj : ((b : Nat) : Int) = j) (h1 : a ≤ b) (h2 : b ≤ (bytesOf s).length) :
    Yl P N D ρ w (.slice t x (some y) (some z) none) ty (.string (strOf (((bytesOf s).take b).drop a))) := fun ac _ _ _ _ ha => by
  subst hi
  subst hj
  have h4 : b ≤ s.size := by simpa [bytesOf] using h2
  simp [execOp, ha.eval hx, ha.eval hy, ha.eval hz, Instr.sliceAt, Instr.slice, Instr.sliceBounds, run_underlying ht, run_bound h4, run_bound h1, extract_str]
theorem y_strFrom {s : ByteArray} {a : Nat} (hx : ev ρ x = some (.string s)) (hy : ev ρ y = some (.int k i)) (ht : P.underlying t = some .string) (hi : ((a : Nat) : Int) = i) (h1 : a ≤ (bytesOf s).length) :
    Yl P N D ρ w (.slice t x (some y) none none) ty (.string (strOf ((bytesOf s).drop a))) := fun ac _ _ _ _ ha => by
  subst hi
  have h4 : a ≤ s.size := by simpa [bytesOf] using h1
  have h5 : (bytesOf s).take s.size = bytesOf s := List.take_of_length_le (by simp [bytesOf])
  simp [execOp, ha.eval hx, ha.eval hy, Instr.sliceAt, Instr.slice, Instr.sliceBounds, run_underlying ht, run_bound h4, extract_str, h5]
theorem y_strTo {s : ByteArray} {a : Nat} (hx : ev ρ x = some (.string s)) (hy : ev ρ y = some (.int k i)) (ht : P.underlying t = some .string) (hi : ((a : Nat) : Int) = i) (h1 : a ≤ (bytesOf s).length) :
    Yl P N D ρ w (.slice t x none (some y) none) ty (.string (strOf ((bytesOf s).take a))) := fun ac _ _ _ _ ha => by
  subst hi
  have h4 : a ≤ s.size := by simpa [bytesOf] using h1
  simp [execOp, ha.eval hx, ha.eval hy, Instr.sliceAt, Instr.slice, Instr.sliceBounds, run_underlying ht, run_bound h4, extract_str]
theorem y_arrAt {m : Nat} (hx : ev ρ x = some (.slice A n c)) (ht : P.underlying t = some (.array m e)) (hm : m ≤ n) : Yl P N D ρ w (.sliceToArrayPointer t x) ty (.pointer A) := fun a _ _ _ _ ha => by
  have : ¬ n < m := by omega
  simp [execOp, ha.eval hx, Instr.arrayAt, run_underlying ht, this]
theorem run_b2s {l : List UInt8} (hr : Rd w 1 A n (b8s l)) (ht : P.underlying t = some (.slice e)) (he : P.underlying e = some (.int .u8)) (ht' : P.underlying t' = some .string) : (convert t t' (.slice A n c)).run P w = .ok (.string (strOf l)) w := by
  have hn : l.length = n := by have := hr.1; rw [b8s_length] at this; omega
  cases A with
  | none =>
    have h0 : n = 0 := by
      rcases Nat.eq_zero_or_pos n with h | h
      · exact h
      · exact absurd rfl (hr.2.1 h)
    have hl : l = [] := List.eq_nil_of_length_eq_zero (by omega)
    rw [run_convert_bytes_string w t t' e none n c ht he ht', hl]
    simp [Conv.bytesToString]
    rfl
  | some ad =>
    subst hn
    exact run_convert_bytes_back w t t' e ad c l ht he ht' (fun j hj => by
      have := hr.cell (b8s_get hj)
      simpa [B8, List.getD, List.getElem?_eq_getElem hj] using this)
theorem y_b2s {l : List UInt8} (hx : ev ρ x = some (.slice A n c)) (ht : P.underlying t = some (.slice e)) (he : P.underlying e = some (.int .u8)) (ht' : P.underlying t' = some .string) (hr : Rd w 1 A n (b8s l)) : Yl P N D ρ w (.convert t t' x) ty (.string (strOf l)) := fun a _ _ _ _ ha => by
  simp [execOp, ha.eval hx, run_b2s hr ht he ht']
theorem y_s2s {s : ByteArray} {td : TypeDesc} (hx : ev ρ x = some (.string s)) (ht : P.underlying t = some td) (ht' : P.underlying t' = some .string) : Yl P N D ρ w (.convert t t' x) ty (.string s) := fun a _ _ _ _ ha => by
  cases td <;> simp [execOp, ha.eval hx, convert, run_underlying ht, run_underlying ht']
/-- a function without a body: what stands in for it tells a value -/
theorem y_ext {f : Nat} {fn : Func} {l : List Operand} {vs : List Value} {tys : Array TypeId} {g : Array Value → Sem Value} (hv : evs ρ l = some vs) (hf : P.funcs[f]? = some fn) (hname : (fn.name == "runtime.NumGoroutine") = false)
    (hb : fn.body.isNone = true) (hn : Extern.findNext fn = none) (he : Extern.find fn = some g) (hr : (g vs.toArray).run P w = .ok v w) : Yl P N D ρ w (.call ⟨.value (.func f), l.toArray, tys⟩) ty v := fun a _ _ _ _ ha => by
  simp [execOp, resolve, Deferred.ofValue, Act.eval, invoke, ha.evals hv, run_callFunc_extern hf hname hb hn he, hr]
/-- composite values -/
inductive Bld (P : Program) (pl : Nat → Option (Nat × Nat)) : List Value → List (Nat × Value) → List Value → Prop
  | nil {cs : List Value} : Bld P pl cs [] cs
  | cons {cs cs' vs : List Value} {i o sz : Nat} {v : Value} {rest : List (Nat × Value)} (hp : pl i = some (o, sz)) (hv : v.cells.toList = vs) (hl : vs.length = sz) (ho : o + sz ≤ cs.length) (h : Bld P pl (splice cs o vs) rest cs') : Bld P pl cs ((i, v) :: rest) cs'
theorem foldl_splice : ∀ (vs cs : List Value) (o k : Nat), o + k + vs.length ≤ cs.length → (vs.zipIdx k).foldl (fun cs (c, j) => cs.setIfInBounds (o + j) c) cs.toArray = (splice cs (o + k) vs).toArray
  | [], cs, o, k, _ => by simp [splice_nil]
  | v :: r, cs, o, k, h => by
    have hk : o + k < cs.length := by simp at h; omega
    rw [List.zipIdx_cons, List.foldl_cons]
    have := foldl_splice r (cs.set (o + k) v) o (k + 1) (by simp at h ⊢; omega)
    simp only [List.setIfInBounds_toArray] at this ⊢
    rw [this, ← Nat.add_assoc, splice_cons hk]
theorem run_fill {pl : Nat → Option (Nat × Nat)} : ∀ {parts : List (Nat × Value)} {cs cs' : List Value}, Bld P pl cs parts cs' → Instr.fill pl cs.toArray parts = some cs'.toArray
  | [], _, _, h => by cases h; rfl
  | (i, v) :: rest, cs, cs', h => by
    cases h with
    | cons hp hv hl ho h =>
      rename_i vs o sz
      have h1 : v.cells = vs.toArray := by rw [← hv]
      have h2 : ¬ (cs.length < o + vs.length) := by omega
      have hz : vs.toArray.zipIdx = (vs.zipIdx).toArray := by simp
      have hf := foldl_splice vs cs o 0 (by omega)
      simp only [Nat.add_zero] at hf
      unfold Instr.fill
      simp only [hp, h1]
      rw [if_neg (by simp; omega), hz, List.foldl_toArray, hf]
      exact run_fill h
/-- where the parts of a composite lie -/
def plB (P : Program) (t : TypeId) (i : Nat) : Option (Nat × Nat) :=
  match P.underlying t with
  | some (.array _ e) => match P.info? e with
    | some ie => some (i * ie.size, ie.size)
    | none => none
  | some (.struct fields) => match fields.toList.mapM (fun f => (P.info? f.type).map fun i => (f.offset, i.size)) with
    | some places => places.toArray[i]?
    | none => none
  | _ => none
theorem built_of {parts : List (Nat × Value)} {zs cs : List Value} {z : Value} {sz bytes : Nat} (hT : TI P t z sz bytes) (hz : z.cells.toList = zs) (hp : (plB P t 0).isSome = true) (hb : Bld P (plB P t) zs parts cs) : P.built t parts = some cs.toArray := by
  obtain ⟨i, hi, hzero, _, _⟩ := hT.get
  have hzc : z.cells = zs.toArray := by rw [← hz]
  have hfill := run_fill hb
  unfold Program.built
  cases hu : P.underlying t with
  | none => simp [plB, hu] at hp
  | some d =>
    cases d <;> try (simp [plB, hu] at hp; done)
    case array n e =>
      cases he : P.info? e with
      | none => simp [plB, hu, he] at hp
      | some ie =>
        have e3 : plB P t = fun i => some (i * ie.size, ie.size) := by funext i; simp [plB, hu, he]
        rw [e3] at hfill
        simp only [hi, hzero, he, hzc]
        exact hfill
    case struct fs =>
      cases hm : fs.toList.mapM (fun f => (P.info? f.type).map fun i => (f.offset, i.size)) with
      | none => simp [plB, hu, hm] at hp
      | some places =>
        have e3 : plB P t = fun i => places.toArray[i]? := by funext i; simp [plB, hu, hm]
        rw [e3] at hfill
        simp only [hi, hzero, hm, hzc]
        exact hfill
theorem y_build {zs cs : List Value} {parts : List (Nat × Operand)} {vs : List Value} {z : Value} {sz bytes : Nat} (hT : TI P t z sz bytes) (hz : z.cells.toList = zs) (hv : evs ρ (parts.map (·.2)) = some vs) (hp : (plB P t 0).isSome = true)
    (hb : Bld P (plB P t) zs ((parts.map (·.1)).zip vs) cs) : Yl P N D ρ w (.build t parts.toArray) ty (.agg cs.toArray) := fun a _ _ _ _ ha => by
  have e1 := ha.evals hv
  have e2 : ∀ q : List (Nat × Operand), q.map (fun p => (p.1, a.eval p.2)) = (q.map (·.1)).zip ((q.map (·.2)).map a.eval) := by
    intro q
    induction q with
    | nil => rfl
    | cons p r ih => simp [ih]
  have hbt := built_of hT hz hp hb
  have := run_build (P := P) w t ((parts.map fun p => (p.1, a.eval p.2)).toArray) cs.toArray (by rw [e2 parts, e1]; exact hbt)
  simp [execOp, this]
/-- zero value -/
theorem y_build0 {z : Value} {sz bytes : Nat} {cs : List Value} (hT : TI P t z sz bytes) (hz : z.cells.toList = cs) (hp : (plB P t 0).isSome = true) : Yl P N D ρ w (.build t #[]) ty (.agg cs.toArray) :=
  y_build (parts := []) hT hz rfl hp .nil
end
section
variable {P : Program} {Q : Exit → Act → World → Prop} {N : Nat} {D : List Deferred} {ρ : Env} {w : World} {ty t t' e : TypeId} {x y : Operand} {v : Value} {K : Value → World → Prop}
/-- a slice literal, every element written -/
theorem fill_seq (sz : Nat) : ∀ (vs : List Value) (k : Nat) (cs : List Value), (∀ v ∈ vs, v.cells.size = sz) → (k + vs.length) * sz = cs.length →
    Instr.fill (fun i => some (i * sz, sz)) cs.toArray ((List.range' k vs.length).zip vs) = some (cs.take (k * sz) ++ vs.flatMap (·.cells.toList)).toArray
  | [], k, cs, _, hl => by simp at hl; simp [Instr.fill, hl]
  | v :: r, k, cs, hv, hl => by
    have h1 := hv v (by simp)
    have h2 : k * sz + sz ≤ cs.length := by
      rw [← hl]
      have : (k + (v :: r).length) * sz = k * sz + sz + r.length * sz := by simp [Nat.add_mul]; omega
      omega
    have hlv : v.cells.toList.length = sz := by simpa using h1
    have hf := foldl_splice v.cells.toList cs (k * sz) 0 (by omega)
    simp only [Nat.add_zero] at hf
    have hz : v.cells.zipIdx = (v.cells.toList.zipIdx).toArray := by apply Array.ext'; simp
    rw [List.length_cons, List.range'_succ, List.zip_cons_cons]
    unfold Instr.fill
    simp only []
    rw [if_neg (by simp; omega), hz, List.foldl_toArray, hf, fill_seq sz r (k + 1) _ (fun u hu => hv u (by simp [hu])) (by rw [splice_length (by omega), ← hl]; congr 1; simp only [List.length_cons]; omega)]
    congr 2
    simp only [List.flatMap_cons, ← List.append_assoc]
    congr 1
    have e1 : (k + 1) * sz = k * sz + sz := by simp [Nat.add_mul]
    rw [e1]
    unfold splice
    have h3 : (cs.take (k * sz) ++ v.cells.toList).length = k * sz + sz := by simp; omega
    rw [← h3, List.take_left]
theorem x_bslR {z : Value} {sz bytes n : Nat} {parts : List (Nat × Operand)} {vs : List Value} (ht : P.underlying t = some (.slice e)) (hT : TI P e z sz bytes) (hv : evs ρ (parts.map (·.2)) = some vs) (hi : parts.map (·.1) = List.range' 0 n) (hl : vs.length = n)
    (hc : ∀ v ∈ vs, v.cells.size = sz) (h0 : n * sz ≠ 0) (hsm : n * sz ≤ 16777216)
    (k : ∀ g w', w.heap.size ≤ g → Fr No w w' → w'.heap[g]? = some (.cells (vs.flatMap (·.cells.toList)).toArray e (0, 0)) → K (.slice (some ⟨g, 0, none⟩) n n) w') : XW P Q N D ρ w (.buildSlice t n parts.toArray) ty K := by
  obtain ⟨ie, hi', hzero, hsize, _⟩ := hT.get
  refine xw_of_run (w' := w.alloc (.cells (vs.flatMap (·.cells.toList)).toArray e)) (fun a _ _ _ _ ha => ?_) (k _ _ (Nat.le_refl _) (Fr.alloc w _) (heap_alloc_new w _))
  have e1 := ha.evals hv
  have e2 : ∀ q : List (Nat × Operand), q.map (fun p => (p.1, a.eval p.2)) = (q.map (·.1)).zip ((q.map (·.2)).map a.eval) := by
    intro q
    induction q with
    | nil => rfl
    | cons p r ih => simp [ih]
  have e3 : parts.map (fun p => (p.1, a.eval p.2)) = (List.range' 0 vs.length).zip vs := by rw [e2, e1, hi, hl]
  have hlen : (0 + vs.length) * sz = ((List.range (n * sz)).map fun i => z.cells[i % z.cells.size]!).length := by simp [hl]
  have hfs := fill_seq sz vs 0 ((List.range (n * sz)).map fun i => z.cells[i % z.cells.size]!) hc hlen
  simp only [Nat.zero_mul, List.take_zero, List.nil_append] at hfs
  have h24 : ¬ (2 ^ 24 < n * sz) := by omega
  have hr : (Array.range (n * sz)).map (fun i => z.cells[i % z.cells.size]!) = ((List.range (n * sz)).map fun i => z.cells[i % z.cells.size]!).toArray := by
    apply Array.ext'
    simp
  have hsl : ¬ (n * ie.size = 0) := by rw [hsize]; exact h0
  have hfs' : Instr.fill (fun i => some (i * ie.size, ie.size)) ((Array.range (n * ie.size)).map fun i => z.cells[i % z.cells.size]!) (parts.map fun p => (p.1, a.eval p.2)) = some (vs.flatMap (·.cells.toList)).toArray := by
    rw [hsize, hr, e3]; exact hfs
  have h24' : ¬ (2 ^ 24 < n * ie.size) := by rw [hsize]; exact h24
  simp [execOp, Instr.buildSlice, run_underlying ht, sizeOf, typeInfo, zeroValue, hi', hzero, hsl, newRow, h24', hfs']
theorem x_bsl {z : Value} {sz bytes n : Nat} {parts : List (Nat × Operand)} {vs : List Value} (ht : P.underlying t = some (.slice e)) (hT : TI P e z sz bytes) (hv : evs ρ (parts.map (·.2)) = some vs) (hi : parts.map (·.1) = List.range' 0 n) (hl : vs.length = n)
    (hc : ∀ v ∈ vs, v.cells.size = sz) (h0 : n * sz ≠ 0) (hsm : n * sz ≤ 16777216)
    (k : ∀ g w', w.heap.size ≤ g → Fr No w w' → Blk w' g e (vs.flatMap (·.cells.toList)) → K (.slice (some ⟨g, 0, none⟩) n n) w') : XW P Q N D ρ w (.buildSlice t n parts.toArray) ty K :=
  x_bslR ht hT hv hi hl hc h0 hsm fun g w' hg hf hh => k g w' hg hf ⟨(0, 0), hh, fun i _ => by simp, Nat.le_refl _⟩
theorem freeze_at {w : World} {g n : Nat} {c : Array Value} {t : TypeId} (h : w.heap[g]? = some (.cells c t (0, 0))) : (w.freeze ⟨g, n, none⟩ 1).heap[g]? = some (.cells c t (n, n + 1)) := by
  have e1 : w.freeze ⟨g, n, none⟩ 1 = { w with heap := w.heap.modify g fun | .cells c elem (lo, hi) => .cells c elem (if lo == hi then (n, n + 1) else (min lo n, max hi (n + 1))) | o => o } := rfl
  rw [e1]
  simp only [Array.getElem?_modify, if_true, h, Option.map_some]
  rfl
theorem freeze_fr (w : World) (g n : Nat) : Fr (fun k => k = g) w (w.freeze ⟨g, n, none⟩ 1) := by
  have e1 : w.freeze ⟨g, n, none⟩ 1 = { w with heap := w.heap.modify g fun | .cells c elem (lo, hi) => .cells c elem (if lo == hi then (n, n + 1) else (min lo n, max hi (n + 1))) | o => o } := rfl
  rw [e1]
  refine ⟨rfl, rfl, rfl, by simp, fun k _ hk => ?_⟩
  simp only [Array.getElem?_modify]
  rw [if_neg (fun e => hk e.symm)]
/-- a text turned into bytes -/
theorem x_s2b {s : ByteArray} {td : TypeDesc} (hx : ev ρ x = some (.string s)) (ht : P.underlying t = some td) (ht' : P.underlying t' = some (.slice e)) (he : P.underlying e = some (.int .u8)) (hm : (bytesOf s).length ≤ maxLen)
    (k : ∀ v w', Fr No w w' → Own w' w.heap.size e 1 v (bytesOf s).length (b8s (bytesOf s)) → K v w') : XW P Q N D ρ w (.convert t t' x) ty K := by
  have hle : s.size ≤ maxLen := by simpa [bytesOf] using hm
  have hge := grownCap_ge w s.size 0 e
  have hcm := grownCap_le_maxLen w s.size 0 e hle
  have hl : (bytesOf s).length = s.size := by simp [bytesOf]
  let cs : List Value := b8s (bytesOf s) ++ List.replicate (grownCap w s.size 0 e - s.size) (.int .u8 0)
  have hcl : cs.length = grownCap w s.size 0 e := by simp [cs, b8s_length, hl]; omega
  let w1 := (w.drew.alloc (.cells cs.toArray e)).freeze { block := w.heap.size, off := cs.length } 1
  have hb1 : (w.drew.alloc (.cells cs.toArray e)).heap[w.heap.size]? = some (.cells cs.toArray e (0, 0)) := heap_alloc_new w.drew _
  have hblk : Blk w1 w.heap.size e cs := ⟨(cs.length, cs.length + 1), freeze_at hb1, fun i hi => by simp; omega, Nat.le_succ _⟩
  have hfr : Fr No w w1 := ((Fr.drew w).trans0 (Fr.alloc w.drew (.cells cs.toArray e))).new (freeze_fr _ w.heap.size cs.length) (fun i hi => Nat.le_of_eq hi.symm)
  refine xw_of_run (v' := .slice (some ⟨w.heap.size, 0, none⟩) s.size (grownCap w s.size 0 e)) (w' := w1) (fun a _ _ _ _ ha => ?_) (k _ _ hfr ?_)
  · have e2 : s.data.map (fun b => Value.int .u8 (b.toNat : Int)) ++ Array.replicate (grownCap w s.size 0 e - s.size) (Value.int .u8 0) = cs.toArray := by
      apply Array.ext'
      simp [cs, b8s, bytesOf, B8]
    have e3 : (w.drew.alloc (.cells cs.toArray e)).shape? w.heap.size = some (e, cs.length) := by simp only [World.shape?, hb1]; simp
    have e4 : (Conv.stringToBytes e s).run P w = .ok (.slice (some ⟨w.heap.size, 0, none⟩) s.size (grownCap w s.size 0 e)) w1 := by
      simp only [grownCap] at e2
      simp [Conv.stringToBytes, choose, Sem.run, Question.forced, newRow, markStringish, shape, freeze, e2, grownCap]
      rw [e3]
      rfl
    cases td <;> simp [execOp, ha.eval hx, convert, run_underlying ht, run_underlying ht', run_underlying he, e4]
  · have := Own.made (base := w.heap.size) (e := e) (sz := 1) (n := s.size) (cap := grownCap w s.size 0 e) hblk (Nat.le_refl _) hge hcm (by omega)
    rw [hl]
    have e1 : cs.take (s.size * 1) = b8s (bytesOf s) := by
      rw [Nat.mul_one, ← hl, ← b8s_length]; exact List.take_left
    rw [e1] at this
    exact this
end
section
variable {P : Program} {Q : Exit → Act → World → Prop} {N : Nat} {D : List Deferred} {ρ : Env} {w : World} {x y : Operand} {ty t e : TypeId} {v : Value} {K : Value → World → Prop}
theorem set_window {cur : List Value} {o m j : Nat} {v : Value} (hj : j < m) : ((cur.set (o + j) v).drop o).take m = ((cur.drop o).take m).set j v := by
  rw [List.drop_set, if_neg (by omega), List.take_set]
  congr 1
  omega
/-- a store into a slice that is one's own -/
theorem x_stO {A : Option Addr} {n c base sz j : Nat} {xs : List Value} (hx : ev ρ x = some (.pointer (some ((A.getD d0).add j)))) (hy : ev ρ y = some v) (hs : szB P t = some 1) (hv : v.oneCell' = true) (h : Own w base e sz (.slice A n c) n xs) (hj : j < n * sz)
    (k : ∀ w', Fr (vblk (.slice A n c)) w w' → Own w' base e sz (.slice A n c) n (xs.set j v) → w'.heap.size = w.heap.size → K undef w') : XW P Q N D ρ w (.store t x y) ty K := by
  rcases h with ⟨hl, ⟨h1, rfl⟩ | ⟨g, o, cap, cur, h1, hb, hg, hn, hm, hc, hxs⟩⟩
  · omega
  · injection h1 with h1 h2 h3
    subst h1; subst h3
    have hle : n * sz ≤ c * sz := Nat.mul_le_mul_right _ hn
    refine x_st1 (g := g) (o := o + j) (by rw [hx, Option.getD_some, addr_add]) hy hs hv hg (by omega) fun w' hf hb' hsz => k w' ?_ ⟨by simpa using hl, .inr ⟨g, o, c, _, rfl, hb, hb', hn, hm, by simpa using hc, ?_⟩⟩ hsz
    · exact hf.mono fun i _ hi => hi
    · rw [set_window hj, hxs]
end
theorem Blk.cells0 {w : World} {g : Nat} {t : TypeId} {cs : List Value} (h : Blk w g t cs) : ∀ (j : Nat) (u : Value), cs[j]? = Option.some u → w.cell? ((⟨g, 0, Option.none⟩ : Addr).add j) = Option.some u :=
  fun j u hu => h.cell_add (by simpa using hu)
theorem x_st1a {P : Program} {Q : Exit → Act → World → Prop} {N : Nat} {D : List Deferred} {ρ : Env} {w : World} {x y : Operand} {ty t : TypeId} {v : Value} {K : Value → World → Prop} {g o j : Nat} {bt : TypeId} {cs : List Value} (hx : ev ρ x = some (.pointer (some ((⟨g, o, none⟩ : Addr).add j)))) (hy : ev ρ y = some v) (hs : szB P t = some 1) (hv : v.oneCell' = true) (hb : Blk w g bt cs) (ho : o + j < cs.length)
    (k : ∀ w', Fr (fun i => i = g) w w' → Blk w' g bt (cs.set (o + j) v) → w'.heap.size = w.heap.size → K undef w') : XW P Q N D ρ w (.store t x y) ty K :=
  x_st1 (by rw [hx, addr_add]) hy hs hv hb ho k
theorem cells_agg (cs : List Value) : (Value.agg cs.toArray).cells.toList = cs := rfl
end Go.Eng
