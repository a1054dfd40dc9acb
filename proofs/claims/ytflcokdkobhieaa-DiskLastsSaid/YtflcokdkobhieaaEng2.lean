/- The engine, second part: operations that read memory, that make memory, that write it, and calls. No statement is proved here. -/
import Derived.Test.YtflcokdkobhieaaEng
import Derived.Laws.IdiomStrings
import Derived.WalkLawsBesides
import Derived.DeepKeys
import Derived.ChangeSlices
set_option linter.unusedVariables false
set_option linter.unusedSimpArgs false
namespace Go.Eng
open Go.RowKit
def aggB (P : Program) (t : TypeId) : Option Bool :=
  match P.underlying t with
  | some (.struct _) | some (.array _ _) => some true
  | some _ => some false
  | none => none
def szB (P : Program) (t : TypeId) : Option Nat := (P.info? t).map (·.size)
/-- where a field begins, and how many cells it has -/
def faB (P : Program) (s : TypeId) (i : Nat) : Option (Nat × Nat × TypeId) :=
  match P.underlying s with
  | some (.struct fs) => match fs[i]? with
    | some f => (szB P f.type).map fun n => (f.offset, n, f.type)
    | none => none
  | _ => none
section
variable {P : Program} {w : World} {t : TypeId}
theorem run_isAgg {b : Bool} (h : aggB P t = some b) : (isAgg t).run P w = .ok b w := by
  unfold aggB at h
  unfold isAgg
  cases hu : P.underlying t with
  | none => rw [hu] at h; cases h
  | some d =>
    rw [hu] at h
    cases d <;> simp at h <;> subst h <;> simp [run_underlying hu]
theorem run_sizeOf {n : Nat} (h : szB P t = some n) : (sizeOf t).run P w = .ok n w := by
  unfold szB at h
  cases hi : P.info? t with
  | none => rw [hi] at h; cases h
  | some i =>
    rw [hi] at h
    simp at h
    simp [sizeOf, typeInfo, hi, h]
end
section
variable {P : Program} {N : Nat} {D : List Deferred} {ρ : Env} {w : World} {ty t t' e : TypeId} {x y z : Operand} {v : Value} {k : IntKind} {m n r i : Int}

theorem yT {op : Op} {b : Bool} (h : Yl P N D ρ w op ty (.bool b)) (hb : b = true) : Yl P N D ρ w op ty (.bool true) := hb ▸ h
theorem yF {op : Op} {b : Bool} (h : Yl P N D ρ w op ty (.bool b)) (hb : b = false) : Yl P N D ρ w op ty (.bool false) := hb ▸ h
theorem yV {op : Op} {v' : Value} (h : Yl P N D ρ w op ty v) (hb : v = v') : Yl P N D ρ w op ty v' := hb ▸ h
theorem y_idxS {A : Option Addr} {n c sz j : Nat} (hx : ev ρ x = some (.slice A n c)) (hy : ev ρ y = some (.int k i)) (ht : P.underlying t = some (.slice e)) (hs : szB P e = some sz) (hA : 0 < n → A ≠ none) (hj : ((j : Nat) : Int) = i) (h1 : j < n) :
    Yl P N D ρ w (.indexAddr t x y) ty (.pointer (some ((A.getD d0).add (j * sz)))) := fun a _ _ _ _ ha => by
  subst hj
  have hn : 0 < n := by omega
  have h0 : (0 : Int) ≤ (j : Int) := by omega
  have h1' : (j : Int) < (n : Int) := by omega
  cases A with
  | none => exact absurd rfl (hA hn)
  | some ad => simp [execOp, ha.eval hx, ha.eval hy, Instr.indexAt, asIntOf, run_underlying ht, h0, h1, run_sizeOf hs]
theorem y_idxA {ad : Addr} {n sz j : Nat} (hx : ev ρ x = some (.pointer (some ad))) (hy : ev ρ y = some (.int k i)) (ht : P.underlying t = some (.array n e)) (hs : szB P e = some sz) (hj : ((j : Nat) : Int) = i) (h1 : j < n) :
    Yl P N D ρ w (.indexAddr t x y) ty (.pointer (some (ad.add (j * sz)))) := fun a _ _ _ _ ha => by
  subst hj
  have h0 : (0 : Int) ≤ (j : Int) := by omega
  simp [execOp, ha.eval hx, ha.eval hy, Instr.indexAt, Instr.sureAddr, asIntOf, run_underlying ht, h0, h1, run_sizeOf hs]
theorem y_idxS1 {A : Option Addr} {n c j : Nat} (hx : ev ρ x = some (.slice A n c)) (hy : ev ρ y = some (.int k i)) (ht : P.underlying t = some (.slice e)) (hs : szB P e = some 1) (hA : 0 < n → A ≠ none) (hj : ((j : Nat) : Int) = i) (h1 : j < n) :
    Yl P N D ρ w (.indexAddr t x y) ty (.pointer (some ((A.getD d0).add j))) := by
  have := y_idxS (N := N) (D := D) (w := w) (ty := ty) hx hy ht hs hA hj h1
  rwa [Nat.mul_one] at this
theorem y_idxA1 {ad : Addr} {n j : Nat} (hx : ev ρ x = some (.pointer (some ad))) (hy : ev ρ y = some (.int k i)) (ht : P.underlying t = some (.array n e)) (hs : szB P e = some 1) (hj : ((j : Nat) : Int) = i) (h1 : j < n) :
    Yl P N D ρ w (.indexAddr t x y) ty (.pointer (some (ad.add j))) := by
  have := y_idxA (N := N) (D := D) (w := w) (ty := ty) hx hy ht hs hj h1
  rwa [Nat.mul_one] at this
theorem y_fld {ad : Addr} {i o sz : Nat} {ft : TypeId} (hx : ev ρ x = some (.pointer (some ad))) (hf : faB P t i = some (o, sz, ft)) (hs : sz ≠ 0) : Yl P N D ρ w (.fieldAddr t x i) ty (.pointer (some (ad.add o))) := fun a _ _ _ _ ha => by
  unfold faB at hf
  cases hu : P.underlying t with
  | none => rw [hu] at hf; cases hf
  | some d =>
    rw [hu] at hf
    cases d <;> try (cases hf; done)
    rename_i fs
    cases hfi : fs[i]? with
    | none => simp [hfi] at hf
    | some f =>
      cases hz : szB P f.type with
      | none => simp [hfi, hz] at hf
      | some n =>
        simp [hfi, hz] at hf
        obtain ⟨rfl, rfl, rfl⟩ := hf
        simp [execOp, ha.eval hx, Instr.fieldAt, run_underlying hu, hfi, Instr.sureAddr, fieldPlace, run_sizeOf hz, hs]
theorem y_ld1 {p : Addr} (hx : ev ρ x = some (.pointer (some p))) (ha : aggB P t = some false) (hc : w.cell? p = some v) : Yl P N D ρ w (.load t x) ty v := fun a _ _ _ _ hA => by
  simp [execOp, hA.eval hx, Instr.loadAt, Instr.sureAddr, loadVar, run_isAgg ha, hc]
theorem y_ldN {p : Addr} {sz : Nat} {cs : List Value} (hx : ev ρ x = some (.pointer (some p))) (ha : aggB P t = some true) (hs : szB P t = some sz) (hl : cs.length = sz) (hc : ∀ j u, cs[j]? = some u → w.cell? (p.add j) = some u) :
    Yl P N D ρ w (.load t x) ty (.agg cs.toArray) := fun a _ _ _ _ hA => by
  have := run_loadCells_list (P := P) w p cs hc
  rw [hl] at this
  simp [execOp, hA.eval hx, Instr.loadAt, Instr.sureAddr, loadVar, run_isAgg ha, run_sizeOf hs, this]
theorem y_fv1 {cs : List Value} {i o sz : Nat} {ft : TypeId} (hx : ev ρ x = some (.agg cs.toArray)) (hf : faB P t i = some (o, sz, ft)) (ha : aggB P ft = some false) (hv : cs[o]? = some v) : Yl P N D ρ w (.field t x i) ty v := fun a _ _ _ _ hA => by
  unfold faB at hf
  cases hu : P.underlying t with
  | none => rw [hu] at hf; cases hf
  | some d =>
    rw [hu] at hf
    cases d <;> try (cases hf; done)
    rename_i fs
    cases hfi : fs[i]? with
    | none => simp [hfi] at hf
    | some f =>
      cases hz : szB P f.type with
      | none => simp [hfi, hz] at hf
      | some n =>
        simp [hfi, hz] at hf
        obtain ⟨rfl, rfl, rfl⟩ := hf
        simp [execOp, hA.eval hx, Instr.field, run_underlying hu, hfi, asAgg, part, run_isAgg ha, hv]
theorem y_fvN {cs : List Value} {i o sz : Nat} {ft : TypeId} (hx : ev ρ x = some (.agg cs.toArray)) (hf : faB P t i = some (o, sz, ft)) (ha : aggB P ft = some true) : Yl P N D ρ w (.field t x i) ty (.agg ((cs.drop o).take sz).toArray) := fun a _ _ _ _ hA => by
  unfold faB at hf
  cases hu : P.underlying t with
  | none => rw [hu] at hf; cases hf
  | some d =>
    rw [hu] at hf
    cases d <;> try (cases hf; done)
    rename_i fs
    cases hfi : fs[i]? with
    | none => simp [hfi] at hf
    | some f =>
      cases hz : szB P f.type with
      | none => simp [hfi, hz] at hf
      | some n =>
        simp [hfi, hz] at hf
        obtain ⟨rfl, rfl, rfl⟩ := hf
        simp [execOp, hA.eval hx, Instr.field, run_underlying hu, hfi, asAgg, part, run_isAgg ha, run_sizeOf hz]
theorem y_idxV {cs : List Value} {n j : Nat} (hx : ev ρ x = some (.agg cs.toArray)) (hy : ev ρ y = some (.int k i)) (ht : P.underlying t = some (.array n e)) (hs : szB P e = some 1) (ha : aggB P e = some false) (hj : ((j : Nat) : Int) = i) (h1 : j < n) (hv : cs[j]? = some v) :
    Yl P N D ρ w (.index t x y) ty v := fun a _ _ _ _ hA => by
  subst hj
  have h0 : (0 : Int) ≤ (j : Int) := by omega
  simp [execOp, hA.eval hx, hA.eval hy, Instr.index, asIntOf, run_underlying ht, h0, h1, part, run_isAgg ha, run_sizeOf hs, hv]
theorem y_idxStr {s : ByteArray} {b : UInt8} {j : Nat} (hx : ev ρ x = some (.string s)) (hy : ev ρ y = some (.int k i)) (ht : P.underlying t = some .string) (hj : ((j : Nat) : Int) = i) (hv : s.data[j]? = some b) :
    Yl P N D ρ w (.index t x y) ty (.int .u8 (b.toNat : Int)) := fun a _ _ _ _ hA => by
  subst hj
  have h0 : (0 : Int) ≤ (j : Int) := by omega
  have h2 : s[j]? = some b := by
    have hl := (Array.getElem?_eq_some_iff.1 hv).1
    have : j < s.size := hl
    rw [getElem?_pos s j this]
    have h3 := (Array.getElem?_eq_some_iff.1 hv).2
    exact congrArg some h3
  simp [execOp, hA.eval hx, hA.eval hy, Instr.index, asIntOf, run_underlying ht, h0, h2]
theorem y_lenStr {s : ByteArray} (hx : ev ρ x = some (.string s)) (ht : P.underlying t = some .string) : Yl P N D ρ w (.call ⟨.builtin .len, #[x], #[t]⟩) ty (.int .i64 s.size) :=
  fun a _ _ _ _ ha => by simp [execOp, resolve, invoke, builtin, Builtin.len_, ha.eval hx, run_underlying ht, goInt]
theorem y_lenArr {n : Nat} (ht : P.underlying t = some (.array n e)) : Yl P N D ρ w (.call ⟨.builtin .len, #[x], #[t]⟩) ty (.int .i64 n) :=
  fun a _ _ _ _ ha => by simp [execOp, resolve, invoke, builtin, Builtin.len_, run_underlying ht, goInt]
theorem y_min {cs : Array TypeId} (hx : ev ρ x = some (.int k m)) (hy : ev ρ y = some (.int k n)) : Yl P N D ρ w (.call ⟨.builtin .min, #[x, y], cs⟩) ty (.int k (min m n)) :=
  fun a _ _ _ _ ha => by
    have : (if n < m then n else m) = min m n := by omega
    simp [execOp, resolve, invoke, builtin, Builtin.min_, Builtin.min2, ha.eval hx, ha.eval hy, this]
theorem y_max {cs : Array TypeId} (hx : ev ρ x = some (.int k m)) (hy : ev ρ y = some (.int k n)) : Yl P N D ρ w (.call ⟨.builtin .max, #[x, y], cs⟩) ty (.int k (max m n)) :=
  fun a _ _ _ _ ha => by
    have : (if m < n then n else m) = max m n := by omega
    simp [execOp, resolve, invoke, builtin, Builtin.max_, Builtin.max2, ha.eval hx, ha.eval hy, this]
theorem y_sadd {a b : ByteArray} (hx : ev ρ x = some (.string a)) (hy : ev ρ y = some (.string b)) (hb : a.size + b.size ≤ 9223372036854775807) : Yl P N D ρ w (.binOp .add t x y t') ty (.string (a ++ b)) :=
  fun _ _ _ _ _ ha => by simp only [execOp, ha.eval hx, ha.eval hy]; simp [eqGuard, binOp, run_string_add_sum w a b hb]
theorem wb8 (x : UInt8) : IntKind.i64.wrap (x.toNat : Int) = (x.toNat : Int) := by have := x.toNat_lt; exact w64 (by omega) (by omega)
theorem toList_inj {a b : ByteArray} : (a.toList == b.toList) = decide (a = b) := by
  by_cases h : a = b
  · simp [h]
  · have : a.toList ≠ b.toList := fun e => h (by
      have := congrArg List.toArray e
      rw [ByteArray.toList_eq, ByteArray.toList_eq] at this
      cases a; cases b; simpa using this)
    simp [h, this]
theorem y_seq {a b : ByteArray} (hx : ev ρ x = some (.string a)) (hy : ev ρ y = some (.string b)) : Yl P N D ρ w (.binOp .eql t x y t') ty (.bool (decide (a = b))) :=
  fun _ _ _ _ _ ha => by simp [execOp, ha.eval hx, ha.eval hy, eqGuard, binOp, Op.stringOp, toList_inj]
theorem y_sne {a b : ByteArray} (hx : ev ρ x = some (.string a)) (hy : ev ρ y = some (.string b)) : Yl P N D ρ w (.binOp .neq t x y t') ty (.bool (decide (a ≠ b))) :=
  fun _ _ _ _ _ ha => by simp [execOp, ha.eval hx, ha.eval hy, eqGuard, binOp, Op.stringOp, toList_inj]
theorem y_slt {a b : ByteArray} (hx : ev ρ x = some (.string a)) (hy : ev ρ y = some (.string b)) : Yl P N D ρ w (.binOp .lss t x y t') ty (.bool (Op.bytesLess a.toList b.toList)) :=
  fun _ _ _ _ _ ha => by simp [execOp, ha.eval hx, ha.eval hy, eqGuard, binOp, Op.stringOp]
theorem y_beq {a b : Bool} (ht : P.underlying t = some .bool) (hx : ev ρ x = some (.bool a)) (hy : ev ρ y = some (.bool b)) : Yl P N D ρ w (.binOp .eql t x y t') ty (.bool (a == b)) :=
  fun _ _ _ _ _ ha => by simp only [execOp, ha.eval hx, ha.eval hy]; simp [eqGuard, run_eql_bool w t a b ht]
theorem y_bne {a b : Bool} (ht : P.underlying t = some .bool) (hx : ev ρ x = some (.bool a)) (hy : ev ρ y = some (.bool b)) : Yl P N D ρ w (.binOp .neq t x y t') ty (.bool (!(a == b))) :=
  fun _ _ _ _ _ ha => by simp only [execOp, ha.eval hx, ha.eval hy]; simp [eqGuard, run_neq_bool w t a b ht]
/-- '==' of arrays and structs of bools, integers, strings -/
theorem run_eqlK {m : Nat} {xs ys : List Value} {D1 D2 : Nat} {la lb : List Lit} {p : Prop} [Decidable p] (hm : m ≤ 10000) (hk : P.keyTypeAt m t = true) (ha : aggB P t = some true) (hlx : xs.length = P.cellsOf t) (hly : ys.length = P.cellsOf t)
    (hx : P.keyLits D1 t xs = some la) (hy : P.keyLits D2 t ys = some lb) (hp : la = lb ↔ p) : (Op.equal t (.agg xs.toArray) (.agg ys.toArray)).run P w = .ok (decide p) w := by
  have hf : ∀ zs : List Value, zs.length = P.cellsOf t → (Value.agg zs.toArray).formed P t = true := fun zs hz => by
    unfold aggB at ha
    cases hu : P.underlying t with
    | none => rw [hu] at ha; cases ha
    | some d => rw [hu] at ha; cases d <;> simp at ha <;> simp [Value.formed, hu, hz]
  obtain ⟨r, hr, hiff⟩ := run_equalIn_deep (P := P) (10000 - m) m t hk w D1 D2 (.agg xs.toArray) (.agg ys.toArray) la lb (hf xs hlx) (hf ys hly) hx hy
  have e1 : 10000 - m + m = 10000 := by omega
  rw [e1] at hr
  have e2 : r = decide p := by
    by_cases h : p
    · simp [h, hiff.2 (hp.2 h)]
    · cases r
      · simp [h]
      · exact absurd (hp.1 (hiff.1 rfl)) h
  rw [← e2]
  exact hr
theorem y_eqK {m : Nat} {xs ys : List Value} {D1 D2 : Nat} {la lb : List Lit} {p : Prop} [Decidable p] (hx : ev ρ x = some (.agg xs.toArray)) (hy : ev ρ y = some (.agg ys.toArray)) (hm : m ≤ 10000) (hk : P.keyTypeAt m t = true) (hg : P.eqGuardType P.depth t = false)
    (ha : aggB P t = some true) (hlx : xs.length = P.cellsOf t) (hly : ys.length = P.cellsOf t) (hla : P.keyLits D1 t xs = some la) (hlb : P.keyLits D2 t ys = some lb) (hp : la = lb ↔ p) : Yl P N D ρ w (.binOp .eql t x y t') ty (.bool (decide p)) :=
  fun _ _ _ _ _ hA => by
    have e : binOp .eql t (.agg xs.toArray) (.agg ys.toArray) = (do pure (.bool (← Op.equal t (.agg xs.toArray) (.agg ys.toArray)))) := rfl
    simp only [execOp, hA.eval hx, hA.eval hy, e]
    simp [eqGuard, hg, run_eqlK (w := w) hm hk ha hlx hly hla hlb hp]
theorem y_neK {m : Nat} {xs ys : List Value} {D1 D2 : Nat} {la lb : List Lit} {p : Prop} [Decidable p] (hx : ev ρ x = some (.agg xs.toArray)) (hy : ev ρ y = some (.agg ys.toArray)) (hm : m ≤ 10000) (hk : P.keyTypeAt m t = true) (hg : P.eqGuardType P.depth t = false)
    (ha : aggB P t = some true) (hlx : xs.length = P.cellsOf t) (hly : ys.length = P.cellsOf t) (hla : P.keyLits D1 t xs = some la) (hlb : P.keyLits D2 t ys = some lb) (hp : la = lb ↔ p) : Yl P N D ρ w (.binOp .neq t x y t') ty (.bool (decide (¬ p))) :=
  fun _ _ _ _ _ hA => by
    have e : binOp .neq t (.agg xs.toArray) (.agg ys.toArray) = (do pure (.bool (!(← Op.equal t (.agg xs.toArray) (.agg ys.toArray))))) := rfl
    simp only [execOp, hA.eval hx, hA.eval hy, e]
    simp [eqGuard, hg, run_eqlK (w := w) hm hk ha hlx hly hla hlb hp]
theorem y_mki {d : TypeDesc} (hx : ev ρ x = some v) (ht : P.underlying t = some d) (hd : ∀ ms, d ≠ .interface ms) : Yl P N D ρ w (.makeInterface t x) ty (.iface t v) :=
  fun _ _ _ _ _ ha => by cases d <;> first | exact absurd rfl (hd _) | simp [execOp, ha.eval hx, Instr.makeInterface, run_underlying ht]
theorem y_mkf {fn : Fn} {f c : List Operand} {fs cs : List Value} (hf : evs ρ f = some fs) (hc : evs ρ c = some cs) : Yl P N D ρ w (.makeFunc fn f.toArray c.toArray) ty (.func fn fs.toArray cs.toArray) :=
  fun a _ _ _ _ ha => by simp [execOp, Instr.makeFunc, ha.evals hf, ha.evals hc]
end

/-! ### Bytes and digests -/
def B8 (x : UInt8) : Value := .int .u8 (x.toNat : Int)
def b8s (l : List UInt8) : List Value := l.map B8
theorem b8s_length (l : List UInt8) : (b8s l).length = l.length := by simp [b8s]
theorem b8s_get {l : List UInt8} {i : Nat} (h : i < l.length) : (b8s l)[i]? = some (B8 (l.getD i 0)) := by
  simp [b8s, List.getElem?_map, List.getElem?_eq_getElem h, List.getD]
theorem b8s_take (l : List UInt8) (k : Nat) : b8s (l.take k) = (b8s l).take k := by simp [b8s]
theorem b8s_drop (l : List UInt8) (k : Nat) : b8s (l.drop k) = (b8s l).drop k := by simp [b8s]
theorem b8s_set (l : List UInt8) (k : Nat) (c : UInt8) : b8s (l.set k c) = (b8s l).set k (B8 c) := by simp [b8s]
theorem b8s_append (l m : List UInt8) : b8s (l ++ m) = b8s l ++ b8s m := by simp [b8s]
theorem b8s_inj {l m : List UInt8} (h : b8s l = b8s m) : l = m := by
  apply List.map_inj_right ?_ |>.1 h
  intro x y hxy
  injection hxy with _ h
  exact UInt8.toNat_inj.1 (by omega)
theorem b8s_one {l : List UInt8} : ∀ u ∈ b8s l, u.oneCell' = true := by
  intro u hu
  simp only [b8s, List.mem_map] at hu
  obtain ⟨x, _, rfl⟩ := hu
  rfl
def bytesOf (s : ByteArray) : List UInt8 := s.data.toList
def strOf (l : List UInt8) : ByteArray := ⟨l.toArray⟩
theorem bytesOf_strOf (l : List UInt8) : bytesOf (strOf l) = l := rfl
theorem strOf_bytesOf (s : ByteArray) : strOf (bytesOf s) = s := rfl
theorem strOf_inj {l m : List UInt8} : strOf l = strOf m ↔ l = m := ⟨fun h => by have := congrArg bytesOf h; exact this, fun h => by rw [h]⟩
theorem strOf_append (l m : List UInt8) : strOf l ++ strOf m = strOf (l ++ m) := by
  simpa [strOf] using ByteArray.mk_append_mk l m
theorem strOf_size (l : List UInt8) : (strOf l).size = l.length := by simp [strOf, ByteArray.size]
theorem mapM_all {α β : Type} {f : α → Option β} {g : α → β} : ∀ (l : List α), (∀ i ∈ l, f i = some (g i)) → l.mapM f = some (l.map g)
  | [], _ => rfl
  | a :: r, h => by
    rw [List.mapM_cons, h a (by simp), mapM_all r (fun i hi => h i (by simp [hi]))]
    rfl
theorem flat_one {α β : Type} (f : α → β) : ∀ (l : List α), (l.map fun i => [f i]).flatten = l.map f
  | [] => rfl
  | a :: r => by simp [flat_one f r]
theorem map_getD {α β : Type} (f : α → β) (d : α) (l : List α) : ((List.range l.length).map fun i => f (l.getD i d)) = l.map f := by
  apply List.ext_getElem
  · simp
  · intro i h1 h2
    have : i < l.length := by simpa using h2
    simp [List.getD, List.getElem?_eq_getElem this]
/-- the key literals of an array of bytes -/
theorem keyLits_b8 {P : Program} {t e : TypeId} {n D : Nat} {l : List UInt8} (ht : P.underlying t = some (.array n e)) (he : P.underlying e = some (.int .u8)) (hs : P.cellsOf t = n) (hse : P.cellsOf e = 1) (hl : l.length = n) :
    P.keyLits (D + 2) t (b8s l) = some (l.map fun b => Lit.int .u8 (b.toNat : Int)) := by
  unfold Program.keyLits
  simp only [ht]
  rw [if_pos (by rw [b8s_length, hs, hl])]
  have h1 : ∀ i ∈ List.range n, P.keyLits (D + 1) e (((b8s l).drop (i * P.cellsOf e)).take (P.cellsOf e)) = some [Lit.int .u8 ((l.getD i 0).toNat : Int)] := by
    intro i hi
    have hi' : i < l.length := by have := List.mem_range.1 hi; omega
    rw [hse, Nat.mul_one]
    have h2 : ((b8s l).drop i).take 1 = [B8 (l.getD i 0)] := by
      have := b8s_get hi'
      rw [List.take_one, List.head?_drop, this]; rfl
    rw [h2]
    have hlt := (l.getD i 0).toNat_lt
    unfold Program.keyLits
    simp only [he, B8]
    have hwf : (Lit.int .u8 ((l.getD i 0).toNat : Int)).wf = true := WalkArith.wf_u8 (by omega)
    simp
    exact hwf
  rw [mapM_all (List.range n) h1, Option.map_some, Option.some.injEq, flat_one, ← hl]
  exact map_getD (fun b : UInt8 => Lit.int .u8 (b.toNat : Int)) 0 l
theorem lits_b8_inj {l m : List UInt8} : (l.map fun b => Lit.int .u8 (b.toNat : Int)) = (m.map fun b => Lit.int .u8 (b.toNat : Int)) ↔ l = m := by
  refine ⟨fun h => ?_, fun h => by rw [h]⟩
  refine (List.map_inj_right ?_).1 h
  intro x y hxy
  injection hxy with _ h
  exact UInt8.toNat_inj.1 (by omega)
end Go.Eng
