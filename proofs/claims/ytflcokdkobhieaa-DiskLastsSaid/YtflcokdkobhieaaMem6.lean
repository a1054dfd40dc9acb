/- More rules over things in memory. No statement is proved here. -/
import Derived.Test.YtflcokdkobhieaaMem5
import Derived.Laws.MakeOwn
set_option linter.unusedVariables false
set_option linter.unusedSimpArgs false
namespace Go.Eng
/-- either of two -/
theorem pk_or {p q : Prop} [Decidable p] [Decidable q] : (if decide p = true then Value.bool true else Value.bool (decide q)) = Value.bool (decide (p ∨ q)) := by
  by_cases h : p <;> simp [h]
theorem pk_and {p q : Prop} [Decidable p] [Decidable q] : (if decide p = true then Value.bool (decide q) else Value.bool false) = Value.bool (decide (p ∧ q)) := by
  by_cases h : p <;> simp [h]
section
variable {P : Program} {Q : Exit → Act → World → Prop} {N : Nat} {D : List Deferred} {ρ : Env} {b : Base} {X S : List Res} {x y : Operand} {ty t t' e : TypeId} {K : Value → List Res → List Res → Prop}
/-- a new slice of noughts of one cell each -/
theorem xh_mksl {z : Value} {bytes n : Nat} (ht : P.underlying t = some (.slice e)) (hT : TI P e z 1 bytes) (hz : z.cells = #[z]) (hx : ev ρ x = some (.int .i64 (n : Int))) (hy : ev ρ y = some (.int .i64 (n : Int))) (hb : n * bytes ≤ 140737488351232) (hn : n ≤ 140737488351232)
    (k : ∀ g, K (.slice (some ⟨g, 0, none⟩) n n) (RBlk g e (List.replicate n z) :: X) S) : XH P Q N D ρ b X S (.makeSlice t x y) ty K := fun w m => by
  obtain ⟨ie, hi', hzero, hsize, hby⟩ := hT.get
  have hbn : (ie.bytes : Int) * (n : Int) ≤ 281474976710656 := by
    have h1 : (ie.bytes : Int) * (n : Int) = ((n * bytes : Nat) : Int) := by rw [hby, Nat.mul_comm]; rfl
    rw [h1]; omega
  have hr := run_make w t e ie z ht hi' hzero .i64 .i64 (n : Int) (n : Int) (by omega) (by omega) hbn (by omega)
  rw [hsize, hz] at hr
  have hc : madeCells #[z] ((n : Int).toNat * 1) = (List.replicate n z).toArray := by
    apply Array.ext'
    simp [madeCells]
    apply List.ext_getElem <;> simp [Nat.mod_one]
  rw [hc] at hr
  refine xw_of_run (v' := .slice (some ⟨w.heap.size, 0, none⟩) n n) (w' := w.alloc (.cells (List.replicate n z).toArray e)) (fun a _ _ _ _ ha => ?_) ⟨_, _, m.addX (r' := RBlk w.heap.size e (List.replicate n z)) (Fr.alloc w _) (Blk.new w e _) (fun i hi => Nat.le_of_eq (Eq.symm hi)), k _⟩
  simp [execOp, ha.eval hx, ha.eval hy, hr]
/-- elements are laid over others -/
theorem xh_copy {A : Option Addr} {g o sz m c dLen dCap k : Nat} {bt : TypeId} {cur news : List Value} (i : Nat) (hi : X[i]? = some (RBlk g bt cur)) (hx : ev ρ x = some (.slice (some ⟨g, o, none⟩) dLen dCap)) (hy : ev ρ y = some (.slice A m c)) (ht : P.underlying t = some (.slice e)) (hs : szB P e = some sz)
    (hr : ∀ {w}, Mem b X S w → Rd w sz A k news) (hk : k = min m dLen) (hfit : o + k * sz ≤ cur.length) (h1 : ∀ u ∈ news, u.oneCell' = true)
    (kk : K (.int .i64 (k : Nat)) (RBlk g bt (splice cur o news) :: X.eraseIdx i) S) : XH P Q N D ρ b X S (.call ⟨.builtin .copy, #[x, y], #[t, t']⟩) ty K := fun w mm => x_copy hx hy ht hs (hr mm) hk (mm.blk i hi) hfit h1 fun w' hf hb hsz => ⟨_, _, by
    have m' := mm.perm (takeR_perm [i] X [RBlk g bt cur] (X.eraseIdx i) (by simp [takeR, hi]))
    exact m'.change hf hb (fun k hk => .inl hk), kk⟩
end
theorem hmemE {P : Program} {fn : Func} {R : Value → List Res → List Res → Prop} {N : Nat} {D : List Deferred} {ρ : Env} {b : Base} {X X' S S' : List Res} (h : ∀ w, Mem b X S w → Mem b X' S' w) (k : HE P fn b R N D ρ X' S') : HE P fn b R N D ρ X S := fun w m => k w (h w m)
theorem hfactE {P : Program} {fn : Func} {R : Value → List Res → List Res → Prop} {N : Nat} {D : List Deferred} {ρ : Env} {b : Base} {X S : List Res} {p : Prop} (h : ∀ {w}, Mem b X S w → p) (k : p → HE P fn b R N D ρ X S) : HE P fn b R N D ρ X S := fun w m => k (h m) w m
end Go.Eng
