/- Structs that came in. No statement is proved here. -/
import Derived.Test.YtflcokdkobhieaaCells
set_option linter.unusedVariables false
set_option linter.unusedSimpArgs false
namespace Go.Eng
open Go.RowKit Go.ChangeShapes Go.WideShapes
theorem row4 {α : Type} {xs : List α} {a b c d : Nat} (h : xs.length = a + b + c + d) : xs = (xs.drop 0).take a ++ ((xs.drop a).take b ++ ((xs.drop (a + b)).take c ++ (xs.drop (a + b + c)).take d)) := by
  have h1 : ∀ (i j : Nat), (xs.drop i).take j ++ xs.drop (i + j) = xs.drop i := fun i j => by rw [← List.drop_drop]; exact List.take_append_drop ..
  have h0 : xs.drop (a + b + c + d) = [] := List.drop_of_length_le (by omega)
  have e3 := h1 (a + b + c) d
  rw [h0, List.append_nil] at e3
  have e0 := h1 0 a
  rw [Nat.zero_add] at e0
  rw [e3, h1 (a + b) c, h1 a b, e0]
  rfl
section
variable {H : Type} {enc : TypeId × Value → H} {P : Program} {W : World} {spare : Nat → Bool} {held : Bool} {tss : List TypeId} {dss : List (DataW H)}
theorem open_agg {r : Reach} {b0 : Nat} {t : TypeId} {fs : Array Field} {v : Value} {d : DataW H} {ps : List MemPlace} {j : Nat} (k : Nat) (hp : parts P k t = true) (ht : P.underlying t = some (.struct fs)) (hval : Value.okWide P W r b0 t v) (h : DataW.Trod enc P W 0 spare held t v d ps) (hsz : (DataW.weightsEach P tss dss).all (· ≤ reachBytes) = true) (hjt : tss[j]? = some t) (hjd : dss[j]? = some d) :
    ∃ xs : List Cell, v = .agg (xs.map Cell.val).toArray ∧ holdC W xs ∧ Ty P t xs := by
  obtain ⟨xs, h1, h2, h3⟩ := open_param k hp h hsz hjt hjd
  simp only [Value.okWide, ht] at hval
  obtain ⟨cs, rfl, _, _⟩ := hval
  refine ⟨xs, ?_, h2, h3⟩
  congr 1
  apply Array.toList_inj.1
  simpa [Value.cells] using h1.symm
end
end Go.Eng
