/- What law SlotsBacks does. No program. -/
import Derived.Test.YtfikjheicjamhaaDoorG10
set_option linter.unusedVariables false
set_option linter.unusedSimpArgs false
namespace Go.Proofs.YtfikjheicjamhaaDoor
open Go.Eng Go.Hx
def slOf (x : List UInt8) : Sl := ⟨true, shaL x, (x.length : Int)⟩
/-- both slots are full; i times it went back -/
def BI (x y : List UInt8) (d : RD) (i : Nat) : Prop := Sst d ⟨((i % 2 : Nat) : Int), 2 + (i : Int), slOf y, slOf x⟩ (fset (fset (fun _ => none) 1 x) 0 y) (515 + 87 * i) 2000
theorem backs_start {x y : List UInt8} (hx : x.length ≤ 40) (hy : y.length ≤ 40) {d0 : RD} (h0 : Sst d0 Sup.zero (fun _ => none) 87 2000) :
    ∃ d1 d2 d3 d4 i1 i3, d0.backS = (d0, 0, 4) ∧ d0.stageS x = (d1, i1, 0) ∧ d1.flipS (shaL x) = (d2, 1, 0) ∧ d2.backS = (d2, 0, 4) ∧ d2.stageS y = (d3, i3, 0) ∧ d3.flipS (shaL y) = (d4, 2, 0) ∧ BI x y d4 0 := by
  obtain ⟨d1, e1, h1⟩ := h0.stage (bb := x) (by omega) (by omega)
  rw [freed_zero] at h1
  have q1 : fset (fun _ => none) Sup.zero.other x Sup.zero.other = some x := fset_self _ _ _
  obtain ⟨d2, e2, h2⟩ := h1.flip (q := x) (im := shaL x) q1 (by omega) rfl (by decide) (by omega)
  have hs1 : Sup.flipped Sup.zero (shaL x) x.length = ⟨1, 1, Sl.zero, slOf x⟩ := rfl
  rw [hs1] at h2
  obtain ⟨d3, e3, h3⟩ := h2.stage (bb := y) (by omega) (by omega)
  have hf : Sup.freed ⟨1, 1, Sl.zero, slOf x⟩ = ⟨1, 1, Sl.zero, slOf x⟩ := rfl
  rw [hf] at h3
  have q3 : fset (fset (fun _ => none) 1 x) 0 y (Sup.mk 1 1 Sl.zero (slOf x)).other = some y := rfl
  obtain ⟨d4, e4, h4⟩ := h3.flip (q := y) (im := shaL y) q3 (by omega) rfl (by show (1 : Int) < 2147483647; decide) (by omega)
  have hs2 : Sup.flipped ⟨1, 1, Sl.zero, slOf x⟩ (shaL y) y.length = ⟨0, 2, slOf y, slOf x⟩ := rfl
  rw [hs2] at h4
  refine ⟨d1, d2, d3, d4, _, _, h0.backNo rfl, e1, e2, h2.backNo rfl, e3, e4, ?_⟩
  exact h4.le (by omega)
theorem backs_step {x y : List UInt8} (hx : x.length ≤ 40) (hy : y.length ≤ 40) {d : RD} {i : Nat} (h : BI x y d i) (hi : i < 6) :
    ∃ d', d.backS = (d', 2 + ((i + 1 : Nat) : Int), 0) ∧ BI x y d' (i + 1) ∧ d'.activeS = (if (i + 1) % 2 = 0 then y else x, 0) := by
  have key : ∀ {a b : Nat}, a < 2 → b = 1 - a → i % 2 = a → (i + 1) % 2 = b → ∃ d', d.backS = (d', 2 + ((i + 1 : Nat) : Int), 0) ∧ BI x y d' (i + 1) ∧ d'.activeS = (if b = 0 then y else x, 0) := by
    intro a b ha hb h1 h2
    have hs : ∀ s : Sup, s = ⟨((i % 2 : Nat) : Int), 2 + (i : Int), slOf y, slOf x⟩ → s.other = b ∧ (s.at b) = slOf (if b = 0 then y else x) ∧ s.turned = ⟨(((i + 1) % 2 : Nat) : Int), 2 + ((i + 1 : Nat) : Int), slOf y, slOf x⟩ := by
      rintro s rfl
      refine ⟨?_, ?_, ?_⟩
      · show ((1 : Int) - ((i % 2 : Nat) : Int)).toNat = b
        omega
      · match b, (show b < 2 by omega) with
        | 0, _ => rfl
        | 1, _ => rfl
      · show Sup.mk (1 - ((i % 2 : Nat) : Int)) (2 + (i : Int) + 1) (slOf y) (slOf x) = _
        have e1 : (1 : Int) - ((i % 2 : Nat) : Int) = (((i + 1) % 2 : Nat) : Int) := by omega
        have e2 : (2 : Int) + (i : Int) + 1 = 2 + ((i + 1 : Nat) : Int) := by omega
        rw [e1, e2]
    obtain ⟨ho, hat, ht⟩ := hs _ rfl
    have hq : ∀ j, j < 2 → fset (fset (fun _ => none) 1 x) 0 y j = some (if j = 0 then y else x)
      | 0, _ => rfl
      | 1, _ => rfl
    have hbl : b < 2 := by omega
    have hql : (if b = 0 then y else x).length ≤ 40 := by split <;> assumption
    have h' : Sst d _ _ _ _ := h
    obtain ⟨d', e1, h3⟩ := h'.back (q := if b = 0 then y else x) (by rw [ho, hat]; rfl) (by rw [ho]; exact hq b hbl) (by rw [ho, hat]; rfl) (by rw [ho, hat]; rfl) (by show 2 + (i : Int) < _; omega) (by omega)
    rw [ht] at h3
    have h4 : BI x y d' (i + 1) := h3.le (by omega)
    have e2 : d.backS = (d', 2 + ((i + 1 : Nat) : Int), 0) := by
      rw [e1]
      show (d', 2 + (i : Int) + 1, (0 : Int)) = _
      rw [show (2 : Int) + (i : Int) + 1 = 2 + ((i + 1 : Nat) : Int) by omega]
    refine ⟨d', e2, h4, ?_⟩
    have hw : Whole ⟨(((i + 1) % 2 : Nat) : Int), 2 + ((i + 1 : Nat) : Int), slOf y, slOf x⟩ (fset (fset (fun _ => none) 1 x) 0 y) (if b = 0 then y else x) := by
      rw [h2]
      match b, hbl with
      | 0, _ => exact ⟨rfl, rfl, rfl, rfl⟩
      | 1, _ => exact ⟨rfl, rfl, rfl, rfl⟩
    exact Sst.whole h4 hw
  rcases (show i % 2 = 0 ∨ i % 2 = 1 by omega) with h1 | h1
  · have := key (a := 0) (b := 1) (by decide) rfl h1 (by omega)
    rwa [show (i + 1) % 2 = 1 by omega]
  · have := key (a := 1) (b := 0) (by decide) rfl h1 (by omega)
    rwa [show (i + 1) % 2 = 0 by omega]
end Go.Proofs.YtfikjheicjamhaaDoor
