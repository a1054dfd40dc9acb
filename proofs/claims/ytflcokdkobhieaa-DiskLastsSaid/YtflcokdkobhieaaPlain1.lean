/- Digits: plain lists, no program. -/
import Derived.Test.YtflcokdkobhieaaEng5
set_option linter.unusedVariables false
set_option linter.unusedSimpArgs false
namespace Go.Hx
open Go.Eng
def hexd : List UInt8 := [48, 49, 50, 51, 52, 53, 54, 55, 56, 57, 97, 98, 99, 100, 101, 102]
def hex1 (b : UInt8) : List UInt8 := [hexd.getD (b.toNat / 16) 0, hexd.getD (b.toNat % 16) 0]
def hexs (l : List UInt8) : List UInt8 := l.flatMap hex1
theorem hexs_length (l : List UInt8) : (hexs l).length = 2 * l.length := by
  induction l with
  | nil => rfl
  | cons a r ih => simp only [hexs, List.flatMap_cons, List.length_append, List.length_cons] at ih ⊢; rw [ih]; simp [hex1]; omega
theorem hexs_append (l m : List UInt8) : hexs (l ++ m) = hexs l ++ hexs m := by simp [hexs]
theorem take_snoc {l : List UInt8} {k : Nat} (h : k < l.length) : l.take (k + 1) = l.take k ++ [l.getD k 0] := by
  rw [List.take_succ_eq_append_getElem h]; simp [List.getD, List.getElem?_eq_getElem h]
theorem hexs_snoc {l : List UInt8} {k : Nat} (h : k < l.length) : hexs (l.take (k + 1)) = hexs (l.take k) ++ hex1 (l.getD k 0) := by
  rw [take_snoc h, hexs_append]; simp [hexs]
theorem hexd_sub (j : Nat) (h : j < 16) : ((bytesOf ⟨#[48, 49, 50, 51, 52, 53, 54, 55, 56, 57, 97, 98, 99, 100, 101, 102]⟩).take (j + 1)).drop j = [hexd.getD j 0] := by
  revert j; decide
theorem hexs_step {l : List UInt8} {k : Nat} (h : k < l.length) : strOf (hexs (l.take k)) ++ strOf (((bytesOf ⟨#[48, 49, 50, 51, 52, 53, 54, 55, 56, 57, 97, 98, 99, 100, 101, 102]⟩).take ((l.getD k 0).toNat / 16 + 1)).drop ((l.getD k 0).toNat / 16)) ++
    strOf (((bytesOf ⟨#[48, 49, 50, 51, 52, 53, 54, 55, 56, 57, 97, 98, 99, 100, 101, 102]⟩).take ((l.getD k 0).toNat % 16 + 1)).drop ((l.getD k 0).toNat % 16)) = strOf (hexs (l.take (k + 1))) := by
  have hb := (l.getD k 0).toNat_lt
  rw [hexd_sub _ (by omega), hexd_sub _ (by omega), strOf_append, strOf_append, hexs_snoc h]
  simp [hex1]
theorem hexd_at (i : Int) (h0 : 0 ≤ i) (h : i < 16) : (#[48, 49, 50, 51, 52, 53, 54, 55, 56, 57, 97, 98, 99, 100, 101, 102] : Array UInt8)[i.toNat]? = some (hexd.getD i.toNat 0) := by
  have : i.toNat < 16 := by omega
  generalize i.toNat = j at this
  revert j
  decide
theorem hexd_hi (x : UInt8) : (#[48, 49, 50, 51, 52, 53, 54, 55, 56, 57, 97, 98, 99, 100, 101, 102] : Array UInt8)[((x.toNat : Int) / 16).toNat]? = some (hexd.getD (x.toNat / 16) 0) := by
  have h := x.toNat_lt
  rw [hexd_at _ (by omega) (by omega)]
  rfl
theorem hexd_lo (x : UInt8) : (#[48, 49, 50, 51, 52, 53, 54, 55, 56, 57, 97, 98, 99, 100, 101, 102] : Array UInt8)[((x.toNat % 16 : Nat) : Int).toNat]? = some (hexd.getD (x.toNat % 16) 0) := by
  rw [hexd_at _ (by omega) (by omega)]
  rfl
theorem and15 (x : UInt8) : bits .and .u8 (x.toNat : Int) 15 = ((x.toNat % 16 : Nat) : Int) := by
  have := u8_and_nat x.toNat 15 (by have := x.toNat_lt; omega) (by decide)
  rw [show ((15 : Nat) : Int) = 15 from rfl] at this
  rw [this]
  congr 1
  exact Nat.and_two_pow_sub_one_eq_mod x.toNat 4
end Go.Hx
