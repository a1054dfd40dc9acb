/- The number of four bytes, read from the highest one down. No program. -/
import Derived.Test.YtpcgpnijhpcbeaaPlainRead
import Derived.Laws.BitsAllLaws
set_option linter.unusedVariables false
namespace Go.Hx
open Go.Eng
/-- what is read of j bytes, the highest one first -/
def acc (l : List UInt8) : Nat → Nat
  | 0 => 0
  | j + 1 => acc l j * 256 + (l.getD (3 - j) 0).toNat
theorem acc_lt (l : List UInt8) : ∀ j, acc l j < 256 ^ j
  | 0 => by simp [acc]
  | j + 1 => by
    have h1 := acc_lt l j
    have h2 := (l.getD (3 - j) 0).toNat_lt
    rw [acc, Nat.pow_succ]
    omega
theorem acc_le (l : List UInt8) {j : Nat} (h : j ≤ 4) : acc l j < 4294967296 := by
  have h1 := acc_lt l j
  have h2 : 256 ^ j ≤ 256 ^ 4 := Nat.pow_le_pow_right (by decide) h
  have h3 : 256 ^ 4 = 4294967296 := by decide
  omega
theorem acc4 (l : List UInt8) : acc l 4 = num4 l := by
  have e : (3 - 0 = 3) ∧ (3 - 1 = 2) ∧ (3 - 2 = 1) ∧ (3 - 3 = 0) := by decide
  simp only [acc, num4, e.1, e.2.1, e.2.2.1, e.2.2.2]
  omega
theorem or_byte (a b : Nat) (ha : a < 4294967296) (hb : b < 256) : bits .or .i64 (a * 256 : Int) (b : Int) = ((a * 256 + b : Nat) : Int) := by
  have h1 : (a * 256 : Int) = ((a * 256 : Nat) : Int) := by simp
  have h2 : a * 256 ||| b = a * 256 + b := by rw [Nat.mul_comm a 256, show 256 = 2 ^ 8 from rfl, Nat.two_pow_add_eq_or_of_lt (by simpa using hb)]
  have e0 : ∀ n : Nat, n < 18446744073709551616 → (BitVec.ofInt 64 (n : Int)).toNat = n := fun n hn => by
    rw [BitVec.toNat_ofInt]
    simp
    omega
  rw [h1]
  show IntKind.i64.wrap ((BitVec.ofInt 64 ((a * 256 : Nat) : Int) ||| BitVec.ofInt 64 (b : Int)).toNat : Int) = _
  rw [BitVec.toNat_or, e0 _ (by omega), e0 _ (by omega), h2]
  exact w64 (by omega) (by omega)
end Go.Hx
