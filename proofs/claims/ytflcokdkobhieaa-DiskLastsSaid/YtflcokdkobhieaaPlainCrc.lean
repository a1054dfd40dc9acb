/- The check sum, over plain lists. No program. -/
import Derived.Test.YtflcokdkobhieaaEng7
set_option linter.unusedVariables false
set_option linter.unusedSimpArgs false
namespace Go.Hx
open Go.Eng
def cstep (x : Nat) : Nat := if x % 2 = 1 then (x / 2) ^^^ 2197175160 else x / 2
theorem cstep_lt {x : Nat} (h : x < 4294967296) : cstep x < 4294967296 := by
  unfold cstep
  split
  · exact Nat.xor_lt_two_pow (n := 32) (by omega) (by decide)
  · omega
def csteps : Nat → Nat → Nat
  | 0, x => x
  | n + 1, x => cstep (csteps n x)
theorem csteps_lt {x : Nat} (h : x < 4294967296) : ∀ n, csteps n x < 4294967296
  | 0 => h
  | n + 1 => cstep_lt (csteps_lt h n)
def cmore (n : Nat) (l : List UInt8) : Nat := l.foldl (fun n b => csteps 8 (n ^^^ b.toNat)) n
theorem cmore_lt {n : Nat} (h : n < 4294967296) : ∀ l : List UInt8, cmore n l < 4294967296 := by
  intro l
  induction l generalizing n with
  | nil => exact h
  | cons a r ih => exact ih (csteps_lt (Nat.xor_lt_two_pow (n := 32) h (by have := a.toNat_lt; omega)) 8)
theorem cmore_snoc (n : Nat) (l : List UInt8) (b : UInt8) : cmore n (l ++ [b]) = csteps 8 (cmore n l ^^^ b.toNat) := by simp [cmore]
theorem xor_ones {m : Nat} (h : m < 4294967296) : 4294967295 ^^^ m = 4294967295 - m := by
  have h1 : (BitVec.allOnes 32 ^^^ BitVec.ofNat 32 m) = ~~~ BitVec.ofNat 32 m := BitVec.allOnes_xor
  have h2 := congrArg BitVec.toNat h1
  rw [BitVec.toNat_xor, BitVec.toNat_not, BitVec.toNat_allOnes, BitVec.toNat_ofNat, Nat.mod_eq_of_lt h] at h2
  exact h2
def crcSum (l : List UInt8) : Nat := 4294967295 - cmore 4294967295 l
theorem crcSum_lt (l : List UInt8) : crcSum l < 4294967296 := by unfold crcSum; omega
/-- four bytes of a number, the lowest one first -/
def le4 (n : Nat) : List UInt8 := [UInt8.ofNat n, UInt8.ofNat (n / 256), UInt8.ofNat (n / 65536), UInt8.ofNat (n / 16777216)]
def shr8 : Nat → Nat → Nat
  | 0, n => n
  | k + 1, n => shr8 k n / 256
def lek (k n : Nat) : List UInt8 := (List.range k).map fun i => UInt8.ofNat (shr8 i n)
theorem lek_succ (k n : Nat) : lek (k + 1) n = lek k n ++ [UInt8.ofNat (shr8 k n)] := by simp [lek, List.range_succ]
theorem lek_four (n : Nat) : lek 4 n = le4 n := by
  simp only [lek, List.range_succ, List.range_zero, List.nil_append, List.cons_append, List.map_cons, List.map_nil, shr8, le4, Nat.div_div_eq_div_mul]
theorem shr8_lt {n b : Nat} (h : n < b) : ∀ k, shr8 k n < b
  | 0 => h
  | k + 1 => by have := shr8_lt h k; simp only [shr8]; omega
theorem le4_length (n : Nat) : (le4 n).length = 4 := rfl
def putL (l : List UInt8) : List UInt8 := l ++ le4 (crcSum l)
theorem putL_length (l : List UInt8) : (putL l).length = l.length + 4 := by simp [putL, le4_length]
theorem step_bits (x : Nat) (h : x < 4294967296) : (x / 2) ^^^ (2197175160 * (x % 2)) = cstep x := by
  unfold cstep
  split
  · rename_i h1; rw [h1]
  · rename_i h1
    have : x % 2 = 0 := by omega
    rw [this]; simp
theorem u8mod (n : Nat) : IntKind.u8.wrap (n : Int) = ((UInt8.ofNat n).toNat : Int) := by
  simp [IntKind.wrap, IntKind.signed, IntKind.bits]
theorem and1 (x : Nat) (h : x < 4294967296) : bits .and .u32 (x : Int) 1 = ((x % 2 : Nat) : Int) := by
  have := u32_and_nat x 1 h (by decide)
  rw [Nat.and_one_is_mod] at this
  exact this
theorem xor_step (x : Nat) (h : x < 4294967296) : bits .xor .u32 ((x : Int) / 2) (2197175160 * ((x % 2 : Nat) : Int)) = ((cstep x : Nat) : Int) := by
  have h2 : x % 2 = 0 ∨ x % 2 = 1 := by omega
  have h3 : 2197175160 * (x % 2) < 4294967296 := by rcases h2 with h2 | h2 <;> rw [h2] <;> decide
  have := u32_xor_nat (x / 2) (2197175160 * (x % 2)) (by omega) h3
  rw [step_bits x h] at this
  rw [← this]
  congr 1
theorem xor_byte (x : Nat) (h : x < 4294967296) (b : UInt8) : bits .xor .u32 (x : Int) (b.toNat : Int) = ((x ^^^ b.toNat : Nat) : Int) := u32_xor_nat x b.toNat h (by have := b.toNat_lt; omega)
theorem xor_poly (x : Nat) (h : x < 4294967296) : bits .xor .u32 ((x : Int) / 2) 2197175160 = (((x / 2) ^^^ 2197175160 : Nat) : Int) := u32_xor_nat (x / 2) 2197175160 (by omega) (by decide)
theorem xor_byte_lt {x : Nat} (h : x < 4294967296) (b : UInt8) : x ^^^ b.toNat < 4294967296 := Nat.xor_lt_two_pow (n := 32) h (by have := b.toNat_lt; omega)
end Go.Hx
