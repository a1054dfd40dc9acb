/- A journal's bytes, read: plain lists. No program. -/
import Derived.Test.YtpcgpnijhpcbeaaPlainCrc
import Derived.Test.YtpcgpnijhpcbeaaPlainDig
set_option linter.unusedVariables false
set_option linter.unusedSimpArgs false
namespace Go.Hx
open Go.Eng
def chunks (k : Nat) (l : List UInt8) : List (List UInt8) := (List.range k).map fun i => (l.drop (32 * i)).take 32
theorem chunks_length (k : Nat) (l : List UInt8) : (chunks k l).length = k := by simp [chunks]
theorem chunks_succ (k : Nat) (l : List UInt8) : chunks (k + 1) l = chunks k l ++ [(l.drop (32 * k)).take 32] := by simp [chunks, List.range_succ]
theorem chunks_D32 {k : Nat} {l : List UInt8} (h : 32 * k ≤ l.length) : D32 (chunks k l) := by
  intro x hx
  simp only [chunks, List.mem_map, List.mem_range] at hx
  obtain ⟨i, hi, rfl⟩ := hx
  rw [List.length_take, List.length_drop]
  omega
theorem chunks_flatten {k : Nat} {l : List UInt8} (h : 32 * k ≤ l.length) : (chunks k l).flatten = l.take (32 * k) := by
  induction k with
  | zero => simp [chunks]
  | succ k ih =>
    rw [chunks_succ, List.flatten_append, ih (by omega)]
    simp only [List.flatten_cons, List.flatten_nil, List.append_nil]
    rw [show 32 * (k + 1) = 32 * k + 32 by omega, List.take_add]
/-- the number of four bytes, the lowest one first -/
def num4 (l : List UInt8) : Nat := (l.getD 0 0).toNat + 256 * (l.getD 1 0).toNat + 65536 * (l.getD 2 0).toNat + 16777216 * (l.getD 3 0).toNat
theorem num4_lt (l : List UInt8) : num4 l < 4294967296 := by
  have h0 := (l.getD 0 0).toNat_lt
  have h1 := (l.getD 1 0).toNat_lt
  have h2 := (l.getD 2 0).toNat_lt
  have h3 := (l.getD 3 0).toNat_lt
  unfold num4
  omega
theorem le4_num4 {l : List UInt8} (h : l.length = 4) : le4 (num4 l) = l := by
  match l, h with
  | [a, b, c, d], _ =>
    have h0 := a.toNat_lt
    have h1 := b.toNat_lt
    have h2 := c.toNat_lt
    have h3 := d.toNat_lt
    have e : ∀ (x : Nat) (u : UInt8), x % 256 = u.toNat → UInt8.ofNat x = u := fun x u hx => by
      apply UInt8.toNat_inj.1
      rw [UInt8.toNat_ofNat']
      exact hx
    simp only [le4, num4, List.getD_cons_zero, List.getD_cons_succ]
    rw [e _ a (by omega), e _ b (by omega), e _ c (by omega), e _ d (by omega)]
theorem num4_le4 {n : Nat} (h : n < 4294967296) : num4 (le4 n) = n := by
  simp only [le4, num4, List.getD_cons_zero, List.getD_cons_succ, UInt8.toNat_ofNat']
  omega
theorem putL_inj {a b : List UInt8} (h : putL a = putL b) : a = b := by
  have hl : a.length = b.length := by
    have := congrArg List.length h
    rw [putL_length, putL_length] at this
    omega
  have := congrArg (List.take a.length) h
  unfold putL at this
  rw [List.take_left] at this
  rw [hl, List.take_left] at this
  exact this
end Go.Hx
