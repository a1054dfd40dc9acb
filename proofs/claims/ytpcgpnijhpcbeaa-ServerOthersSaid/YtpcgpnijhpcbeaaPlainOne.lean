/- One byte that is another one makes another check. No program. -/
import Derived.Test.YtpcgpnijhpcbeaaPlainRead
set_option linter.unusedVariables false
namespace Go.Hx
open Go.Eng
theorem xor_inj {a b c : Nat} (h : a ^^^ c = b ^^^ c) : a = b := by
  have := congrArg (· ^^^ c) h
  simpa [Nat.xor_assoc, Nat.xor_self] using this
theorem xor_inj' {a b c : Nat} (h : c ^^^ a = c ^^^ b) : a = b := by
  rw [Nat.xor_comm c a, Nat.xor_comm c b] at h; exact xor_inj h
theorem poly_top {y : Nat} (hy : y < 2147483648) : 2147483648 ≤ y ^^^ 2197175160 := by
  have hb : (y ^^^ 2197175160).testBit 31 = true := by
    rw [Nat.testBit_xor, Nat.testBit_lt_two_pow (show y < 2 ^ 31 by omega)]
    decide
  exact Nat.ge_two_pow_of_testBit hb
theorem cstep_inj {x y : Nat} (hx : x < 4294967296) (hy : y < 4294967296) (h : cstep x = cstep y) : x = y := by
  unfold cstep at h
  have px := poly_top (show x / 2 < 2147483648 by omega)
  have py := poly_top (show y / 2 < 2147483648 by omega)
  split at h <;> split at h
  · have := xor_inj h; omega
  · omega
  · omega
  · omega
theorem csteps_inj {x y : Nat} (hx : x < 4294967296) (hy : y < 4294967296) : ∀ n, csteps n x = csteps n y → x = y
  | 0, h => h
  | n + 1, h => csteps_inj hx hy n (cstep_inj (csteps_lt hx n) (csteps_lt hy n) h)
theorem xb_lt {x : Nat} (h : x < 4294967296) (b : UInt8) : x ^^^ b.toNat < 4294967296 := xor_byte_lt h b
theorem cmore_inj : ∀ (l : List UInt8) {x y : Nat}, x < 4294967296 → y < 4294967296 → cmore x l = cmore y l → x = y
  | [], _, _, _, _, h => h
  | a :: r, x, y, hx, hy, h => by
    have h1 : cmore (csteps 8 (x ^^^ a.toNat)) r = cmore (csteps 8 (y ^^^ a.toNat)) r := h
    exact xor_inj (csteps_inj (xb_lt hx a) (xb_lt hy a) 8 (cmore_inj r (csteps_lt (xb_lt hx a) 8) (csteps_lt (xb_lt hy a) 8) h1))
theorem cmore_one : ∀ (l : List UInt8) (k : Nat) (b : UInt8) {x : Nat}, x < 4294967296 → k < l.length → cmore x (l.set k b) = cmore x l → b = l.getD k 0
  | [], k, b, x, _, hk, _ => by simp at hk
  | a :: r, 0, b, x, hx, _, h => by
    have h1 : cmore (csteps 8 (x ^^^ b.toNat)) r = cmore (csteps 8 (x ^^^ a.toNat)) r := h
    have := xor_inj' (csteps_inj (xb_lt hx b) (xb_lt hx a) 8 (cmore_inj r (csteps_lt (xb_lt hx b) 8) (csteps_lt (xb_lt hx a) 8) h1))
    exact UInt8.toNat_inj.1 this
  | a :: r, k + 1, b, x, hx, hk, h => by
    have h1 : cmore (csteps 8 (x ^^^ a.toNat)) (r.set k b) = cmore (csteps 8 (x ^^^ a.toNat)) r := h
    simpa using cmore_one r k b (csteps_lt (xb_lt hx a) 8) (by simpa using hk) h1
theorem le4_inj {m n : Nat} (hm : m < 4294967296) (hn : n < 4294967296) (h : le4 m = le4 n) : m = n := by
  rw [← num4_le4 hm, ← num4_le4 hn, h]
/-- one byte of a row with its check was made another one -/
theorem putL_one (l : List UInt8) (k : Nat) (b : UInt8) (hk : k < l.length + 4) (hb : b ≠ (putL l).getD k 0) : putL (((putL l).set k b).take l.length) ≠ (putL l).set k b := by
  intro h
  by_cases hkl : k < l.length
  · have e1 : (putL l).set k b = l.set k b ++ le4 (crcSum l) := by rw [putL, List.set_append, if_pos hkl]
    rw [e1, List.take_append_of_le_length (by simp), List.take_of_length_le (by simp)] at h
    have h2 : le4 (crcSum (l.set k b)) = le4 (crcSum l) := List.append_cancel_left h
    have h3 := le4_inj (crcSum_lt _) (crcSum_lt _) h2
    unfold crcSum at h3
    have l1 := cmore_lt (n := 4294967295) (by decide) (l.set k b)
    have l2 := cmore_lt (n := 4294967295) (by decide) l
    have h4 := cmore_one l k b (x := 4294967295) (by decide) hkl (by omega)
    apply hb
    rw [h4, putL]
    simp [List.getD, List.getElem?_append_left hkl]
  · have e1 : (putL l).set k b = l ++ (le4 (crcSum l)).set (k - l.length) b := by rw [putL, List.set_append, if_neg hkl]
    rw [e1, List.take_append_of_le_length (by simp), List.take_of_length_le (by simp)] at h
    have h2 : le4 (crcSum l) = (le4 (crcSum l)).set (k - l.length) b := List.append_cancel_left h
    have h3 := congrArg (fun q => q.getD (k - l.length) 0) h2
    apply hb
    have hlen : k - l.length < (le4 (crcSum l)).length := by rw [le4_length]; omega
    rw [putL]
    simp only [List.getD, List.getElem?_append_right (show l.length ≤ k by omega)] at h3 ⊢
    rw [h3, List.getElem?_set_self hlen]
    rfl
end Go.Hx
