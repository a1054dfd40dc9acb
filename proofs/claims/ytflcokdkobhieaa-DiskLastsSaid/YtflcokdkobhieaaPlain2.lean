/- Reading digits: plain lists, no program. -/
import Derived.Test.YtflcokdkobhieaaPlain1
import Derived.Lib.Bytealg
set_option linter.unusedVariables false
set_option linter.unusedSimpArgs false
namespace Go.Hx
open Go.Eng
def dig (c : UInt8) : Int := if 48 ≤ c.toNat ∧ c.toNat ≤ 57 then (c.toNat : Int) - 48 else if 97 ≤ c.toNat ∧ c.toNat ≤ 102 then (c.toNat : Int) - 87 else -1
theorem dig_range (c : UInt8) : -1 ≤ dig c ∧ dig c ≤ 15 := by unfold dig; split <;> (try split) <;> omega
/-- pairs of digits -/
def unhex : List UInt8 → Option (List UInt8)
  | [] => some []
  | [_] => none
  | a :: b :: r => if dig a < 0 ∨ dig b < 0 then none else (unhex r).map (UInt8.ofNat (16 * (dig a).toNat + (dig b).toNat) :: ·)
theorem unhex_snoc : ∀ (l : List UInt8) (n : Nat) (a b : UInt8) (x : List UInt8), l.length = 2 * n → unhex l = some x → unhex (l ++ [a, b]) = if dig a < 0 ∨ dig b < 0 then none else some (x ++ [UInt8.ofNat (16 * (dig a).toNat + (dig b).toNat)])
  | [], n, a, b, x, _, h => by
    simp only [unhex, Option.some.injEq] at h
    subst h
    simp [unhex]
  | [c], n, a, b, x, hl, h => by simp at hl; omega
  | c :: d :: r, n, a, b, x, hl, h => by
    simp only [unhex] at h
    simp only [List.cons_append, unhex]
    split at h
    · cases h
    · rename_i hcd
      rw [if_neg hcd]
      simp only [Option.map_eq_some_iff] at h
      obtain ⟨y, hy, rfl⟩ := h
      rw [unhex_snoc r (n - 1) a b y (by simp at hl; omega) hy]
      split <;> simp
theorem unhex_none_append : ∀ (l m : List UInt8) (n : Nat), l.length = 2 * n → unhex l = none → unhex (l ++ m) = none
  | [], m, n, _, h => by simp [unhex] at h
  | [c], m, n, hl, h => by simp at hl; omega
  | c :: d :: r, m, n, hl, h => by
    simp only [unhex] at h
    simp only [List.cons_append, unhex]
    split at h
    · rename_i hcd; rw [if_pos hcd]
    · rename_i hcd
      rw [if_neg hcd]
      simp only [Option.map_eq_none_iff] at h
      rw [unhex_none_append r m (n - 1) (by simp at hl; omega) h]
      rfl
theorem unhex_odd : ∀ (l : List UInt8), l.length % 2 = 1 → unhex l = none
  | [], h => by simp at h
  | [_], _ => rfl
  | a :: b :: r, h => by
    simp only [unhex]
    split
    · rfl
    · rw [unhex_odd r (by simp at h; omega)]; rfl
theorem unhex_length : ∀ (l x : List UInt8), unhex l = some x → l.length = 2 * x.length
  | [], x, h => by simp [unhex] at h; subst h; rfl
  | [_], x, h => by simp [unhex] at h
  | a :: b :: r, x, h => by
    simp only [unhex] at h
    split at h
    · cases h
    · simp only [Option.map_eq_some_iff] at h
      obtain ⟨y, hy, rfl⟩ := h
      have := unhex_length r y hy
      simp; omega
theorem dig_hexd (k : Nat) (h : k < 16) : dig (hexd.getD k 0) = k := by
  revert k; decide
theorem unhex_hexs : ∀ (l : List UInt8), unhex (hexs l) = some l
  | [] => rfl
  | a :: r => by
    have ih := unhex_hexs r
    have ha := a.toNat_lt
    have h1 := dig_hexd (a.toNat / 16) (by omega)
    have h2 := dig_hexd (a.toNat % 16) (by omega)
    have e : hexs (a :: r) = hexd.getD (a.toNat / 16) 0 :: hexd.getD (a.toNat % 16) 0 :: hexs r := by simp [hexs, hex1]
    rw [e, unhex, h1, h2, if_neg (by omega), ih]
    simp only [Option.map_some, Int.toNat_natCast]
    congr 2
    have e2 : 16 * (a.toNat / 16) + a.toNat % 16 = a.toNat := by omega
    rw [e2]
    simp
theorem ofDigs (a b : UInt8) (ha : 0 ≤ dig a) (hb : 0 ≤ dig b) : 16 * dig a + dig b = ((UInt8.ofNat (16 * (dig a).toNat + (dig b).toNat)).toNat : Int) := by
  have h1 := dig_range a
  have h2 := dig_range b
  rw [UInt8.toNat_ofNat', Nat.mod_eq_of_lt (by omega)]
  omega
theorem take_two {l : List UInt8} {k : Nat} (h : 2 * k + 1 < l.length) : l.take (2 * (k + 1)) = l.take (2 * k) ++ [l.getD (2 * k) 0, l.getD (2 * k + 1) 0] := by
  have e : 2 * (k + 1) = 2 * k + 1 + 1 := by omega
  rw [e, take_snoc h, take_snoc (by omega)]
  simp
theorem hexs_inj {l m : List UInt8} (h : hexs l = hexs m) : l = m := by
  have := unhex_hexs l
  rw [h, unhex_hexs m] at this
  simpa using this.symm
/-- what strings.IndexByte tells of a digit -/
theorem indexByte_hexd (c : UInt8) : Lib.indexByte hexd c = dig c := by
  have h : ∀ n, n < 256 → Lib.indexByte hexd (UInt8.ofNat n) = dig (UInt8.ofNat n) := by decide +kernel
  have := h c.toNat c.toNat_lt
  rwa [UInt8.ofNat_toNat] at this
theorem or_dig (a b : Int) (ha : 0 ≤ a) (ha' : a < 16) (hb : 0 ≤ b) (hb' : b < 16) : bits .or .i64 (a * 16) b = 16 * a + b := by
  have h : ∀ n, n < 16 → ∀ m, m < 16 → bits .or .i64 (((n : Nat) : Int) * 16) ((m : Nat) : Int) = 16 * ((n : Nat) : Int) + ((m : Nat) : Int) := by decide +kernel
  have := h a.toNat (by omega) b.toNat (by omega)
  rwa [Int.toNat_of_nonneg ha, Int.toNat_of_nonneg hb] at this
end Go.Hx
