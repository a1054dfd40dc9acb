/- Numbers as digests, in a row. No program. -/
import Derived.Test.YtpcgpnijhpcbeaaPlainDig
set_option linter.unusedVariables false
set_option linter.unusedSimpArgs false
namespace Go.Hx
open Go.Eng
def dg (m : Nat) : List UInt8 := UInt8.ofNat (m / 256) :: UInt8.ofNat (m % 256) :: List.replicate 30 0
theorem dg_length (m : Nat) : (dg m).length = 32 := by simp [dg]
theorem u8lt {a b : Nat} (ha : a < 256) (hb : b < 256) : UInt8.ofNat a < UInt8.ofNat b ↔ a < b := by
  show (UInt8.ofNat a).toNat < (UInt8.ofNat b).toNat ↔ _
  rw [UInt8.toNat_ofNat', UInt8.toNat_ofNat', Nat.mod_eq_of_lt ha, Nat.mod_eq_of_lt hb]
theorem cb_dg {a b : Nat} (ha : a < 65536) (hb : b < 65536) : (cb (dg a) (dg b) < 0 ↔ a < b) := by
  unfold dg
  rw [cb_cons, cb_cons, cb_self]
  simp only [u8lt (show a / 256 < 256 by omega) (show b / 256 < 256 by omega), u8lt (show b / 256 < 256 by omega) (show a / 256 < 256 by omega), u8lt (show a % 256 < 256 by omega) (show b % 256 < 256 by omega), u8lt (show b % 256 < 256 by omega) (show a % 256 < 256 by omega)]
  split
  · simp; omega
  · split
    · simp; omega
    · split
      · simp; omega
      · split
        · simp; omega
        · simp; omega
/-- s, s+1, .. -/
def run (s n : Nat) : List (List UInt8) := (List.range' s n).map dg
theorem run_length (s n : Nat) : (run s n).length = n := by simp [run]
theorem run_get {s n i : Nat} (h : i < n) : (run s n).getD i [] = dg (s + i) := by
  simp [run, List.getD, List.getElem?_map, List.getElem?_range', h]
theorem run_D32 (s n : Nat) : D32 (run s n) := by
  intro x hx
  simp only [run, List.mem_map] at hx
  obtain ⟨m, _, rfl⟩ := hx
  exact dg_length m
theorem run_rise {s : Nat} : ∀ {n : Nat}, s + n ≤ 65536 → Rise (run s n)
  | 0, _ => trivial
  | 1, _ => trivial
  | n + 2, h => by
    have ih := run_rise (s := s + 1) (n := n + 1) (by omega)
    show Rise (dg s :: dg (s + 1) :: (List.range' (s + 1 + 1) n).map dg)
    exact ⟨(cb_dg (by omega) (by omega)).2 (by omega), ih⟩
theorem run_snoc (s n : Nat) : run s (n + 1) = run s n ++ [dg (s + n)] := by
  simp [run, List.range'_concat]
theorem dput_end {s n : Nat} (h : s + n < 65536) : dput (run s n) (dg (s + n)) = run s (n + 1) := by
  rw [dput_at (run s n) (dg (s + n)) n (by rw [run_length]; exact Nat.le_refl _) (fun i hi => by rw [run_get hi]; exact (cb_dg (by omega) (by omega)).2 (by omega)) (fun hk => by rw [run_length] at hk; omega)]
  rw [if_neg (by rw [run_length]; omega), List.take_of_length_le (by rw [run_length]; exact Nat.le_refl _), List.drop_of_length_le (by rw [run_length]; exact Nat.le_refl _), run_snoc]
  simp
theorem dput_front {s n : Nat} (h : s + 1 + n ≤ 65536) : dput (run (s + 1) n) (dg s) = run s (n + 1) := by
  have hne : ∀ i, i < n → (run (s + 1) n).getD i [] ≠ dg s := fun i hi he => by
    rw [run_get hi] at he
    have h1 : ¬ cb (dg s) (dg (s + 1 + i)) < 0 := by rw [he, cb_self]; omega
    exact h1 ((cb_dg (by omega) (by omega)).2 (by omega))
  rw [dput_at (run (s + 1) n) (dg s) 0 (Nat.zero_le _) (fun i hi => absurd hi (by omega)) (fun hk => by
    rw [run_length] at hk
    rw [run_get hk]
    exact fun hc => absurd ((cb_dg (by omega) (by omega)).1 hc) (by omega))]
  rw [if_neg (by rintro ⟨h1, h2⟩; rw [run_length] at h1; exact hne 0 h1 h2)]
  simp [run, List.range'_succ]
theorem not_mem_run {s n m : Nat} (h : s + n ≤ 65536) (hm : m < 65536) (ho : m < s ∨ s + n ≤ m) : ¬ dg m ∈ run s n := by
  intro hmem
  simp only [run, List.mem_map, List.mem_range'_1] at hmem
  obtain ⟨q, hq, he⟩ := hmem
  have h1 : ¬ cb (dg q) (dg m) < 0 := by rw [he, cb_self]; omega
  have h2 : ¬ cb (dg m) (dg q) < 0 := by rw [he, cb_self]; omega
  rw [cb_dg (by omega) hm] at h1
  rw [cb_dg hm (by omega)] at h2
  omega
end Go.Hx
