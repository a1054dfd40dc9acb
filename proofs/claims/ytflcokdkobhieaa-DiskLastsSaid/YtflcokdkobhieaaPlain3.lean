/- How bytes stand: plain lists; and the entry of bytes.Compare over slices. No program. -/
import Derived.Test.YtflcokdkobhieaaPlain2
import Derived.Lib.BytesEntry
set_option linter.unusedVariables false
set_option linter.unusedSimpArgs false
namespace Go.Hx
open Go.Eng
abbrev cb := Lib.compareBytes
theorem u8_tri (a b : UInt8) : a < b ∨ a = b ∨ b < a := by
  rcases Nat.lt_trichotomy a.toNat b.toNat with h | h | h
  · exact .inl h
  · exact .inr (.inl (UInt8.toNat_inj.1 h))
  · exact .inr (.inr h)
theorem cb_self : ∀ a : List UInt8, cb a a = 0
  | [] => rfl
  | x :: a => by simp [cb, Lib.compareBytes, UInt8.lt_irrefl]; exact cb_self a
theorem cb_cons (x y : UInt8) (a b : List UInt8) : cb (x :: a) (y :: b) = if x < y then -1 else if y < x then 1 else cb a b := rfl
theorem u8_asymm {x y : UInt8} (h : x < y) : ¬ y < x := by
  have : x.toNat < y.toNat := h
  intro h'
  have : y.toNat < x.toNat := h'
  omega
theorem cb_neg : ∀ a b : List UInt8, cb b a = - cb a b
  | [], [] => rfl
  | [], _ :: _ => rfl
  | _ :: _, [] => rfl
  | x :: a, y :: b => by
    rw [cb_cons, cb_cons]
    have ih := cb_neg a b
    rcases u8_tri x y with h | h | h
    · rw [if_neg (u8_asymm h), if_pos h, if_pos h]; rfl
    · subst h; simp [UInt8.lt_irrefl, ih]
    · rw [if_pos h, if_neg (u8_asymm h), if_pos h]
theorem cb_eq : ∀ a b : List UInt8, cb a b = 0 → a = b
  | [], [], _ => rfl
  | [], _ :: _, h => by simp [cb, Lib.compareBytes] at h
  | _ :: _, [], h => by simp [cb, Lib.compareBytes] at h
  | x :: a, y :: b, h => by
    rw [cb_cons] at h
    rcases u8_tri x y with h1 | h1 | h1
    · rw [if_pos h1] at h; omega
    · subst h1
      simp only [UInt8.lt_irrefl, if_false] at h
      rw [cb_eq a b h]
    · rw [if_neg (u8_asymm h1), if_pos h1] at h; omega
theorem cb_range : ∀ a b : List UInt8, -1 ≤ cb a b ∧ cb a b ≤ 1
  | [], [] => by decide
  | [], _ :: _ => by simp [cb, Lib.compareBytes]
  | _ :: _, [] => by simp [cb, Lib.compareBytes]
  | x :: a, y :: b => by
    rw [cb_cons]
    split
    · decide
    · split
      · decide
      · exact cb_range a b
theorem cb_trans : ∀ a b c : List UInt8, cb a b ≤ 0 → cb b c ≤ 0 → cb a c ≤ 0
  | [], b, [], _, _ => by simp [cb, Lib.compareBytes]
  | [], b, _ :: _, _, _ => by simp [cb, Lib.compareBytes]
  | x :: a, [], c, h, _ => by simp [cb, Lib.compareBytes] at h
  | x :: a, y :: b, [], _, h => by simp [cb, Lib.compareBytes] at h
  | x :: a, y :: b, z :: c, h, h' => by
    rw [cb_cons] at h h' ⊢
    rcases u8_tri x y with h1 | h1 | h1
    · rcases u8_tri y z with h2 | h2 | h2
      · have : x < z := by
          have a1 : x.toNat < y.toNat := h1
          have a2 : y.toNat < z.toNat := h2
          show x.toNat < z.toNat
          omega
        rw [if_pos this]; decide
      · subst h2; rw [if_pos h1]; decide
      · rw [if_neg (u8_asymm h2), if_pos h2] at h'; omega
    · subst h1
      simp only [UInt8.lt_irrefl, if_false] at h
      rcases u8_tri x z with h2 | h2 | h2
      · rw [if_pos h2]; decide
      · subst h2
        simp only [UInt8.lt_irrefl, if_false] at h' ⊢
        exact cb_trans a b c h h'
      · rw [if_neg (u8_asymm h2), if_pos h2] at h'; omega
    · rw [if_neg (u8_asymm h1), if_pos h1] at h; omega
theorem less_cb : ∀ a b : List UInt8, Op.bytesLess a b = decide (cb a b < 0)
  | [], [] => rfl
  | [], _ :: _ => rfl
  | _ :: _, [] => rfl
  | x :: a, y :: b => by
    rw [Op.bytesLess, cb_cons, less_cb a b]
    rcases u8_tri x y with h | h | h
    · simp [h]
    · subst h; simp [UInt8.lt_irrefl]
    · have h1 : ¬ x < y := u8_asymm h
      have h2 : (x == y) = false := by
        simp only [beq_eq_false_iff_ne, ne_eq]
        rintro rfl
        exact absurd h h1
      simp [h, h1, h2]
theorem cb_at : ∀ (a b : List UInt8) (k : Nat), a.take k = b.take k → k < a.length → k < b.length → cb a b = if a.getD k 0 < b.getD k 0 then -1 else if b.getD k 0 < a.getD k 0 then 1 else cb (a.drop (k + 1)) (b.drop (k + 1))
  | [], b, k, _, h, _ => by simp at h
  | _ :: _, [], k, _, _, h => by simp at h
  | x :: a, y :: b, 0, _, _, _ => by rw [cb_cons]; simp
  | x :: a, y :: b, k + 1, h, h1, h2 => by
    simp only [List.take_succ_cons, List.cons.injEq] at h
    obtain ⟨rfl, h⟩ := h
    rw [cb_cons]
    simp only [UInt8.lt_irrefl, if_false, List.getD_cons_succ, List.drop_succ_cons]
    exact cb_at a b k h (by simpa using h1) (by simpa using h2)
theorem cb_lt {a b : List UInt8} {k : Nat} (h : a.take k = b.take k) (h1 : k < a.length) (h2 : k < b.length) (hlt : a.getD k 0 < b.getD k 0) : cb a b = -1 := by rw [cb_at a b k h h1 h2, if_pos hlt]
theorem cb_gt {a b : List UInt8} {k : Nat} (h : a.take k = b.take k) (h1 : k < a.length) (h2 : k < b.length) (hlt : b.getD k 0 < a.getD k 0) : cb a b = 1 := by rw [cb_at a b k h h1 h2, if_neg (u8_asymm hlt), if_pos hlt]
theorem take_step {a b : List UInt8} {k : Nat} (h : a.take k = b.take k) (h1 : k < a.length) (h2 : k < b.length) (n1 : ¬ a.getD k 0 < b.getD k 0) (n2 : ¬ b.getD k 0 < a.getD k 0) : a.take (k + 1) = b.take (k + 1) := by
  rw [take_snoc h1, take_snoc h2, h]
  rcases u8_tri (a.getD k 0) (b.getD k 0) with h | h | h
  · exact absurd h n1
  · rw [h]
  · exact absurd h n2
theorem cb_pre (x : UInt8) (a b : List UInt8) : cb (x :: a) (x :: b) = cb a b := by rw [cb_cons]; simp [UInt8.lt_irrefl]
theorem hexd_lt : ∀ i j : Nat, i < 16 → j < 16 → (hexd.getD i 0 < hexd.getD j 0 ↔ i < j) := by
  have : ∀ i, i < 16 → ∀ j, j < 16 → (hexd.getD i 0 < hexd.getD j 0 ↔ i < j) := by decide +kernel
  exact fun i j hi hj => this i hi j hj
theorem cb_hexs : ∀ a b : List UInt8, cb (hexs a) (hexs b) = cb a b
  | [], [] => rfl
  | [], y :: b => by simp [hexs, hex1, cb, Lib.compareBytes]
  | x :: a, [] => by simp [hexs, hex1, cb, Lib.compareBytes]
  | x :: a, y :: b => by
    have e : ∀ (a : UInt8) (r : List UInt8), hexs (a :: r) = hexd.getD (a.toNat / 16) 0 :: hexd.getD (a.toNat % 16) 0 :: hexs r := by intro a r; simp [hexs, hex1]
    have hx := x.toNat_lt
    have hy := y.toNat_lt
    rw [e, e, cb_cons, cb_cons, cb_cons, cb_hexs a b]
    have l1 := hexd_lt (x.toNat / 16) (y.toNat / 16) (by omega) (by omega)
    have l2 := hexd_lt (y.toNat / 16) (x.toNat / 16) (by omega) (by omega)
    have l3 := hexd_lt (x.toNat % 16) (y.toNat % 16) (by omega) (by omega)
    have l4 := hexd_lt (y.toNat % 16) (x.toNat % 16) (by omega) (by omega)
    have m1 : (x < y) ↔ x.toNat < y.toNat := Iff.rfl
    have m2 : (y < x) ↔ y.toNat < x.toNat := Iff.rfl
    simp only [l1, l2, l3, l4, m1, m2]
    split
    · rw [if_pos (by omega)]
    · split
      · rw [if_neg (by omega), if_pos (by omega)]
      · split
        · rw [if_pos (by omega)]
        · split
          · rw [if_neg (by omega), if_pos (by omega)]
          · rw [if_neg (by omega), if_neg (by omega)]
/-- bytes read off cells -/
theorem run_bytes {P : Program} {w : World} {A : Option Addr} {n c : Nat} {l : List UInt8} (h : Rd w 1 A n (b8s l)) : (Extern.Bytes.bytesOf (.slice A n c)).run P w = .ok (strOf l) w := by
  have hl : l.length = n := by have := h.1; rw [b8s_length] at this; omega
  cases A with
  | none =>
    have : l = [] := by
      rcases Nat.eq_zero_or_pos n with h0 | h0
      · exact List.eq_nil_of_length_eq_zero (by omega)
      · exact absurd rfl (h.2.1 h0)
    subst this
    rfl
  | some a =>
    have hr := Lib.run_loadBytesX (P := P) (w := w) (l.map fun b => ((b.toNat : Nat) : Int)) a .empty (fun j x hx => by
      rw [List.getElem?_map, Option.map_eq_some_iff] at hx
      obtain ⟨u, hu, rfl⟩ := hx
      exact h.2.2 j (B8 u) (by simp [b8s, List.getElem?_map, hu]))
    have e : Lib.bytesOf (l.map fun b => ((b.toNat : Nat) : Int)) = l := by
      simp only [Lib.bytesOf, List.map_map]
      conv => rhs; rw [← List.map_id l]
      apply List.map_congr_left
      intro b _
      simp
    rw [e, List.length_map, hl] at hr
    simp only [Extern.Bytes.bytesOf]
    rw [hr]
    simp [strOf]
theorem run_compare {P : Program} {w : World} {A A' : Option Addr} {n c n' c' : Nat} {l l' : List UInt8} (h : Rd w 1 A n (b8s l)) (h' : Rd w 1 A' n' (b8s l')) : (Extern.BytealgCompare.compare #[.slice A n c, .slice A' n' c']).run P w = .ok (.int .i64 (cb l l')) w := by
  change Sem.run P (do pure (goInt (Extern.BytealgCompare.cmp (← Extern.Bytes.bytesOf (.slice A n c)) (← Extern.Bytes.bytesOf (.slice A' n' c'))))) w = _
  simp only [Sem.run_bind, Sem.run_pure, Result.andThen, run_bytes h, run_bytes h']
  rw [Lib.cmp_eq]
  rfl
end Go.Hx
