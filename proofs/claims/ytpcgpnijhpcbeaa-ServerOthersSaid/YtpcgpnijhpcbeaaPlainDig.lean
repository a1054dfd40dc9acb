/- Lists of digests in a row: plain lists. No program. -/
import Derived.Test.YtpcgpnijhpcbeaaPlain3
import Derived.Test.YtpcgpnijhpcbeaaEng7
set_option linter.unusedVariables false
set_option linter.unusedSimpArgs false
namespace Go.Hx
open Go.Eng
abbrev D32 (ds : List (List UInt8)) : Prop := ∀ d ∈ ds, d.length = 32
def dput : List (List UInt8) → List UInt8 → List (List UInt8)
  | [], d => [d]
  | a :: r, d => if cb a d < 0 then a :: dput r d else if a = d then a :: r else d :: a :: r
theorem dput_at : ∀ (ds : List (List UInt8)) (d : List UInt8) (k : Nat), k ≤ ds.length → (∀ i, i < k → cb (ds.getD i []) d < 0) → (k < ds.length → ¬ cb (ds.getD k []) d < 0) →
    dput ds d = if k < ds.length ∧ ds.getD k [] = d then ds else ds.take k ++ [d] ++ ds.drop k
  | [], d, k, hk, _, _ => by
    obtain rfl : k = 0 := by simpa using hk
    simp [dput]
  | a :: r, d, 0, _, _, h => by
    have h0 := h (by simp)
    simp only [List.getD_cons_zero] at h0
    simp only [dput, if_neg h0, List.getD_cons_zero, List.take_zero, List.nil_append, List.drop_zero, List.singleton_append, List.length_cons, Nat.zero_lt_succ, true_and]
  | a :: r, d, k + 1, hk, h1, h2 => by
    have ha := h1 0 (by omega)
    simp only [List.getD_cons_zero] at ha
    have ih := dput_at r d k (by simpa using hk) (fun i hi => by have := h1 (i + 1) (by omega); simpa using this) (fun hl => by have := h2 (by simpa using hl); simpa using this)
    simp only [dput, if_pos ha, ih, List.getD_cons_succ, List.length_cons, Nat.succ_lt_succ_iff, List.take_succ_cons, List.drop_succ_cons, List.cons_append]
    split <;> rfl
theorem dput_length (ds : List (List UInt8)) (d : List UInt8) : ds.length ≤ (dput ds d).length ∧ (dput ds d).length ≤ ds.length + 1 := by
  induction ds with
  | nil => simp [dput]
  | cons a r ih =>
    simp only [dput]
    split
    · simp only [List.length_cons]; omega
    · split <;> simp
theorem dput_D32 {ds : List (List UInt8)} {d : List UInt8} (h : D32 ds) (hd : d.length = 32) : D32 (dput ds d) := by
  induction ds with
  | nil => intro x hx; simp [dput] at hx; subst hx; exact hd
  | cons a r ih =>
    have ih' := ih (fun x hx => h x (List.mem_cons_of_mem _ hx))
    have ha := h a (List.mem_cons_self ..)
    intro x hx
    simp only [dput] at hx
    split at hx
    · rcases List.mem_cons.1 hx with rfl | hx
      · exact ha
      · exact ih' x hx
    · split at hx
      · exact h x hx
      · rcases List.mem_cons.1 hx with rfl | hx
        · exact hd
        · exact h x hx
/-- each ahead of the next -/
def Rise : List (List UInt8) → Prop
  | [] => True
  | [_] => True
  | a :: b :: r => cb a b < 0 ∧ Rise (b :: r)
instance : (l : List (List UInt8)) → Decidable (Rise l)
  | [] => isTrue trivial
  | [_] => isTrue trivial
  | a :: b :: r => @instDecidableAnd (cb a b < 0) (Rise (b :: r)) inferInstance (instDecidableRise (b :: r))
theorem rise_take_succ : ∀ (l : List (List UInt8)) (k : Nat), 0 < k → k < l.length → (Rise (l.take (k + 1)) ↔ Rise (l.take k) ∧ cb (l.getD (k - 1) []) (l.getD k []) < 0)
  | [], k, _, h => by simp at h
  | [_], k, h0, h => by simp at h; omega
  | a :: b :: r, 1, _, _ => by simp [Rise]
  | a :: b :: r, k + 2, _, h => by
    have ih := rise_take_succ (b :: r) (k + 1) (by omega) (by simpa using h)
    simp only [List.take_succ_cons] at ih ⊢
    simp only [Rise, ih, List.getD_cons_succ]
    have e : k + 2 - 1 = (k + 1 - 1) + 1 := by omega
    rw [e, List.getD_cons_succ, and_assoc]
theorem rise_take {l : List (List UInt8)} {k : Nat} (h : ¬ Rise (l.take k)) : ¬ Rise l := by
  intro hr
  apply h
  clear h
  induction l generalizing k with
  | nil => simp [Rise]
  | cons a r ih =>
    cases k with
    | zero => simp [Rise]
    | succ k =>
      cases r with
      | nil => simp [Rise]
      | cons b r =>
        have := ih (k := k) hr.2
        cases k with
        | zero => simp [Rise]
        | succ k =>
          simp only [List.take_succ_cons] at this ⊢
          exact ⟨hr.1, this⟩
/-- what is behind the first -/
theorem dput_head {a : List UInt8} {r : List (List UInt8)} {d : List UInt8} {x : List UInt8} (hr : Rise (x :: a :: r)) (hx : cb x d < 0) : ∃ y s, dput (a :: r) d = y :: s ∧ cb x y < 0 := by
  simp only [dput]
  split
  · exact ⟨_, _, rfl, hr.1⟩
  · split
    · exact ⟨_, _, rfl, hr.1⟩
    · exact ⟨_, _, rfl, hx⟩
theorem dput_rise : ∀ (l : List (List UInt8)) (d : List UInt8), Rise l → Rise (dput l d)
  | [], d, _ => by simp [dput, Rise]
  | [a], d, _ => by
    simp only [dput]
    split
    · rename_i h; exact ⟨h, trivial⟩
    · split
      · trivial
      · rename_i h1 h2
        refine ⟨?_, trivial⟩
        have h3 := cb_neg a d
        have h4 : cb a d ≠ 0 := fun h => h2 (cb_eq _ _ h)
        omega
  | a :: b :: r, d, h => by
    by_cases h1 : cb a d < 0
    · obtain ⟨y, s, e, hy⟩ := dput_head h h1
      have ih := dput_rise (b :: r) d h.2
      have e2 : dput (a :: b :: r) d = a :: dput (b :: r) d := by rw [dput, if_pos h1]
      rw [e2, e]
      rw [e] at ih
      exact ⟨hy, ih⟩
    · by_cases h2 : a = d
      · have e2 : dput (a :: b :: r) d = a :: b :: r := by rw [dput, if_neg h1, if_pos h2]
        rw [e2]; exact h
      · have e2 : dput (a :: b :: r) d = d :: a :: b :: r := by rw [dput, if_neg h1, if_neg h2]
        rw [e2]
        refine ⟨?_, h⟩
        have h3 := cb_neg a d
        have h4 : cb a d ≠ 0 := fun h => h2 (cb_eq _ _ h)
        omega
end Go.Hx
