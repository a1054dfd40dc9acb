/- Contracts: bytes.Equal, crc.Take, the reference's Take, strings.CutPrefix. -/
import Derived.Test.YtpcgpnijhpcbeaaCrc
import Derived.Test.YtpcgpnijhpcbeaaEng11
set_option linter.unusedVariables false
set_option linter.unusedSimpArgs false
set_option maxRecDepth 20000
namespace Go.Proofs.Ytpcgpnijhpcbeaa
open Go.Eng Go.Hx
theorem bytesEqual (A : Option Addr) (n c : Nat) (l : List UInt8) (A' : Option Addr) (n' c' : Nat) (l' : List UInt8) (w : World) (hr : Rd w 1 A n (b8s l)) (hr' : Rd w 1 A' n' (b8s l')) :
    Calls Try.prog 77 #[.slice A n c, .slice A' n' c'] w fun e w' => e = .returned (.bool (decide (l = l'))) ∧ w = w' := by
  refine enter (N := 10) Try.func77 rfl rfl (by simp) ?_
  refine cseq <| creg <| nq (y_assign rfl) <| nend <| qthen <| cseq <| creg <| nq (y_move rfl) <| nq (y_b2s rfl Try.underlying29 Try.underlying5 Try.underlying9 hr) <| nq (y_move rfl) <| nq (y_b2s rfl Try.underlying29 Try.underlying5 Try.underlying9 hr') <| nq (y_seq rfl rfl) <| nq (y_assign rfl) <| nend <| qsub (sub_cons (t := 4) rfl <| sub_cons (t := 0) rfl <| sub_cons (t := 1) rfl <| sub_nil) <| qthen <| cret <| ?_
  refine ret1 trivial rfl rfl ⟨?_, rfl⟩
  simp only [strOf_inj]
/-- what Take tells: the body, or the error's number -/
def takeL (l : List UInt8) : Option (List UInt8) := if 4 ≤ l.length ∧ putL (l.take (l.length - 4)) = l then some (l.take (l.length - 4)) else none
def takeE (l : List UInt8) : Int := if l.length < 4 then 2 else if putL (l.take (l.length - 4)) = l then 0 else 7
theorem Rd.takeB {w : World} {A : Option Addr} {n : Nat} {l : List UInt8} (h : Rd w 1 A n (b8s l)) {k : Nat} (hk : k ≤ n) : Rd w 1 A k (b8s (l.take k)) := by
  have := Rd.take h hk
  rwa [Nat.mul_one, ← b8s_take] at this
theorem crcTake (A : Option Addr) (n c : Nat) (l : List UInt8) (w : World) (hr : Rd w 1 A n (b8s l)) (hc : n ≤ c) (hn : n ≤ 70368744177664) :
    Calls Try.prog 64 #[.slice A n c] w fun e w' => (∃ v, e = .returned (.tuple #[v, .int .i64 (takeE l)]) ∧ (takeE l = 0 → Own w' w.heap.size 5 1 v (n - 4) (b8s (l.take (n - 4))))) ∧ Fr No w w' := by
  have hl : l.length = n := by have := hr.1; rw [b8s_length] at this; omega
  refine enter (N := 21) Try.func64 rfl rfl (by simp) ?_
  refine cseq <| creg <| nq (y_assign rfl) <| nq (y_assign rfl) <| nend <| qthen <| cseq <| creg <| nq (y_move rfl) <| nq (y_lenS rfl Try.underlying29) <| nq (y_sub rfl rfl (w64 (by omega) (by omega))) <| nq (y_assign rfl) <| nend <| qsub (sub_cons (t := 4) rfl <| sub_cons (t := 3) rfl <| sub_cons (t := 2) rfl <| sub_cons (t := 0) rfl <| sub_nil) <| qthen <| cseq <| cseq <| creg <| nq (y_move rfl) <| nq (y_lss rfl rfl) <| nend <| qsub (sub_cons (t := 9) rfl <| sub_cons (t := 4) rfl <| sub_cons (t := 3) rfl <| sub_cons (t := 2) rfl <| sub_cons (t := 0) rfl <| sub_nil) <| qthen <| ?_
  refine cif rfl (fun h => ?_) (fun h => ?_)
  · refine cseq <| creg <| nq (y_assign rfl) <| nq (y_assign rfl) <| nend <| qthen <| cret <| qthen_ret <| ?_
    have e : takeE l = 2 := by rw [takeE, if_pos (by omega)]
    rw [e]
    exact ret2 trivial rfl rfl rfl ⟨⟨_, rfl, fun h => absurd h (by decide)⟩, Fr.refl _ _⟩
  · have rt := Rd.takeB hr (show n - 4 ≤ n by omega)
    refine cskip <| qthen <| cseq <| cseq <| creg <| nq (y_move rfl) <| nq (y_move rfl) <| nq (y_slTo rfl rfl Try.underlying29 sz5 (show ((n - 4 : Nat) : Int) = (n : Int) - 4 by omega) ((by omega))) <| ?_
    refine nx (x_call rfl Try.call56 (crcPut A (n - 4) c _ w rt (by omega)) ?_)
    rintro e_ w1 ⟨v1, rfl, ho1, hf1⟩
    refine ⟨_, rfl, ?_⟩
    obtain ⟨A1, c1, rfl, hc1⟩ := ho1.slice
    refine nq (y_move rfl) <| ?_
    refine nx (x_call rfl Try.call77 (bytesEqual _ _ _ _ _ _ _ _ _ (Own.rd ho1).2.2 (hr.fr0 hf1)) ?_)
    rintro e_ w2 ⟨rfl, rfl⟩
    refine ⟨_, rfl, ?_⟩
    refine nq ((y_notp rfl)) <| nend <| qsub (sub_cons (t := 16) rfl <| sub_cons (t := 9) rfl <| sub_cons (t := 4) rfl <| sub_cons (t := 3) rfl <| sub_cons (t := 2) rfl <| sub_cons (t := 0) rfl <| sub_nil) <| qthen <| ?_
    refine cif rfl (fun h2 => ?_) (fun h2 => ?_)
    · refine cseq <| creg <| nq (y_assign rfl) <| nq (y_assign rfl) <| nend <| qthen <| cret <| qthen_ret <| ?_
      have e : takeE l = 7 := by rw [takeE, if_neg (by omega), hl, if_neg h2]
      rw [e]
      exact ret2 trivial rfl rfl rfl ⟨⟨_, rfl, fun h => absurd h (by decide)⟩, hf1⟩
    · have h3 := Decidable.not_not.1 h2
      have e : takeE l = 0 := by rw [takeE, if_neg (by omega), hl, if_pos h3]
      refine cskip <| qthen <| cseq <| creg <| nq (y_move rfl) <| nq (y_move rfl) <| nq (y_slTo rfl rfl Try.underlying29 sz5 (show ((n - 4 : Nat) : Int) = (n : Int) - 4 by omega) ((by omega))) <| ?_
      refine nx (x_call rfl Try.call49 (clone A (n - 4) c _ _ (rt.fr0 hf1) (by omega)) ?_)
      rintro e_ w3 ⟨v3, rfl, ho3, hf3⟩
      refine ⟨_, rfl, ?_⟩
      refine nq (y_assign rfl) <| nq (y_assign rfl) <| nend <| qsub (sub_cons (t := 3) rfl <| sub_cons (t := 2) rfl <| sub_cons (t := 16) rfl <| sub_cons (t := 9) rfl <| sub_cons (t := 4) rfl <| sub_cons (t := 0) rfl <| sub_nil) <| qthen <| cret <| ?_
      rw [e]
      exact ret2 trivial rfl rfl rfl ⟨⟨_, rfl, fun _ => ho3.wide hf1.size⟩, hf1.trans0 hf3⟩
theorem rTake (A : Option Addr) (n c : Nat) (l : List UInt8) (w : World) (hr : Rd w 1 A n (b8s l)) (hc : n ≤ c) (hn : n ≤ 70368744177664) :
    Calls Try.prog 66 #[.slice A n c] w fun e w' => (∃ v, e = .returned (.tuple #[v, .int .i64 (takeE l)]) ∧ (takeE l = 0 → v = .slice A (n - 4) c ∧ Rd w 1 A (n - 4) (b8s (l.take (n - 4))))) ∧ Fr No w w' := by
  have hl : l.length = n := by have := hr.1; rw [b8s_length] at this; omega
  refine enter (N := 22) Try.func66 rfl rfl (by simp) ?_
  refine cseq <| creg <| nq (y_assign rfl) <| nq (y_assign rfl) <| nend <| qthen <| cseq <| cseq <| creg <| nq (y_move rfl) <| nq (y_lenS rfl Try.underlying29) <| nq (y_lss rfl rfl) <| nend <| qsub (sub_cons (t := 6) rfl <| sub_cons (t := 3) rfl <| sub_cons (t := 2) rfl <| sub_cons (t := 0) rfl <| sub_nil) <| qthen <| ?_
  refine cif rfl (fun h => ?_) (fun h => ?_)
  · refine cseq <| creg <| nq (y_assign rfl) <| nq (y_assign rfl) <| nend <| qthen <| cret <| qthen_ret <| ?_
    have e : takeE l = 2 := by rw [takeE, if_pos (by omega)]
    rw [e]
    exact ret2 trivial rfl rfl rfl ⟨⟨_, rfl, fun h => absurd h (by decide)⟩, Fr.refl _ _⟩
  · have rt := Rd.takeB hr (show n - 4 ≤ n by omega)
    refine cskip <| qthen <| cseq <| cseq <| ?_
    refine cdrw [(0, false), (1, false), (2, false), (3, false), (4, false), (7, false), (8, false), (5, true), (6, true), (9, false)] (by kernel_rfl) (by kernel_rfl) rfl (fun w' => Fr No w w') (Fr.drew _) (fun w1 hf1 hS1 => ?_)
    refine sq (fun w_ hS_ => y_move rfl) <| sq (fun w_ hS_ => y_move rfl) <| sq (fun w_ hS_ => y_lenS rfl Try.underlying29) <| sq (fun w_ hS_ => y_sub rfl rfl (w64 (by omega) (by omega))) <| sq (fun w_ hS_ => y_slTo rfl rfl Try.underlying29 sz5 (show ((n - 4 : Nat) : Int) = (n : Int) - 4 by omega) ((by omega))) <| sq (fun w_ hS_ => y_move rfl) <| sq (fun w_ hS_ => y_b2s rfl Try.underlying29 Try.underlying5 Try.underlying9 (hr.fr0 hS_)) <| ?_
    refine sx (x_call rfl Try.call36 (rcrcPut A (n - 4) c _ _ (rt.fr0 hS1) (by omega)) ?_)
    rintro e_ w2 ⟨v2, rfl, ho2, hf2⟩
    refine ⟨_, rfl, ?_⟩
    refine ⟨hS1.trans0 hf2, ?_⟩
    have hS2 := hS1.trans0 hf2
    obtain ⟨A2, c2, rfl, hc2⟩ := ho2.slice
    refine sy (hS2) (y_b2s rfl Try.underlying29 Try.underlying5 Try.underlying9 ((Own.rd ho2).2.2)) <| sq (fun w_ hS_ => y_sne rfl rfl) <| send <| qsub (sub_cons (t := 16) rfl <| sub_cons (t := 6) rfl <| sub_cons (t := 3) rfl <| sub_cons (t := 2) rfl <| sub_cons (t := 0) rfl <| sub_nil) <| qthen <| ?_
    refine cif rfl (fun h2 => ?_) (fun h2 => ?_)
    · have h2 : ¬ putL (l.take (n - 4)) = l := fun e => h2 (by rw [e])
      refine cseq <| creg <| nq (y_assign rfl) <| nq (y_assign rfl) <| nend <| qthen <| cret <| qthen_ret <| ?_
      have e : takeE l = 7 := by rw [takeE, if_neg (by omega), hl, if_neg h2]
      rw [e]
      exact ret2 trivial rfl rfl rfl ⟨⟨_, rfl, fun h => absurd h (by decide)⟩, hS2⟩
    · have h3 := strOf_inj.1 (Decidable.not_not.1 h2)
      have e : takeE l = 0 := by rw [takeE, if_neg (by omega), hl, if_pos h3]
      refine cskip <| qthen <| cseq <| creg <| nq (y_move rfl) <| nq (y_move rfl) <| nq (y_lenS rfl Try.underlying29) <| nq (y_sub rfl rfl (w64 (by omega) (by omega))) <| nq (y_slTo rfl rfl Try.underlying29 sz5 (show ((n - 4 : Nat) : Int) = (n : Int) - 4 by omega) ((by omega))) <| nq (y_assign rfl) <| nq (y_assign rfl) <| nend <| qsub (sub_cons (t := 3) rfl <| sub_cons (t := 2) rfl <| sub_cons (t := 16) rfl <| sub_cons (t := 6) rfl <| sub_cons (t := 0) rfl <| sub_nil) <| qthen <| cret <| ?_
      rw [e]
      exact ret2 trivial rfl rfl rfl ⟨⟨_, rfl, fun _ => ⟨rfl, rt⟩⟩, hS2⟩
theorem hasPrefix (s p : List UInt8) (w : World) (hs : s.length ≤ 70368744177664) (hp : p.length ≤ 70368744177664) :
    Calls Try.prog 85 #[.string (strOf s), .string (strOf p)] w fun e w' => e = .returned (.bool (decide (s.take p.length = p))) ∧ w = w' := by
  have h1 := strOf_size s
  have h2 := strOf_size p
  refine enter (N := 18) Try.func85 rfl rfl (by simp) ?_
  refine cseq <| creg <| nq (y_assign rfl) <| nend <| qthen <| cseq <| creg <| nq (y_move rfl) <| nq (y_lenStr rfl Try.underlying9) <| nq (y_move rfl) <| nq (y_lenStr rfl Try.underlying9) <| nq (y_geq rfl rfl) <| nq (y_move rfl) <| ?_
  refine nsplit 10 rfl (fun h => ?_) (fun h => ?_)
  · refine ng rfl rfl rfl (y_move rfl) <| ng rfl rfl rfl (y_move rfl) <| ng rfl rfl rfl (y_lenStr rfl Try.underlying9) <| ng rfl rfl rfl (y_strTo rfl rfl Try.underlying9 (show ((p.length : Nat) : Int) = _ by omega) ((by rw [bytesOf_strOf]; omega))) <| ng rfl rfl rfl (y_move rfl) <| ng rfl rfl rfl (y_seq rfl rfl) <| nq (y_pickT rfl rfl) <| nq (y_assign rfl) <| nend <| qsub (sub_cons (t := 4) rfl <| sub_cons (t := 0) rfl <| sub_cons (t := 1) rfl <| sub_nil) <| qthen <| cret <| ?_
    refine ret1 trivial rfl rfl ⟨?_, rfl⟩
    rw [bytesOf_strOf]
    simp only [strOf_inj]
  · have hne : ¬ s.take p.length = p := fun e => by
      have := congrArg List.length e
      rw [List.length_take] at this
      omega
    refine nskip rfl rfl rfl (by decide) <| nskip rfl rfl rfl (by decide) <| nskip rfl rfl rfl (by decide) <| nskip rfl rfl rfl (by decide) <| nskip rfl rfl rfl (by decide) <| nskip rfl rfl rfl (by decide) <| nq (y_pickF rfl rfl) <| nq (y_assign rfl) <| nend <| qsub (sub_cons (t := 4) rfl <| sub_cons (t := 0) rfl <| sub_cons (t := 1) rfl <| sub_nil) <| qthen <| cret <| ?_
    refine ret1 trivial rfl rfl ⟨?_, rfl⟩
    rw [decide_eq_false hne]
theorem cutPrefix1 (s p : List UInt8) (w : World) (hs : s.length ≤ 70368744177664) (hp : p.length ≤ 70368744177664) :
    Calls Try.prog 78 #[.string (strOf s), .string (strOf p)] w fun e w' => e = .returned (.tuple #[.string (strOf (if s.take p.length = p then s.drop p.length else s)), .bool (decide (s.take p.length = p))]) ∧ w = w' := by
  have h1 := strOf_size s
  have h2 := strOf_size p
  refine enter (N := 15) Try.func78 rfl rfl (by simp) ?_
  refine cseq <| creg <| nq (y_assign rfl) <| nq (y_assign rfl) <| nend <| qthen <| cseq <| cseq <| creg <| nq (y_move rfl) <| nq (y_move rfl) <| ?_
  refine nx (x_call rfl Try.call85 (hasPrefix s p w hs hp) ?_)
  rintro e_ w1 ⟨rfl, rfl⟩
  refine ⟨_, rfl, ?_⟩
  refine nq ((y_notp rfl)) <| nend <| qsub (sub_cons (t := 9) rfl <| sub_cons (t := 5) rfl <| sub_cons (t := 4) rfl <| sub_cons (t := 0) rfl <| sub_cons (t := 1) rfl <| sub_nil) <| qthen <| ?_
  refine cif rfl (fun h => ?_) (fun h => ?_)
  · refine cseq <| creg <| nq (y_move rfl) <| nq (y_assign rfl) <| nq (y_assign rfl) <| nend <| qsub (sub_cons (t := 5) rfl <| sub_cons (t := 4) rfl <| sub_cons (t := 9) rfl <| sub_cons (t := 0) rfl <| sub_cons (t := 1) rfl <| sub_nil) <| qthen <| cret <| qthen_ret <| ?_
    refine ret2 trivial rfl rfl rfl ⟨?_, rfl⟩
    rw [if_neg h, decide_eq_false h]
  · have h3 := Decidable.not_not.1 h
    have h4 : p.length ≤ s.length := by have := congrArg List.length h3; rw [List.length_take] at this; omega
    refine cskip <| qthen <| cseq <| creg <| nq (y_move rfl) <| nq (y_move rfl) <| nq (y_lenStr rfl Try.underlying9) <| nq (y_strFrom rfl rfl Try.underlying9 (show ((p.length : Nat) : Int) = _ by omega) ((by rw [bytesOf_strOf]; omega))) <| nq (y_assign rfl) <| nq (y_assign rfl) <| nend <| qsub (sub_cons (t := 5) rfl <| sub_cons (t := 4) rfl <| sub_cons (t := 9) rfl <| sub_cons (t := 0) rfl <| sub_cons (t := 1) rfl <| sub_nil) <| qthen <| cret <| ?_
    refine ret2 trivial rfl rfl rfl ⟨?_, rfl⟩
    rw [if_pos h3, decide_eq_true h3, bytesOf_strOf]
theorem cutPrefix (s p : List UInt8) (w : World) (hs : s.length ≤ 70368744177664) (hp : p.length ≤ 70368744177664) :
    Calls Try.prog 65 #[.string (strOf s), .string (strOf p)] w fun e w' => e = .returned (.tuple #[.string (strOf (if s.take p.length = p then s.drop p.length else s)), .bool (decide (s.take p.length = p))]) ∧ w = w' := by
  refine enter (N := 11) Try.func65 rfl rfl (by simp) ?_
  refine cseq <| creg <| nq (y_assign rfl) <| nq (y_assign rfl) <| nend <| qthen <| cseq <| creg <| nq (y_move rfl) <| nq (y_move rfl) <| ?_
  refine nx (x_call rfl Try.call78 (cutPrefix1 s p w hs hp) ?_)
  rintro e_ w1 ⟨rfl, rfl⟩
  refine ⟨_, rfl, ?_⟩
  refine nq (y_extract rfl rfl) <| nq (y_extract rfl rfl) <| nq (y_assign rfl) <| nq (y_assign rfl) <| nend <| qsub (sub_cons (t := 5) rfl <| sub_cons (t := 4) rfl <| sub_cons (t := 0) rfl <| sub_cons (t := 1) rfl <| sub_nil) <| qthen <| cret <| ?_
  exact ret2 trivial rfl rfl rfl ⟨rfl, rfl⟩
end Go.Proofs.Ytpcgpnijhpcbeaa
