/- Contracts over things in memory, from contracts over worlds: the reference's small functions. -/
import Derived.Test.YtpcgpnijhpcbeaaJour4
import Derived.Test.YtpcgpnijhpcbeaaCon1
set_option linter.unusedVariables false
set_option linter.unusedSimpArgs false
set_option maxRecDepth 20000
namespace Go.Proofs.Ytpcgpnijhpcbeaa
open Go.Eng Go.Hx
theorem fewC {A : Option Addr} {n c : Nat} {l : List UInt8} {m : Nat} (hc : n ≤ c) (hn : n ≤ 140737488351232) : Con Try.prog 17 [.slice A n c, .int .i64 (m : Int)] [] [RRd 1 A n (b8s l)] (fun v_ X_ S_ => ∃ v, v_ = v ∧ X_ = [ROwn 5 1 v (min n m) (b8s (l.take m))] ∧ S_ = []) := by
  exact con_own1 fun mm => Calls.mono (few A n c l m _ (mm.rd 0 rfl) hc hn) (fun e w' ⟨v, h, ho, hf⟩ => ⟨v, v, _, _, _, _, h, ⟨v, rfl, rfl, rfl⟩, ho, hf⟩)
theorem aroundC {n m : Int} (h1 : -9223372036854775808 ≤ n) (h2 : n ≤ 9223372036854775807) (hm : 0 < m) : Con Try.prog 13 [.int .i64 n, .int .i64 m] [] [] (fun v_ X_ S_ => v_ = (.int .i64 (around n m)) ∧ X_ = [] ∧ S_ = []) := by
  exact con_pure fun mm => Calls.mono (around_c n m _ h1 h2 hm) (fun e w' ⟨h, hw⟩ => ⟨_, h, ⟨rfl, rfl, rfl⟩, hw ▸ Fr.refl _ _⟩)
theorem rcrcPutC {A : Option Addr} {n c : Nat} {l : List UInt8} (hn : n ≤ 70368744177664) : Con Try.prog 36 [.slice A n c] [] [RRd 1 A n (b8s l)] (fun v_ X_ S_ => ∃ v, v_ = v ∧ X_ = [ROwn 5 1 v (n + 4) (b8s (putL l))] ∧ S_ = []) := by
  exact con_own1 fun m => Calls.mono (rcrcPut A n c l _ (m.rd 0 rfl) hn) (fun e w' ⟨v, h, ho, hf⟩ => ⟨v, v, _, _, _, _, h, ⟨v, rfl, rfl, rfl⟩, ho, hf⟩)
theorem ofC {A : Option Addr} {n c : Nat} {l : List UInt8} (hn : n = 32) : Con Try.prog 67 [.slice A n c] [] [RRd 1 A n (b8s l)] (fun v_ X_ S_ => v_ = (.agg (b8s l).toArray) ∧ X_ = [] ∧ S_ = []) := by
  subst hn
  exact con_pure fun m => Calls.mono (of A c l _ (m.rd 0 rfl)) (fun e w' ⟨h, hf⟩ => ⟨_, h, ⟨rfl, rfl, rfl⟩, hf⟩)
theorem bytesC {a : List UInt8} (ha : a.length = 32) : Con Try.prog 41 [.agg (b8s a).toArray] [] [] (fun v_ X_ S_ => ∃ v, v_ = v ∧ X_ = [ROwn 5 1 v 32 (b8s a)] ∧ S_ = []) := by
  exact con_own1 fun m => Calls.mono (bytes a _ ha) (fun e w' ⟨v, h, ho, hf⟩ => ⟨v, v, _, _, _, _, h, ⟨v, rfl, rfl, rfl⟩, ho, hf⟩)
theorem shortC {s : List UInt8} {m : Nat} : Con Try.prog 39 [.string (strOf s), .int .i64 (m : Int)] [] [] (fun v_ X_ S_ => v_ = (.string (strOf (s.take m))) ∧ X_ = [] ∧ S_ = []) := by
  exact con_pure fun mm => Calls.mono (short_c s m _) (fun e w' ⟨h, hw⟩ => ⟨_, h, ⟨rfl, rfl, rfl⟩, hw ▸ Fr.refl _ _⟩)
theorem numberC {n : Nat} (hn : n < 4294967296) : Con Try.prog 40 [.int .i64 (n : Int)] [] [] (fun v_ X_ S_ => ∃ v, v_ = v ∧ X_ = [ROwn 5 1 v 4 (b8s (le4 n))] ∧ S_ = []) := by
  exact con_own1 fun m => Calls.mono (number n _ hn) (fun e w' ⟨v, h, ho, hf⟩ => ⟨v, v, _, _, _, _, h, ⟨v, rfl, rfl, rfl⟩, ho, hf⟩)
theorem compareC {a b : List UInt8} (ha : a.length = 32) (hb : b.length = 32) : Con Try.prog 59 [.agg (b8s a).toArray, .agg (b8s b).toArray] [] [] (fun v_ X_ S_ => v_ = (.int .i64 (cb a b)) ∧ X_ = [] ∧ S_ = []) := by
  exact con_pure fun m => Calls.mono (compare a b _ ha hb) (fun e w' ⟨h, hf⟩ => ⟨_, h, ⟨rfl, rfl, rfl⟩, hf⟩)
theorem rcompareC {a b : List UInt8} (ha : a.length = 32) (hb : b.length = 32) : Con Try.prog 55 [.agg (b8s a).toArray, .agg (b8s b).toArray] [] [] (fun v_ X_ S_ => v_ = (.int .i64 (cb a b)) ∧ X_ = [] ∧ S_ = []) := by
  exact con_pure fun m => Calls.mono (rcompare a b _ ha hb) (fun e w' ⟨h, hf⟩ => ⟨_, h, ⟨rfl, rfl, rfl⟩, hf⟩)
theorem lessC {a b : List UInt8} (ha : a.length = 32) (hb : b.length = 32) : Con Try.prog 57 [.agg (b8s a).toArray, .agg (b8s b).toArray] [] [] (fun v_ X_ S_ => v_ = (.bool (decide (cb a b < 0))) ∧ X_ = [] ∧ S_ = []) := by
  exact con_pure fun m => Calls.mono (less a b _ ha hb) (fun e w' ⟨h, hf⟩ => ⟨_, h, ⟨rfl, rfl, rfl⟩, hf⟩)
end Go.Proofs.Ytpcgpnijhpcbeaa
