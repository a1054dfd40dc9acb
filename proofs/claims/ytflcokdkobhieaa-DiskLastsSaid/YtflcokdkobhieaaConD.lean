/- Contracts over things in memory: small functions on bytes, for seats without digests. -/
import Derived.Test.YtflcokdkobhieaaSmallD
import Derived.Test.YtflcokdkobhieaaMem3
set_option linter.unusedVariables false
set_option linter.unusedSimpArgs false
set_option maxRecDepth 20000
namespace Go.Proofs.Ytflcokdkobhieaa
open Go.Eng Go.Hx
theorem cloneC {A : Option Addr} {n c : Nat} {l : List UInt8} (hn : n ≤ 140737488351232) : Con Try.prog 59 [.slice A n c] [] [RRd 1 A n (b8s l)] (fun v_ X_ S_ => ∃ v, v_ = v ∧ X_ = [ROwn 5 1 v n (b8s l)] ∧ S_ = []) := by
  exact con_own1 fun m => Calls.mono (clone A n c l _ (m.rd 0 rfl) hn) (fun e w' ⟨v, h, ho, hf⟩ => ⟨v, v, _, _, _, _, h, ⟨v, rfl, rfl, rfl⟩, ho, hf⟩)
theorem fewC {A : Option Addr} {n c : Nat} {l : List UInt8} {m : Nat} (hc : n ≤ c) (hn : n ≤ 140737488351232) : Con Try.prog 65 [.slice A n c, .int .i64 (m : Int)] [] [RRd 1 A n (b8s l)] (fun v_ X_ S_ => ∃ v, v_ = v ∧ X_ = [ROwn 5 1 v (min n m) (b8s (l.take m))] ∧ S_ = []) := by
  exact con_own1 fun mm => Calls.mono (few A n c l m _ (mm.rd 0 rfl) hc hn) (fun e w' ⟨v, h, ho, hf⟩ => ⟨v, v, _, _, _, _, h, ⟨v, rfl, rfl, rfl⟩, ho, hf⟩)
theorem aroundC {n m : Int} (h1 : -9223372036854775808 ≤ n) (h2 : n ≤ 9223372036854775807) (hm : 0 < m) : Con Try.prog 20 [.int .i64 n, .int .i64 m] [] [] (fun v_ X_ S_ => v_ = (.int .i64 (around n m)) ∧ X_ = [] ∧ S_ = []) := by
  exact con_pure fun mm => Calls.mono (around_c n m _ h1 h2 hm) (fun e w' ⟨h, hw⟩ => ⟨_, h, ⟨rfl, rfl, rfl⟩, hw ▸ Fr.refl _ _⟩)
theorem shortC {s : List UInt8} {m : Nat} : Con Try.prog 21 [.string (strOf s), .int .i64 (m : Int)] [] [] (fun v_ X_ S_ => v_ = (.string (strOf (s.take m))) ∧ X_ = [] ∧ S_ = []) := by
  exact con_pure fun mm => Calls.mono (short_c s m _) (fun e w' ⟨h, hw⟩ => ⟨_, h, ⟨rfl, rfl, rfl⟩, hw ▸ Fr.refl _ _⟩)
end Go.Proofs.Ytflcokdkobhieaa
