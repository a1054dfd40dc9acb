/- Contracts over things in memory, from contracts over worlds: journals. -/
import Derived.Test.YtpcgpnijhpcbeaaJourRead3
import Derived.Test.YtpcgpnijhpcbeaaCon2
set_option linter.unusedVariables false
set_option linter.unusedSimpArgs false
set_option maxRecDepth 20000
namespace Go.Proofs.Ytpcgpnijhpcbeaa
open Go.Eng Go.Hx
theorem rgoodC {img : List UInt8} {A : Option Addr} {n c : Nat} {ds : List (List UInt8)} (hi : img.length = 32) (hD : D32 ds) (hn : n ≤ 140737488351232) : Con Try.prog 24 [.agg (b8s img ++ [Value.slice A n c]).toArray] [] [RRd 32 A n (dc ds)] (fun v_ X_ S_ => ∃ v, v_ = (.agg (b8s img ++ [v]).toArray) ∧ X_ = [ROwn 23 32 v (goodL ds).length (dc (goodL ds))] ∧ S_ = []) := by
  exact con_own1 fun m => Calls.mono (rgood img A n c ds _ hi (m.rd 0 rfl) hD hn) (fun e w' ⟨v, h, ho, hf⟩ => ⟨_, v, _, _, _, _, h, ⟨v, rfl, rfl, rfl⟩, ho, hf⟩)
theorem rbytesC {img : List UInt8} {A : Option Addr} {n c : Nat} {ds : List (List UInt8)} (hi : img.length = 32) (hD : D32 ds) (hn : n ≤ 1000000) : Con Try.prog 29 [.agg (b8s img ++ [Value.slice A n c]).toArray] [] [RRd 32 A n (dc ds)] (fun v_ X_ S_ => ∃ v, v_ = v ∧ X_ = [ROwn 5 1 v ((jbody img ds).length + 4) (b8s (putL (jbody img ds)))] ∧ S_ = []) := by
  exact con_own1 fun m => Calls.mono (rbytes img A n c ds _ hi (m.rd 0 rfl) hD hn) (fun e w' ⟨v, h, ho, hf⟩ => ⟨v, v, _, _, _, _, h, ⟨v, rfl, rfl, rfl⟩, ho, hf⟩)
theorem rsameC {img img1 : List UInt8} {A A1 : Option Addr} {n c n1 c1 : Nat} {ds ds1 : List (List UInt8)} (hi : img.length = 32) (hi1 : img1.length = 32) (hD : D32 ds) (hD1 : D32 ds1) (hn : n ≤ 140737488351232) : Con Try.prog 33 [.agg (b8s img ++ [Value.slice A n c]).toArray, .agg (b8s img1 ++ [Value.slice A1 n1 c1]).toArray] [] [RRd 32 A n (dc ds), RRd 32 A1 n1 (dc ds1)] (fun v_ X_ S_ => v_ = (.bool (decide (ds = ds1 ∧ img = img1))) ∧ X_ = [] ∧ S_ = []) := by
  exact con_pure fun m => Calls.mono (rsame img A n c ds img1 A1 n1 c1 ds1 _ hi hi1 (m.rd 0 rfl) hD (m.rd 1 rfl) hD1 hn) (fun e w' ⟨h, hf⟩ => ⟨_, h, ⟨rfl, rfl, rfl⟩, hf⟩)
theorem asJC {img : List UInt8} {A : Option Addr} {n c : Nat} (hi : img.length = 32) : Con Try.prog 34 [.agg (b8s img ++ [Value.slice A n c]).toArray] [] [] (fun v_ X_ S_ => v_ = (.agg (b8s img ++ [Value.slice A n c]).toArray) ∧ X_ = [] ∧ S_ = []) := by
  exact con_pure fun m => Calls.mono (as_j img (.slice A n c) _ hi rfl rfl) (fun e w' ⟨h, hf⟩ => ⟨_, h, ⟨rfl, rfl, rfl⟩, hf⟩)
theorem ofJC {img : List UInt8} {A : Option Addr} {n c : Nat} (hi : img.length = 32) : Con Try.prog 27 [.agg (b8s img ++ [Value.slice A n c]).toArray] [] [] (fun v_ X_ S_ => v_ = (.agg (b8s img ++ [Value.slice A n c]).toArray) ∧ X_ = [] ∧ S_ = []) := by
  exact con_pure fun m => Calls.mono (of_j img (.slice A n c) _ hi rfl rfl) (fun e w' ⟨h, hf⟩ => ⟨_, h, ⟨rfl, rfl, rfl⟩, hf⟩)
theorem lives17C  : Con Try.prog 30 [] [] [] (fun v_ X_ S_ => v_ = (.bool true) ∧ X_ = [] ∧ S_ = []) := by
  exact con_pure fun m => Calls.mono (lives17 _) (fun e w' ⟨h, hf⟩ => ⟨_, h, ⟨rfl, rfl, rfl⟩, hf⟩)
theorem rreadC {A : Option Addr} {n c : Nat} {l : List UInt8} (hc : n ≤ c) (hn : n ≤ 1000000) : Con Try.prog 38 [.slice A n c] [] [RRd 1 A n (b8s l)] (fun v_ X_ S_ => ∃ img v ds err, v_ = (.tuple #[.agg (b8s img ++ [v]).toArray, .int .i64 err]) ∧ X_ = [ROwn 23 32 v ds.length (dc ds)] ∧ S_ = [] ∧ img.length = 32 ∧ D32 ds ∧ ReadJ l img ds err) := by
  exact con_own1 fun m => Calls.mono (rread A n c l _ (m.rd 0 rfl) hc hn) (fun e w' ⟨⟨img, v, ds, err, h, ho, h1, h2, h3⟩, hf⟩ => ⟨_, v, _, _, _, _, h, ⟨img, v, ds, err, rfl, rfl, rfl, h1, h2, h3⟩, ho, hf⟩)
end Go.Proofs.Ytpcgpnijhpcbeaa
