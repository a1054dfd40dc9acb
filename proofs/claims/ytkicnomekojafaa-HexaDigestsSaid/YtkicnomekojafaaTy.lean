/- Closed facts on the types of this seat, printed by a program of mine. No statement is proved here. -/
import Derived.Test.YtkicnomekojafaaEng5
import Derived.Test.YtkicnomekojafaaProg
import Derived.KernelRfl
namespace Go.Proofs.Ytkicnomekojafaa
open Go.Eng
theorem ag2 : aggB Try.prog 2 = some false := by kernel_rfl
theorem sz2 : szB Try.prog 2 = some 1 := by kernel_rfl
theorem ti2 : TI Try.prog 2 (.int .i64 0) 1 8 := by unfold TI; kernel_rfl
theorem ag3 : aggB Try.prog 3 = some false := by kernel_rfl
theorem sz3 : szB Try.prog 3 = some 1 := by kernel_rfl
theorem ti3 : TI Try.prog 3 (.int .i64 0) 1 8 := by unfold TI; kernel_rfl
theorem ag4 : aggB Try.prog 4 = some false := by kernel_rfl
theorem sz4 : szB Try.prog 4 = some 1 := by kernel_rfl
theorem ti4 : TI Try.prog 4 (.bool false) 1 1 := by unfold TI; kernel_rfl
theorem ag5 : aggB Try.prog 5 = some false := by kernel_rfl
theorem sz5 : szB Try.prog 5 = some 1 := by kernel_rfl
theorem ti5 : TI Try.prog 5 (.int .u8 0) 1 1 := by unfold TI; kernel_rfl
theorem ag9 : aggB Try.prog 9 = some false := by kernel_rfl
theorem sz9 : szB Try.prog 9 = some 1 := by kernel_rfl
theorem ti9 : TI Try.prog 9 (.string ⟨#[]⟩) 1 16 := by unfold TI; kernel_rfl
theorem ag12 : aggB Try.prog 12 = some false := by kernel_rfl
theorem sz12 : szB Try.prog 12 = some 1 := by kernel_rfl
theorem ti12 : TI Try.prog 12 (.int .u64 0) 1 8 := by unfold TI; kernel_rfl
theorem ag13 : aggB Try.prog 13 = some true := by kernel_rfl
theorem sz13 : szB Try.prog 13 = some 2 := by kernel_rfl
theorem ti13 : TI Try.prog 13 (.agg (([.string ⟨#[]⟩]) ++ ([.int .u64 0]) : List Value).toArray) 2 24 := by unfold TI; kernel_rfl
theorem fa13_0 : faB Try.prog 13 0 = some (0, 1, 9) := by kernel_rfl
theorem pl13_0 : plB Try.prog 13 0 = some (0, 1) := by kernel_rfl
theorem fa13_1 : faB Try.prog 13 1 = some (1, 1, 12) := by kernel_rfl
theorem pl13_1 : plB Try.prog 13 1 = some (1, 1) := by kernel_rfl
theorem ag20 : aggB Try.prog 20 = some false := by kernel_rfl
theorem sz20 : szB Try.prog 20 = some 1 := by kernel_rfl
theorem ti20 : TI Try.prog 20 (.nilIface) 1 16 := by unfold TI; kernel_rfl
theorem ag21 : aggB Try.prog 21 = some false := by kernel_rfl
theorem sz21 : szB Try.prog 21 = some 1 := by kernel_rfl
theorem ti21 : TI Try.prog 21 (.int .i32 0) 1 4 := by unfold TI; kernel_rfl
theorem ag22 : aggB Try.prog 22 = some false := by kernel_rfl
theorem sz22 : szB Try.prog 22 = some 1 := by kernel_rfl
theorem ti22 : TI Try.prog 22 (.slice none 0 0) 1 24 := by unfold TI; kernel_rfl
theorem ag27 : aggB Try.prog 27 = some true := by kernel_rfl
theorem sz27 : szB Try.prog 27 = some 32 := by kernel_rfl
theorem ti27 : TI Try.prog 27 (.agg (b8s (List.replicate 32 0) : List Value).toArray) 32 32 := by unfold TI; kernel_rfl
theorem klD27 {l : List UInt8} (h : l.length = 32) : Try.prog.keyLits 2 27 (b8s l) = some (l.map fun b => Lit.int .u8 (b.toNat : Int)) := keyLits_b8 (D := 0) Try.underlying27 Try.underlying5 (by kernel_rfl) (by kernel_rfl) h
theorem y_eqD27 {N : Nat} {D : List Deferred} {ρ : Env} {w : World} {ty t' : TypeId} {x y : Operand} {l m : List UInt8} (hx : ev ρ x = some (.agg (b8s l).toArray)) (hy : ev ρ y = some (.agg (b8s m).toArray)) (hl : l.length = 32) (hm : m.length = 32) : Yl Try.prog N D ρ w (.binOp .eql 27 x y t') ty (.bool (decide (l = m))) :=
  y_eqK (m := 5) hx hy (by decide) (by kernel_rfl) (by kernel_rfl) ag27 (by rw [b8s_length, hl]; kernel_rfl) (by rw [b8s_length, hm]; kernel_rfl) (klD27 hl) (klD27 hm) lits_b8_inj
theorem y_neD27 {N : Nat} {D : List Deferred} {ρ : Env} {w : World} {ty t' : TypeId} {x y : Operand} {l m : List UInt8} (hx : ev ρ x = some (.agg (b8s l).toArray)) (hy : ev ρ y = some (.agg (b8s m).toArray)) (hl : l.length = 32) (hm : m.length = 32) : Yl Try.prog N D ρ w (.binOp .neq 27 x y t') ty (.bool (decide (¬ l = m))) :=
  y_neK (m := 5) hx hy (by decide) (by kernel_rfl) (by kernel_rfl) ag27 (by rw [b8s_length, hl]; kernel_rfl) (by rw [b8s_length, hm]; kernel_rfl) (klD27 hl) (klD27 hm) lits_b8_inj
theorem ag28 : aggB Try.prog 28 = some true := by kernel_rfl
theorem sz28 : szB Try.prog 28 = some 32 := by kernel_rfl
theorem ti28 : TI Try.prog 28 (.agg (b8s (List.replicate 32 0) : List Value).toArray) 32 32 := by unfold TI; kernel_rfl
theorem klD28 {l : List UInt8} (h : l.length = 32) : Try.prog.keyLits 2 28 (b8s l) = some (l.map fun b => Lit.int .u8 (b.toNat : Int)) := keyLits_b8 (D := 0) Try.underlying28 Try.underlying5 (by kernel_rfl) (by kernel_rfl) h
theorem y_eqD28 {N : Nat} {D : List Deferred} {ρ : Env} {w : World} {ty t' : TypeId} {x y : Operand} {l m : List UInt8} (hx : ev ρ x = some (.agg (b8s l).toArray)) (hy : ev ρ y = some (.agg (b8s m).toArray)) (hl : l.length = 32) (hm : m.length = 32) : Yl Try.prog N D ρ w (.binOp .eql 28 x y t') ty (.bool (decide (l = m))) :=
  y_eqK (m := 5) hx hy (by decide) (by kernel_rfl) (by kernel_rfl) ag28 (by rw [b8s_length, hl]; kernel_rfl) (by rw [b8s_length, hm]; kernel_rfl) (klD28 hl) (klD28 hm) lits_b8_inj
theorem y_neD28 {N : Nat} {D : List Deferred} {ρ : Env} {w : World} {ty t' : TypeId} {x y : Operand} {l m : List UInt8} (hx : ev ρ x = some (.agg (b8s l).toArray)) (hy : ev ρ y = some (.agg (b8s m).toArray)) (hl : l.length = 32) (hm : m.length = 32) : Yl Try.prog N D ρ w (.binOp .neq 28 x y t') ty (.bool (decide (¬ l = m))) :=
  y_neK (m := 5) hx hy (by decide) (by kernel_rfl) (by kernel_rfl) ag28 (by rw [b8s_length, hl]; kernel_rfl) (by rw [b8s_length, hm]; kernel_rfl) (klD28 hl) (klD28 hm) lits_b8_inj
theorem ag34 : aggB Try.prog 34 = some false := by kernel_rfl
theorem sz34 : szB Try.prog 34 = some 1 := by kernel_rfl
theorem ti34 : TI Try.prog 34 (.int .i64 0) 1 8 := by unfold TI; kernel_rfl
theorem ag39 : aggB Try.prog 39 = some false := by kernel_rfl
theorem sz39 : szB Try.prog 39 = some 1 := by kernel_rfl
theorem ti39 : TI Try.prog 39 (.slice none 0 0) 1 24 := by unfold TI; kernel_rfl
theorem ag45 : aggB Try.prog 45 = some false := by kernel_rfl
theorem sz45 : szB Try.prog 45 = some 1 := by kernel_rfl
theorem ti45 : TI Try.prog 45 (.int .u64 0) 1 8 := by unfold TI; kernel_rfl
theorem ag51 : aggB Try.prog 51 = some false := by kernel_rfl
theorem sz51 : szB Try.prog 51 = some 1 := by kernel_rfl
theorem ti51 : TI Try.prog 51 (.nilIface) 1 16 := by unfold TI; kernel_rfl
theorem ag52 : aggB Try.prog 52 = some false := by kernel_rfl
theorem sz52 : szB Try.prog 52 = some 1 := by kernel_rfl
theorem ti52 : TI Try.prog 52 (.nilIface) 1 16 := by unfold TI; kernel_rfl
theorem ag60 : aggB Try.prog 60 = some false := by kernel_rfl
theorem sz60 : szB Try.prog 60 = some 1 := by kernel_rfl
theorem ti60 : TI Try.prog 60 (.nilIface) 1 16 := by unfold TI; kernel_rfl
theorem ag63 : aggB Try.prog 63 = some false := by kernel_rfl
theorem sz63 : szB Try.prog 63 = some 1 := by kernel_rfl
theorem ti63 : TI Try.prog 63 (.nilIface) 1 16 := by unfold TI; kernel_rfl
theorem ag65 : aggB Try.prog 65 = some false := by kernel_rfl
theorem sz65 : szB Try.prog 65 = some 1 := by kernel_rfl
theorem ti65 : TI Try.prog 65 (.nilIface) 1 16 := by unfold TI; kernel_rfl
theorem ag66 : aggB Try.prog 66 = some false := by kernel_rfl
theorem sz66 : szB Try.prog 66 = some 1 := by kernel_rfl
theorem ti66 : TI Try.prog 66 (.slice none 0 0) 1 24 := by unfold TI; kernel_rfl
theorem ag75 : aggB Try.prog 75 = some false := by kernel_rfl
theorem sz75 : szB Try.prog 75 = some 1 := by kernel_rfl
theorem ti75 : TI Try.prog 75 (.int .u32 0) 1 4 := by unfold TI; kernel_rfl
theorem ag79 : aggB Try.prog 79 = some false := by kernel_rfl
theorem sz79 : szB Try.prog 79 = some 1 := by kernel_rfl
theorem ti79 : TI Try.prog 79 (.pointer none) 1 8 := by unfold TI; kernel_rfl
theorem ag95 : aggB Try.prog 95 = some false := by kernel_rfl
theorem sz95 : szB Try.prog 95 = some 1 := by kernel_rfl
theorem ti95 : TI Try.prog 95 (.int .u16 0) 1 2 := by unfold TI; kernel_rfl
end Go.Proofs.Ytkicnomekojafaa
