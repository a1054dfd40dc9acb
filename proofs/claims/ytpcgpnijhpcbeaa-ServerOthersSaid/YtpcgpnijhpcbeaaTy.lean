/- Closed facts on the types of this seat, printed by a program of mine. No statement is proved here. -/
import Derived.Test.YtpcgpnijhpcbeaaEng5
import Derived.Test.YtpcgpnijhpcbeaaProg
import Derived.KernelRfl
namespace Go.Proofs.Ytpcgpnijhpcbeaa
open Go.Eng
theorem ag2 : aggB Try.prog 2 = some false := by kernel_rfl
theorem sz2 : szB Try.prog 2 = some 1 := by kernel_rfl
theorem ti2 : TI Try.prog 2 (.int .i64 0) 1 8 := by unfold TI; kernel_rfl
theorem ag3 : aggB Try.prog 3 = some false := by kernel_rfl
theorem sz3 : szB Try.prog 3 = some 1 := by kernel_rfl
theorem ti3 : TI Try.prog 3 (.int .i64 0) 1 8 := by unfold TI; kernel_rfl
theorem ag4 : aggB Try.prog 4 = some false := by kernel_rfl
theorem sz4 : szB Try.prog 4 = some 1 := by kernel_rfl
theorem ti4 : TI Try.prog 4 (.bool false) 1 1 := by unfold TI; kernel_rfl
theorem ag5 : aggB Try.prog 5 = some false := by kernel_rfl
theorem sz5 : szB Try.prog 5 = some 1 := by kernel_rfl
theorem ti5 : TI Try.prog 5 (.int .u8 0) 1 1 := by unfold TI; kernel_rfl
theorem ag9 : aggB Try.prog 9 = some false := by kernel_rfl
theorem sz9 : szB Try.prog 9 = some 1 := by kernel_rfl
theorem ti9 : TI Try.prog 9 (.string ⟨#[]⟩) 1 16 := by unfold TI; kernel_rfl
theorem ag12 : aggB Try.prog 12 = some false := by kernel_rfl
theorem sz12 : szB Try.prog 12 = some 1 := by kernel_rfl
theorem ti12 : TI Try.prog 12 (.int .u64 0) 1 8 := by unfold TI; kernel_rfl
theorem ag13 : aggB Try.prog 13 = some true := by kernel_rfl
theorem sz13 : szB Try.prog 13 = some 2 := by kernel_rfl
theorem ti13 : TI Try.prog 13 (.agg (([.string ⟨#[]⟩]) ++ ([.int .u64 0]) : List Value).toArray) 2 24 := by unfold TI; kernel_rfl
theorem fa13_0 : faB Try.prog 13 0 = some (0, 1, 9) := by kernel_rfl
theorem pl13_0 : plB Try.prog 13 0 = some (0, 1) := by kernel_rfl
theorem fa13_1 : faB Try.prog 13 1 = some (1, 1, 12) := by kernel_rfl
theorem pl13_1 : plB Try.prog 13 1 = some (1, 1) := by kernel_rfl
theorem ag20 : aggB Try.prog 20 = some false := by kernel_rfl
theorem sz20 : szB Try.prog 20 = some 1 := by kernel_rfl
theorem ti20 : TI Try.prog 20 (.nilIface) 1 16 := by unfold TI; kernel_rfl
theorem ag21 : aggB Try.prog 21 = some false := by kernel_rfl
theorem sz21 : szB Try.prog 21 = some 1 := by kernel_rfl
theorem ti21 : TI Try.prog 21 (.int .i32 0) 1 4 := by unfold TI; kernel_rfl
theorem ag22 : aggB Try.prog 22 = some true := by kernel_rfl
theorem sz22 : szB Try.prog 22 = some 32 := by kernel_rfl
theorem ti22 : TI Try.prog 22 (.agg (b8s (List.replicate 32 0) : List Value).toArray) 32 32 := by unfold TI; kernel_rfl
theorem klD22 {l : List UInt8} (h : l.length = 32) : Try.prog.keyLits 2 22 (b8s l) = some (l.map fun b => Lit.int .u8 (b.toNat : Int)) := keyLits_b8 (D := 0) Try.underlying22 Try.underlying5 (by kernel_rfl) (by kernel_rfl) h
theorem y_eqD22 {N : Nat} {D : List Deferred} {ρ : Env} {w : World} {ty t' : TypeId} {x y : Operand} {l m : List UInt8} (hx : ev ρ x = some (.agg (b8s l).toArray)) (hy : ev ρ y = some (.agg (b8s m).toArray)) (hl : l.length = 32) (hm : m.length = 32) : Yl Try.prog N D ρ w (.binOp .eql 22 x y t') ty (.bool (decide (l = m))) :=
  y_eqK (m := 5) hx hy (by decide) (by kernel_rfl) (by kernel_rfl) ag22 (by rw [b8s_length, hl]; kernel_rfl) (by rw [b8s_length, hm]; kernel_rfl) (klD22 hl) (klD22 hm) lits_b8_inj
theorem y_neD22 {N : Nat} {D : List Deferred} {ρ : Env} {w : World} {ty t' : TypeId} {x y : Operand} {l m : List UInt8} (hx : ev ρ x = some (.agg (b8s l).toArray)) (hy : ev ρ y = some (.agg (b8s m).toArray)) (hl : l.length = 32) (hm : m.length = 32) : Yl Try.prog N D ρ w (.binOp .neq 22 x y t') ty (.bool (decide (¬ l = m))) :=
  y_neK (m := 5) hx hy (by decide) (by kernel_rfl) (by kernel_rfl) ag22 (by rw [b8s_length, hl]; kernel_rfl) (by rw [b8s_length, hm]; kernel_rfl) (klD22 hl) (klD22 hm) lits_b8_inj
theorem ag23 : aggB Try.prog 23 = some true := by kernel_rfl
theorem sz23 : szB Try.prog 23 = some 32 := by kernel_rfl
theorem ti23 : TI Try.prog 23 (.agg (b8s (List.replicate 32 0) : List Value).toArray) 32 32 := by unfold TI; kernel_rfl
theorem klD23 {l : List UInt8} (h : l.length = 32) : Try.prog.keyLits 2 23 (b8s l) = some (l.map fun b => Lit.int .u8 (b.toNat : Int)) := keyLits_b8 (D := 0) Try.underlying23 Try.underlying5 (by kernel_rfl) (by kernel_rfl) h
theorem y_eqD23 {N : Nat} {D : List Deferred} {ρ : Env} {w : World} {ty t' : TypeId} {x y : Operand} {l m : List UInt8} (hx : ev ρ x = some (.agg (b8s l).toArray)) (hy : ev ρ y = some (.agg (b8s m).toArray)) (hl : l.length = 32) (hm : m.length = 32) : Yl Try.prog N D ρ w (.binOp .eql 23 x y t') ty (.bool (decide (l = m))) :=
  y_eqK (m := 5) hx hy (by decide) (by kernel_rfl) (by kernel_rfl) ag23 (by rw [b8s_length, hl]; kernel_rfl) (by rw [b8s_length, hm]; kernel_rfl) (klD23 hl) (klD23 hm) lits_b8_inj
theorem y_neD23 {N : Nat} {D : List Deferred} {ρ : Env} {w : World} {ty t' : TypeId} {x y : Operand} {l m : List UInt8} (hx : ev ρ x = some (.agg (b8s l).toArray)) (hy : ev ρ y = some (.agg (b8s m).toArray)) (hl : l.length = 32) (hm : m.length = 32) : Yl Try.prog N D ρ w (.binOp .neq 23 x y t') ty (.bool (decide (¬ l = m))) :=
  y_neK (m := 5) hx hy (by decide) (by kernel_rfl) (by kernel_rfl) ag23 (by rw [b8s_length, hl]; kernel_rfl) (by rw [b8s_length, hm]; kernel_rfl) (klD23 hl) (klD23 hm) lits_b8_inj
theorem ag24 : aggB Try.prog 24 = some true := by kernel_rfl
theorem sz24 : szB Try.prog 24 = some 35 := by kernel_rfl
theorem ti24 : TI Try.prog 24 (.agg (([.int .i64 0]) ++ ([.int .i64 0]) ++ (b8s (List.replicate 32 0)) ++ ([.string ⟨#[]⟩]) : List Value).toArray) 35 64 := by unfold TI; kernel_rfl
theorem fa24_0 : faB Try.prog 24 0 = some (0, 1, 3) := by kernel_rfl
theorem pl24_0 : plB Try.prog 24 0 = some (0, 1) := by kernel_rfl
theorem fa24_1 : faB Try.prog 24 1 = some (1, 1, 3) := by kernel_rfl
theorem pl24_1 : plB Try.prog 24 1 = some (1, 1) := by kernel_rfl
theorem fa24_2 : faB Try.prog 24 2 = some (2, 32, 23) := by kernel_rfl
theorem pl24_2 : plB Try.prog 24 2 = some (2, 32) := by kernel_rfl
theorem fa24_3 : faB Try.prog 24 3 = some (34, 1, 9) := by kernel_rfl
theorem pl24_3 : plB Try.prog 24 3 = some (34, 1) := by kernel_rfl
theorem ag25 : aggB Try.prog 25 = some true := by kernel_rfl
theorem sz25 : szB Try.prog 25 = some 35 := by kernel_rfl
theorem ti25 : TI Try.prog 25 (.agg (([.int .i64 0]) ++ ([.int .i64 0]) ++ (b8s (List.replicate 32 0)) ++ ([.string ⟨#[]⟩]) : List Value).toArray) 35 64 := by unfold TI; kernel_rfl
theorem fa25_0 : faB Try.prog 25 0 = some (0, 1, 3) := by kernel_rfl
theorem pl25_0 : plB Try.prog 25 0 = some (0, 1) := by kernel_rfl
theorem fa25_1 : faB Try.prog 25 1 = some (1, 1, 3) := by kernel_rfl
theorem pl25_1 : plB Try.prog 25 1 = some (1, 1) := by kernel_rfl
theorem fa25_2 : faB Try.prog 25 2 = some (2, 32, 23) := by kernel_rfl
theorem pl25_2 : plB Try.prog 25 2 = some (2, 32) := by kernel_rfl
theorem fa25_3 : faB Try.prog 25 3 = some (34, 1, 9) := by kernel_rfl
theorem pl25_3 : plB Try.prog 25 3 = some (34, 1) := by kernel_rfl
theorem ag26 : aggB Try.prog 26 = some false := by kernel_rfl
theorem sz26 : szB Try.prog 26 = some 1 := by kernel_rfl
theorem ti26 : TI Try.prog 26 (.pointer none) 1 8 := by unfold TI; kernel_rfl
theorem ag29 : aggB Try.prog 29 = some false := by kernel_rfl
theorem sz29 : szB Try.prog 29 = some 1 := by kernel_rfl
theorem ti29 : TI Try.prog 29 (.slice none 0 0) 1 24 := by unfold TI; kernel_rfl
theorem ag36 : aggB Try.prog 36 = some false := by kernel_rfl
theorem sz36 : szB Try.prog 36 = some 1 := by kernel_rfl
theorem ti36 : TI Try.prog 36 (.slice none 0 0) 1 24 := by unfold TI; kernel_rfl
theorem ag37 : aggB Try.prog 37 = some false := by kernel_rfl
theorem sz37 : szB Try.prog 37 = some 1 := by kernel_rfl
theorem ti37 : TI Try.prog 37 (.pointer none) 1 8 := by unfold TI; kernel_rfl
theorem ag38 : aggB Try.prog 38 = some false := by kernel_rfl
theorem sz38 : szB Try.prog 38 = some 1 := by kernel_rfl
theorem ti38 : TI Try.prog 38 (.int .i64 0) 1 8 := by unfold TI; kernel_rfl
theorem ag41 : aggB Try.prog 41 = some false := by kernel_rfl
theorem sz41 : szB Try.prog 41 = some 1 := by kernel_rfl
theorem ti41 : TI Try.prog 41 (.slice none 0 0) 1 24 := by unfold TI; kernel_rfl
theorem ag42 : aggB Try.prog 42 = some false := by kernel_rfl
theorem sz42 : szB Try.prog 42 = some 1 := by kernel_rfl
theorem ti42 : TI Try.prog 42 (.slice none 0 0) 1 24 := by unfold TI; kernel_rfl
theorem ag43 : aggB Try.prog 43 = some true := by kernel_rfl
theorem sz43 : szB Try.prog 43 = some 6 := by kernel_rfl
theorem ti43 : TI Try.prog 43 (.agg (([.int .i64 0]) ++ ([.int .i64 0]) ++ ([.int .i64 0]) ++ ([.int .i64 0]) ++ ([.slice none 0 0]) ++ ([.slice none 0 0]) : List Value).toArray) 6 80 := by unfold TI; kernel_rfl
theorem fa43_0 : faB Try.prog 43 0 = some (0, 1, 3) := by kernel_rfl
theorem pl43_0 : plB Try.prog 43 0 = some (0, 1) := by kernel_rfl
theorem fa43_1 : faB Try.prog 43 1 = some (1, 1, 3) := by kernel_rfl
theorem pl43_1 : plB Try.prog 43 1 = some (1, 1) := by kernel_rfl
theorem fa43_2 : faB Try.prog 43 2 = some (2, 1, 3) := by kernel_rfl
theorem pl43_2 : plB Try.prog 43 2 = some (2, 1) := by kernel_rfl
theorem fa43_3 : faB Try.prog 43 3 = some (3, 1, 3) := by kernel_rfl
theorem pl43_3 : plB Try.prog 43 3 = some (3, 1) := by kernel_rfl
theorem fa43_4 : faB Try.prog 43 4 = some (4, 1, 29) := by kernel_rfl
theorem pl43_4 : plB Try.prog 43 4 = some (4, 1) := by kernel_rfl
theorem fa43_5 : faB Try.prog 43 5 = some (5, 1, 42) := by kernel_rfl
theorem pl43_5 : plB Try.prog 43 5 = some (5, 1) := by kernel_rfl
theorem ag44 : aggB Try.prog 44 = some true := by kernel_rfl
theorem sz44 : szB Try.prog 44 = some 6 := by kernel_rfl
theorem ti44 : TI Try.prog 44 (.agg (([.int .i64 0]) ++ ([.int .i64 0]) ++ ([.int .i64 0]) ++ ([.int .i64 0]) ++ ([.slice none 0 0]) ++ ([.slice none 0 0]) : List Value).toArray) 6 80 := by unfold TI; kernel_rfl
theorem fa44_0 : faB Try.prog 44 0 = some (0, 1, 3) := by kernel_rfl
theorem pl44_0 : plB Try.prog 44 0 = some (0, 1) := by kernel_rfl
theorem fa44_1 : faB Try.prog 44 1 = some (1, 1, 3) := by kernel_rfl
theorem pl44_1 : plB Try.prog 44 1 = some (1, 1) := by kernel_rfl
theorem fa44_2 : faB Try.prog 44 2 = some (2, 1, 3) := by kernel_rfl
theorem pl44_2 : plB Try.prog 44 2 = some (2, 1) := by kernel_rfl
theorem fa44_3 : faB Try.prog 44 3 = some (3, 1, 3) := by kernel_rfl
theorem pl44_3 : plB Try.prog 44 3 = some (3, 1) := by kernel_rfl
theorem fa44_4 : faB Try.prog 44 4 = some (4, 1, 29) := by kernel_rfl
theorem pl44_4 : plB Try.prog 44 4 = some (4, 1) := by kernel_rfl
theorem fa44_5 : faB Try.prog 44 5 = some (5, 1, 42) := by kernel_rfl
theorem pl44_5 : plB Try.prog 44 5 = some (5, 1) := by kernel_rfl
theorem ag54 : aggB Try.prog 54 = some false := by kernel_rfl
theorem sz54 : szB Try.prog 54 = some 1 := by kernel_rfl
theorem ti54 : TI Try.prog 54 (.slice none 0 0) 1 24 := by unfold TI; kernel_rfl
theorem ag55 : aggB Try.prog 55 = some true := by kernel_rfl
theorem sz55 : szB Try.prog 55 = some 33 := by kernel_rfl
theorem ti55 : TI Try.prog 55 (.agg ((b8s (List.replicate 32 0)) ++ ([.slice none 0 0]) : List Value).toArray) 33 56 := by unfold TI; kernel_rfl
theorem fa55_0 : faB Try.prog 55 0 = some (0, 32, 23) := by kernel_rfl
theorem pl55_0 : plB Try.prog 55 0 = some (0, 32) := by kernel_rfl
theorem fa55_1 : faB Try.prog 55 1 = some (32, 1, 54) := by kernel_rfl
theorem pl55_1 : plB Try.prog 55 1 = some (32, 1) := by kernel_rfl
theorem ag56 : aggB Try.prog 56 = some true := by kernel_rfl
theorem sz56 : szB Try.prog 56 = some 33 := by kernel_rfl
theorem ti56 : TI Try.prog 56 (.agg ((b8s (List.replicate 32 0)) ++ ([.slice none 0 0]) : List Value).toArray) 33 56 := by unfold TI; kernel_rfl
theorem fa56_0 : faB Try.prog 56 0 = some (0, 32, 23) := by kernel_rfl
theorem pl56_0 : plB Try.prog 56 0 = some (0, 32) := by kernel_rfl
theorem fa56_1 : faB Try.prog 56 1 = some (32, 1, 54) := by kernel_rfl
theorem pl56_1 : plB Try.prog 56 1 = some (32, 1) := by kernel_rfl
theorem ag58 : aggB Try.prog 58 = some false := by kernel_rfl
theorem sz58 : szB Try.prog 58 = some 1 := by kernel_rfl
theorem ti58 : TI Try.prog 58 (.slice none 0 0) 1 24 := by unfold TI; kernel_rfl
theorem ag61 : aggB Try.prog 61 = some true := by kernel_rfl
theorem sz61 : szB Try.prog 61 = some 33 := by kernel_rfl
theorem ti61 : TI Try.prog 61 (.agg ((b8s (List.replicate 32 0)) ++ ([.slice none 0 0]) : List Value).toArray) 33 56 := by unfold TI; kernel_rfl
theorem fa61_0 : faB Try.prog 61 0 = some (0, 32, 23) := by kernel_rfl
theorem pl61_0 : plB Try.prog 61 0 = some (0, 32) := by kernel_rfl
theorem fa61_1 : faB Try.prog 61 1 = some (32, 1, 54) := by kernel_rfl
theorem pl61_1 : plB Try.prog 61 1 = some (32, 1) := by kernel_rfl
theorem ag74 : aggB Try.prog 74 = some false := by kernel_rfl
theorem sz74 : szB Try.prog 74 = some 1 := by kernel_rfl
theorem ti74 : TI Try.prog 74 (.slice none 0 0) 1 24 := by unfold TI; kernel_rfl
theorem ag79 : aggB Try.prog 79 = some false := by kernel_rfl
theorem sz79 : szB Try.prog 79 = some 1 := by kernel_rfl
theorem ti79 : TI Try.prog 79 (.map none) 1 8 := by unfold TI; kernel_rfl
theorem ag82 : aggB Try.prog 82 = some false := by kernel_rfl
theorem sz82 : szB Try.prog 82 = some 1 := by kernel_rfl
theorem ti82 : TI Try.prog 82 (.int .u32 0) 1 4 := by unfold TI; kernel_rfl
theorem ag83 : aggB Try.prog 83 = some true := by kernel_rfl
theorem sz83 : szB Try.prog 83 = some 2 := by kernel_rfl
theorem ti83 : TI Try.prog 83 (.agg (([.int .i32 0]) ++ ([.int .u32 0]) : List Value).toArray) 2 8 := by unfold TI; kernel_rfl
theorem fa83_0 : faB Try.prog 83 0 = some (0, 1, 21) := by kernel_rfl
theorem pl83_0 : plB Try.prog 83 0 = some (0, 1) := by kernel_rfl
theorem fa83_1 : faB Try.prog 83 1 = some (1, 1, 82) := by kernel_rfl
theorem pl83_1 : plB Try.prog 83 1 = some (1, 1) := by kernel_rfl
theorem ag84 : aggB Try.prog 84 = some true := by kernel_rfl
theorem sz84 : szB Try.prog 84 = some 2 := by kernel_rfl
theorem ti84 : TI Try.prog 84 (.agg (([.int .i32 0]) ++ ([.int .u32 0]) : List Value).toArray) 2 8 := by unfold TI; kernel_rfl
theorem fa84_0 : faB Try.prog 84 0 = some (0, 1, 21) := by kernel_rfl
theorem pl84_0 : plB Try.prog 84 0 = some (0, 1) := by kernel_rfl
theorem fa84_1 : faB Try.prog 84 1 = some (1, 1, 82) := by kernel_rfl
theorem pl84_1 : plB Try.prog 84 1 = some (1, 1) := by kernel_rfl
theorem ag92 : aggB Try.prog 92 = some true := by kernel_rfl
theorem sz92 : szB Try.prog 92 = some 35 := by kernel_rfl
theorem ti92 : TI Try.prog 92 (.agg (([.int .i64 0]) ++ ([.int .i64 0]) ++ (b8s (List.replicate 32 0)) ++ ([.slice none 0 0]) : List Value).toArray) 35 72 := by unfold TI; kernel_rfl
theorem fa92_0 : faB Try.prog 92 0 = some (0, 1, 3) := by kernel_rfl
theorem pl92_0 : plB Try.prog 92 0 = some (0, 1) := by kernel_rfl
theorem fa92_1 : faB Try.prog 92 1 = some (1, 1, 3) := by kernel_rfl
theorem pl92_1 : plB Try.prog 92 1 = some (1, 1) := by kernel_rfl
theorem fa92_2 : faB Try.prog 92 2 = some (2, 32, 23) := by kernel_rfl
theorem pl92_2 : plB Try.prog 92 2 = some (2, 32) := by kernel_rfl
theorem fa92_3 : faB Try.prog 92 3 = some (34, 1, 29) := by kernel_rfl
theorem pl92_3 : plB Try.prog 92 3 = some (34, 1) := by kernel_rfl
theorem ag93 : aggB Try.prog 93 = some true := by kernel_rfl
theorem sz93 : szB Try.prog 93 = some 35 := by kernel_rfl
theorem ti93 : TI Try.prog 93 (.agg (([.int .i64 0]) ++ ([.int .i64 0]) ++ (b8s (List.replicate 32 0)) ++ ([.slice none 0 0]) : List Value).toArray) 35 72 := by unfold TI; kernel_rfl
theorem fa93_0 : faB Try.prog 93 0 = some (0, 1, 3) := by kernel_rfl
theorem pl93_0 : plB Try.prog 93 0 = some (0, 1) := by kernel_rfl
theorem fa93_1 : faB Try.prog 93 1 = some (1, 1, 3) := by kernel_rfl
theorem pl93_1 : plB Try.prog 93 1 = some (1, 1) := by kernel_rfl
theorem fa93_2 : faB Try.prog 93 2 = some (2, 32, 23) := by kernel_rfl
theorem pl93_2 : plB Try.prog 93 2 = some (2, 32) := by kernel_rfl
theorem fa93_3 : faB Try.prog 93 3 = some (34, 1, 29) := by kernel_rfl
theorem pl93_3 : plB Try.prog 93 3 = some (34, 1) := by kernel_rfl
theorem ag99 : aggB Try.prog 99 = some false := by kernel_rfl
theorem sz99 : szB Try.prog 99 = some 1 := by kernel_rfl
theorem ti99 : TI Try.prog 99 (.map none) 1 8 := by unfold TI; kernel_rfl
theorem ag100 : aggB Try.prog 100 = some false := by kernel_rfl
theorem sz100 : szB Try.prog 100 = some 1 := by kernel_rfl
theorem ti100 : TI Try.prog 100 (.map none) 1 8 := by unfold TI; kernel_rfl
theorem ag101 : aggB Try.prog 101 = some false := by kernel_rfl
theorem sz101 : szB Try.prog 101 = some 1 := by kernel_rfl
theorem ti101 : TI Try.prog 101 (.slice none 0 0) 1 24 := by unfold TI; kernel_rfl
theorem ag102 : aggB Try.prog 102 = some true := by kernel_rfl
theorem sz102 : szB Try.prog 102 = some 5 := by kernel_rfl
theorem ti102 : TI Try.prog 102 (.agg (([.int .i64 0]) ++ ([.map none]) ++ ([.map none]) ++ ([.slice none 0 0]) ++ ([.int .i64 0]) : List Value).toArray) 5 56 := by unfold TI; kernel_rfl
theorem fa102_0 : faB Try.prog 102 0 = some (0, 1, 3) := by kernel_rfl
theorem pl102_0 : plB Try.prog 102 0 = some (0, 1) := by kernel_rfl
theorem fa102_1 : faB Try.prog 102 1 = some (1, 1, 100) := by kernel_rfl
theorem pl102_1 : plB Try.prog 102 1 = some (1, 1) := by kernel_rfl
theorem fa102_2 : faB Try.prog 102 2 = some (2, 1, 100) := by kernel_rfl
theorem pl102_2 : plB Try.prog 102 2 = some (2, 1) := by kernel_rfl
theorem fa102_3 : faB Try.prog 102 3 = some (3, 1, 101) := by kernel_rfl
theorem pl102_3 : plB Try.prog 102 3 = some (3, 1) := by kernel_rfl
theorem fa102_4 : faB Try.prog 102 4 = some (4, 1, 3) := by kernel_rfl
theorem pl102_4 : plB Try.prog 102 4 = some (4, 1) := by kernel_rfl
theorem ag103 : aggB Try.prog 103 = some true := by kernel_rfl
theorem sz103 : szB Try.prog 103 = some 5 := by kernel_rfl
theorem ti103 : TI Try.prog 103 (.agg (([.int .i64 0]) ++ ([.map none]) ++ ([.map none]) ++ ([.slice none 0 0]) ++ ([.int .i64 0]) : List Value).toArray) 5 56 := by unfold TI; kernel_rfl
theorem fa103_0 : faB Try.prog 103 0 = some (0, 1, 3) := by kernel_rfl
theorem pl103_0 : plB Try.prog 103 0 = some (0, 1) := by kernel_rfl
theorem fa103_1 : faB Try.prog 103 1 = some (1, 1, 100) := by kernel_rfl
theorem pl103_1 : plB Try.prog 103 1 = some (1, 1) := by kernel_rfl
theorem fa103_2 : faB Try.prog 103 2 = some (2, 1, 100) := by kernel_rfl
theorem pl103_2 : plB Try.prog 103 2 = some (2, 1) := by kernel_rfl
theorem fa103_3 : faB Try.prog 103 3 = some (3, 1, 101) := by kernel_rfl
theorem pl103_3 : plB Try.prog 103 3 = some (3, 1) := by kernel_rfl
theorem fa103_4 : faB Try.prog 103 4 = some (4, 1, 3) := by kernel_rfl
theorem pl103_4 : plB Try.prog 103 4 = some (4, 1) := by kernel_rfl
theorem ag106 : aggB Try.prog 106 = some true := by kernel_rfl
theorem sz106 : szB Try.prog 106 = some 2 := by kernel_rfl
theorem ti106 : TI Try.prog 106 (.agg (([.string ⟨#[]⟩]) ++ ([.slice none 0 0]) : List Value).toArray) 2 40 := by unfold TI; kernel_rfl
theorem fa106_0 : faB Try.prog 106 0 = some (0, 1, 9) := by kernel_rfl
theorem pl106_0 : plB Try.prog 106 0 = some (0, 1) := by kernel_rfl
theorem fa106_1 : faB Try.prog 106 1 = some (1, 1, 29) := by kernel_rfl
theorem pl106_1 : plB Try.prog 106 1 = some (1, 1) := by kernel_rfl
theorem ag107 : aggB Try.prog 107 = some true := by kernel_rfl
theorem sz107 : szB Try.prog 107 = some 2 := by kernel_rfl
theorem ti107 : TI Try.prog 107 (.agg (([.string ⟨#[]⟩]) ++ ([.slice none 0 0]) : List Value).toArray) 2 40 := by unfold TI; kernel_rfl
theorem fa107_0 : faB Try.prog 107 0 = some (0, 1, 9) := by kernel_rfl
theorem pl107_0 : plB Try.prog 107 0 = some (0, 1) := by kernel_rfl
theorem fa107_1 : faB Try.prog 107 1 = some (1, 1, 29) := by kernel_rfl
theorem pl107_1 : plB Try.prog 107 1 = some (1, 1) := by kernel_rfl
theorem ag110 : aggB Try.prog 110 = some false := by kernel_rfl
theorem sz110 : szB Try.prog 110 = some 1 := by kernel_rfl
theorem ti110 : TI Try.prog 110 (.nilIface) 1 16 := by unfold TI; kernel_rfl
theorem ag111 : aggB Try.prog 111 = some false := by kernel_rfl
theorem sz111 : szB Try.prog 111 = some 1 := by kernel_rfl
theorem ti111 : TI Try.prog 111 (.nilIface) 1 16 := by unfold TI; kernel_rfl
theorem ag114 : aggB Try.prog 114 = some false := by kernel_rfl
theorem sz114 : szB Try.prog 114 = some 1 := by kernel_rfl
theorem ti114 : TI Try.prog 114 (.int .u64 0) 1 8 := by unfold TI; kernel_rfl
theorem ag133 : aggB Try.prog 133 = some false := by kernel_rfl
theorem sz133 : szB Try.prog 133 = some 1 := by kernel_rfl
theorem ti133 : TI Try.prog 133 (.pointer none) 1 8 := by unfold TI; kernel_rfl
theorem ag135 : aggB Try.prog 135 = some false := by kernel_rfl
theorem sz135 : szB Try.prog 135 = some 1 := by kernel_rfl
theorem ti135 : TI Try.prog 135 (.pointer none) 1 8 := by unfold TI; kernel_rfl
theorem ag137 : aggB Try.prog 137 = some false := by kernel_rfl
theorem sz137 : szB Try.prog 137 = some 1 := by kernel_rfl
theorem ti137 : TI Try.prog 137 (.pointer none) 1 8 := by unfold TI; kernel_rfl
theorem ag148 : aggB Try.prog 148 = some false := by kernel_rfl
theorem sz148 : szB Try.prog 148 = some 1 := by kernel_rfl
theorem ti148 : TI Try.prog 148 (.pointer none) 1 8 := by unfold TI; kernel_rfl
theorem ag162 : aggB Try.prog 162 = some false := by kernel_rfl
theorem sz162 : szB Try.prog 162 = some 1 := by kernel_rfl
theorem ti162 : TI Try.prog 162 (.pointer none) 1 8 := by unfold TI; kernel_rfl
end Go.Proofs.Ytpcgpnijhpcbeaa
