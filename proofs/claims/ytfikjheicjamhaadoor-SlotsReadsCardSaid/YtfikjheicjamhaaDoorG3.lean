import Derived.Test.YtfikjheicjamhaaDoorG1
import Derived.Test.YtfikjheicjamhaaDoorProg
import Derived.KernelRfl
import Derived.Lib.Bytealg
import Derived.Lib.BytesEntry
import Derived.Laws.BitsAllLaws
import Derived.Test.YtfikjheicjamhaaDoorG2
import Derived.ProofKit
import Derived.OpenShut
import Derived.ShutString
import Derived.ChangeOld
import Derived.SizedLaws
import Derived.ChangeSame
section
/- Closed facts on the types of this seat, printed by a program of mine. No statement is proved here. -/
namespace Go.Proofs.YtfikjheicjamhaaDoor
open Go.Eng
theorem ag2 : aggB Tryd.prog 2 = some false := by kernel_rfl
theorem sz2 : szB Tryd.prog 2 = some 1 := by kernel_rfl
theorem ti2 : TI Tryd.prog 2 (.int .i64 0) 1 8 := by unfold TI; kernel_rfl
theorem ag3 : aggB Tryd.prog 3 = some false := by kernel_rfl
theorem sz3 : szB Tryd.prog 3 = some 1 := by kernel_rfl
theorem ti3 : TI Tryd.prog 3 (.int .i64 0) 1 8 := by unfold TI; kernel_rfl
theorem ag4 : aggB Tryd.prog 4 = some false := by kernel_rfl
theorem sz4 : szB Tryd.prog 4 = some 1 := by kernel_rfl
theorem ti4 : TI Tryd.prog 4 (.bool false) 1 1 := by unfold TI; kernel_rfl
theorem ag5 : aggB Tryd.prog 5 = some false := by kernel_rfl
theorem sz5 : szB Tryd.prog 5 = some 1 := by kernel_rfl
theorem ti5 : TI Tryd.prog 5 (.int .u8 0) 1 1 := by unfold TI; kernel_rfl
theorem ag9 : aggB Tryd.prog 9 = some false := by kernel_rfl
theorem sz9 : szB Tryd.prog 9 = some 1 := by kernel_rfl
theorem ti9 : TI Tryd.prog 9 (.string ⟨#[]⟩) 1 16 := by unfold TI; kernel_rfl
theorem ag12 : aggB Tryd.prog 12 = some false := by kernel_rfl
theorem sz12 : szB Tryd.prog 12 = some 1 := by kernel_rfl
theorem ti12 : TI Tryd.prog 12 (.int .u64 0) 1 8 := by unfold TI; kernel_rfl
theorem ag13 : aggB Tryd.prog 13 = some true := by kernel_rfl
theorem sz13 : szB Tryd.prog 13 = some 2 := by kernel_rfl
theorem ti13 : TI Tryd.prog 13 (.agg (([.string ⟨#[]⟩]) ++ ([.int .u64 0]) : List Value).toArray) 2 24 := by unfold TI; kernel_rfl
theorem fa13_0 : faB Tryd.prog 13 0 = some (0, 1, 9) := by kernel_rfl
theorem pl13_0 : plB Tryd.prog 13 0 = some (0, 1) := by kernel_rfl
theorem fa13_1 : faB Tryd.prog 13 1 = some (1, 1, 12) := by kernel_rfl
theorem pl13_1 : plB Tryd.prog 13 1 = some (1, 1) := by kernel_rfl
theorem ag20 : aggB Tryd.prog 20 = some false := by kernel_rfl
theorem sz20 : szB Tryd.prog 20 = some 1 := by kernel_rfl
theorem ti20 : TI Tryd.prog 20 (.nilIface) 1 16 := by unfold TI; kernel_rfl
theorem ag21 : aggB Tryd.prog 21 = some false := by kernel_rfl
theorem sz21 : szB Tryd.prog 21 = some 1 := by kernel_rfl
theorem ti21 : TI Tryd.prog 21 (.int .i32 0) 1 4 := by unfold TI; kernel_rfl
theorem ag22 : aggB Tryd.prog 22 = some true := by kernel_rfl
theorem sz22 : szB Tryd.prog 22 = some 32 := by kernel_rfl
theorem ti22 : TI Tryd.prog 22 (.agg (b8s (List.replicate 32 0) : List Value).toArray) 32 32 := by unfold TI; kernel_rfl
theorem klD22 {l : List UInt8} (h : l.length = 32) : Tryd.prog.keyLits 2 22 (b8s l) = some (l.map fun b => Lit.int .u8 (b.toNat : Int)) := keyLits_b8 (D := 0) Tryd.underlying22 Tryd.underlying5 (by kernel_rfl) (by kernel_rfl) h
theorem y_eqD22 {N : Nat} {D : List Deferred} {ρ : Env} {w : World} {ty t' : TypeId} {x y : Operand} {l m : List UInt8} (hx : ev ρ x = some (.agg (b8s l).toArray)) (hy : ev ρ y = some (.agg (b8s m).toArray)) (hl : l.length = 32) (hm : m.length = 32) : Yl Tryd.prog N D ρ w (.binOp .eql 22 x y t') ty (.bool (decide (l = m))) :=
  y_eqK (m := 5) hx hy (by decide) (by kernel_rfl) (by kernel_rfl) ag22 (by rw [b8s_length, hl]; kernel_rfl) (by rw [b8s_length, hm]; kernel_rfl) (klD22 hl) (klD22 hm) lits_b8_inj
theorem y_neD22 {N : Nat} {D : List Deferred} {ρ : Env} {w : World} {ty t' : TypeId} {x y : Operand} {l m : List UInt8} (hx : ev ρ x = some (.agg (b8s l).toArray)) (hy : ev ρ y = some (.agg (b8s m).toArray)) (hl : l.length = 32) (hm : m.length = 32) : Yl Tryd.prog N D ρ w (.binOp .neq 22 x y t') ty (.bool (decide (¬ l = m))) :=
  y_neK (m := 5) hx hy (by decide) (by kernel_rfl) (by kernel_rfl) ag22 (by rw [b8s_length, hl]; kernel_rfl) (by rw [b8s_length, hm]; kernel_rfl) (klD22 hl) (klD22 hm) lits_b8_inj
theorem ag23 : aggB Tryd.prog 23 = some true := by kernel_rfl
theorem sz23 : szB Tryd.prog 23 = some 32 := by kernel_rfl
theorem ti23 : TI Tryd.prog 23 (.agg (b8s (List.replicate 32 0) : List Value).toArray) 32 32 := by unfold TI; kernel_rfl
theorem klD23 {l : List UInt8} (h : l.length = 32) : Tryd.prog.keyLits 2 23 (b8s l) = some (l.map fun b => Lit.int .u8 (b.toNat : Int)) := keyLits_b8 (D := 0) Tryd.underlying23 Tryd.underlying5 (by kernel_rfl) (by kernel_rfl) h
theorem y_eqD23 {N : Nat} {D : List Deferred} {ρ : Env} {w : World} {ty t' : TypeId} {x y : Operand} {l m : List UInt8} (hx : ev ρ x = some (.agg (b8s l).toArray)) (hy : ev ρ y = some (.agg (b8s m).toArray)) (hl : l.length = 32) (hm : m.length = 32) : Yl Tryd.prog N D ρ w (.binOp .eql 23 x y t') ty (.bool (decide (l = m))) :=
  y_eqK (m := 5) hx hy (by decide) (by kernel_rfl) (by kernel_rfl) ag23 (by rw [b8s_length, hl]; kernel_rfl) (by rw [b8s_length, hm]; kernel_rfl) (klD23 hl) (klD23 hm) lits_b8_inj
theorem y_neD23 {N : Nat} {D : List Deferred} {ρ : Env} {w : World} {ty t' : TypeId} {x y : Operand} {l m : List UInt8} (hx : ev ρ x = some (.agg (b8s l).toArray)) (hy : ev ρ y = some (.agg (b8s m).toArray)) (hl : l.length = 32) (hm : m.length = 32) : Yl Tryd.prog N D ρ w (.binOp .neq 23 x y t') ty (.bool (decide (¬ l = m))) :=
  y_neK (m := 5) hx hy (by decide) (by kernel_rfl) (by kernel_rfl) ag23 (by rw [b8s_length, hl]; kernel_rfl) (by rw [b8s_length, hm]; kernel_rfl) (klD23 hl) (klD23 hm) lits_b8_inj
theorem ag24 : aggB Tryd.prog 24 = some true := by kernel_rfl
theorem sz24 : szB Tryd.prog 24 = some 34 := by kernel_rfl
theorem ti24 : TI Tryd.prog 24 (.agg (([.bool false]) ++ (b8s (List.replicate 32 0)) ++ ([.int .i64 0]) : List Value).toArray) 34 48 := by unfold TI; kernel_rfl
theorem fa24_0 : faB Tryd.prog 24 0 = some (0, 1, 4) := by kernel_rfl
theorem pl24_0 : plB Tryd.prog 24 0 = some (0, 1) := by kernel_rfl
theorem fa24_1 : faB Tryd.prog 24 1 = some (1, 32, 23) := by kernel_rfl
theorem pl24_1 : plB Tryd.prog 24 1 = some (1, 32) := by kernel_rfl
theorem fa24_2 : faB Tryd.prog 24 2 = some (33, 1, 3) := by kernel_rfl
theorem pl24_2 : plB Tryd.prog 24 2 = some (33, 1) := by kernel_rfl
theorem ag25 : aggB Tryd.prog 25 = some true := by kernel_rfl
theorem sz25 : szB Tryd.prog 25 = some 34 := by kernel_rfl
theorem ti25 : TI Tryd.prog 25 (.agg (([.bool false]) ++ (b8s (List.replicate 32 0)) ++ ([.int .i64 0]) : List Value).toArray) 34 48 := by unfold TI; kernel_rfl
theorem fa25_0 : faB Tryd.prog 25 0 = some (0, 1, 4) := by kernel_rfl
theorem pl25_0 : plB Tryd.prog 25 0 = some (0, 1) := by kernel_rfl
theorem fa25_1 : faB Tryd.prog 25 1 = some (1, 32, 23) := by kernel_rfl
theorem pl25_1 : plB Tryd.prog 25 1 = some (1, 32) := by kernel_rfl
theorem fa25_2 : faB Tryd.prog 25 2 = some (33, 1, 3) := by kernel_rfl
theorem pl25_2 : plB Tryd.prog 25 2 = some (33, 1) := by kernel_rfl
theorem ag26 : aggB Tryd.prog 26 = some true := by kernel_rfl
theorem sz26 : szB Tryd.prog 26 = some 70 := by kernel_rfl
theorem ti26 : TI Tryd.prog 26 (.agg (([.int .i64 0]) ++ ([.int .i64 0]) ++ (([.bool false]) ++ (b8s (List.replicate 32 0)) ++ ([.int .i64 0])) ++ (([.bool false]) ++ (b8s (List.replicate 32 0)) ++ ([.int .i64 0])) : List Value).toArray) 70 112 := by unfold TI; kernel_rfl
theorem fa26_0 : faB Tryd.prog 26 0 = some (0, 1, 3) := by kernel_rfl
theorem pl26_0 : plB Tryd.prog 26 0 = some (0, 1) := by kernel_rfl
theorem fa26_1 : faB Tryd.prog 26 1 = some (1, 1, 3) := by kernel_rfl
theorem pl26_1 : plB Tryd.prog 26 1 = some (1, 1) := by kernel_rfl
theorem fa26_2 : faB Tryd.prog 26 2 = some (2, 34, 25) := by kernel_rfl
theorem pl26_2 : plB Tryd.prog 26 2 = some (2, 34) := by kernel_rfl
theorem fa26_3 : faB Tryd.prog 26 3 = some (36, 34, 25) := by kernel_rfl
theorem pl26_3 : plB Tryd.prog 26 3 = some (36, 34) := by kernel_rfl
theorem ag27 : aggB Tryd.prog 27 = some true := by kernel_rfl
theorem sz27 : szB Tryd.prog 27 = some 70 := by kernel_rfl
theorem ti27 : TI Tryd.prog 27 (.agg (([.int .i64 0]) ++ ([.int .i64 0]) ++ (([.bool false]) ++ (b8s (List.replicate 32 0)) ++ ([.int .i64 0])) ++ (([.bool false]) ++ (b8s (List.replicate 32 0)) ++ ([.int .i64 0])) : List Value).toArray) 70 112 := by unfold TI; kernel_rfl
theorem fa27_0 : faB Tryd.prog 27 0 = some (0, 1, 3) := by kernel_rfl
theorem pl27_0 : plB Tryd.prog 27 0 = some (0, 1) := by kernel_rfl
theorem fa27_1 : faB Tryd.prog 27 1 = some (1, 1, 3) := by kernel_rfl
theorem pl27_1 : plB Tryd.prog 27 1 = some (1, 1) := by kernel_rfl
theorem fa27_2 : faB Tryd.prog 27 2 = some (2, 34, 25) := by kernel_rfl
theorem pl27_2 : plB Tryd.prog 27 2 = some (2, 34) := by kernel_rfl
theorem fa27_3 : faB Tryd.prog 27 3 = some (36, 34, 25) := by kernel_rfl
theorem pl27_3 : plB Tryd.prog 27 3 = some (36, 34) := by kernel_rfl
theorem ag30 : aggB Tryd.prog 30 = some false := by kernel_rfl
theorem sz30 : szB Tryd.prog 30 = some 1 := by kernel_rfl
theorem ti30 : TI Tryd.prog 30 (.slice none 0 0) 1 24 := by unfold TI; kernel_rfl
theorem ag32 : aggB Tryd.prog 32 = some false := by kernel_rfl
theorem sz32 : szB Tryd.prog 32 = some 1 := by kernel_rfl
theorem ti32 : TI Tryd.prog 32 (.slice none 0 0) 1 24 := by unfold TI; kernel_rfl
theorem ag33 : aggB Tryd.prog 33 = some false := by kernel_rfl
theorem sz33 : szB Tryd.prog 33 = some 1 := by kernel_rfl
theorem ti33 : TI Tryd.prog 33 (.int .i64 0) 1 8 := by unfold TI; kernel_rfl
theorem ag36 : aggB Tryd.prog 36 = some true := by kernel_rfl
theorem sz36 : szB Tryd.prog 36 = some 34 := by kernel_rfl
theorem ti36 : TI Tryd.prog 36 (.agg (([.bool false]) ++ (b8s (List.replicate 32 0)) ++ ([.int .i64 0]) : List Value).toArray) 34 48 := by unfold TI; kernel_rfl
theorem fa36_0 : faB Tryd.prog 36 0 = some (0, 1, 4) := by kernel_rfl
theorem pl36_0 : plB Tryd.prog 36 0 = some (0, 1) := by kernel_rfl
theorem fa36_1 : faB Tryd.prog 36 1 = some (1, 32, 23) := by kernel_rfl
theorem pl36_1 : plB Tryd.prog 36 1 = some (1, 32) := by kernel_rfl
theorem fa36_2 : faB Tryd.prog 36 2 = some (33, 1, 3) := by kernel_rfl
theorem pl36_2 : plB Tryd.prog 36 2 = some (33, 1) := by kernel_rfl
theorem ag37 : aggB Tryd.prog 37 = some true := by kernel_rfl
theorem sz37 : szB Tryd.prog 37 = some 68 := by kernel_rfl
theorem ti37 : TI Tryd.prog 37 (.agg ((List.replicate 2 (([.bool false]) ++ (b8s (List.replicate 32 0)) ++ ([.int .i64 0]))).flatten : List Value).toArray) 68 96 := by unfold TI; kernel_rfl
theorem ag38 : aggB Tryd.prog 38 = some true := by kernel_rfl
theorem sz38 : szB Tryd.prog 38 = some 70 := by kernel_rfl
theorem ti38 : TI Tryd.prog 38 (.agg (([.int .i64 0]) ++ ([.int .i64 0]) ++ ((List.replicate 2 (([.bool false]) ++ (b8s (List.replicate 32 0)) ++ ([.int .i64 0]))).flatten) : List Value).toArray) 70 112 := by unfold TI; kernel_rfl
theorem fa38_0 : faB Tryd.prog 38 0 = some (0, 1, 3) := by kernel_rfl
theorem pl38_0 : plB Tryd.prog 38 0 = some (0, 1) := by kernel_rfl
theorem fa38_1 : faB Tryd.prog 38 1 = some (1, 1, 3) := by kernel_rfl
theorem pl38_1 : plB Tryd.prog 38 1 = some (1, 1) := by kernel_rfl
theorem fa38_2 : faB Tryd.prog 38 2 = some (2, 68, 37) := by kernel_rfl
theorem pl38_2 : plB Tryd.prog 38 2 = some (2, 68) := by kernel_rfl
theorem ag39 : aggB Tryd.prog 39 = some true := by kernel_rfl
theorem sz39 : szB Tryd.prog 39 = some 70 := by kernel_rfl
theorem ti39 : TI Tryd.prog 39 (.agg (([.int .i64 0]) ++ ([.int .i64 0]) ++ ((List.replicate 2 (([.bool false]) ++ (b8s (List.replicate 32 0)) ++ ([.int .i64 0]))).flatten) : List Value).toArray) 70 112 := by unfold TI; kernel_rfl
theorem fa39_0 : faB Tryd.prog 39 0 = some (0, 1, 3) := by kernel_rfl
theorem pl39_0 : plB Tryd.prog 39 0 = some (0, 1) := by kernel_rfl
theorem fa39_1 : faB Tryd.prog 39 1 = some (1, 1, 3) := by kernel_rfl
theorem pl39_1 : plB Tryd.prog 39 1 = some (1, 1) := by kernel_rfl
theorem fa39_2 : faB Tryd.prog 39 2 = some (2, 68, 37) := by kernel_rfl
theorem pl39_2 : plB Tryd.prog 39 2 = some (2, 68) := by kernel_rfl
theorem ag47 : aggB Tryd.prog 47 = some false := by kernel_rfl
theorem sz47 : szB Tryd.prog 47 = some 1 := by kernel_rfl
theorem ti47 : TI Tryd.prog 47 (.slice none 0 0) 1 24 := by unfold TI; kernel_rfl
theorem ag54 : aggB Tryd.prog 54 = some false := by kernel_rfl
theorem sz54 : szB Tryd.prog 54 = some 1 := by kernel_rfl
theorem ti54 : TI Tryd.prog 54 (.pointer none) 1 8 := by unfold TI; kernel_rfl
theorem ag58 : aggB Tryd.prog 58 = some false := by kernel_rfl
theorem sz58 : szB Tryd.prog 58 = some 1 := by kernel_rfl
theorem ti58 : TI Tryd.prog 58 (.pointer none) 1 8 := by unfold TI; kernel_rfl
theorem ag59 : aggB Tryd.prog 59 = some false := by kernel_rfl
theorem sz59 : szB Tryd.prog 59 = some 1 := by kernel_rfl
theorem ti59 : TI Tryd.prog 59 (.slice none 0 0) 1 24 := by unfold TI; kernel_rfl
theorem ag60 : aggB Tryd.prog 60 = some false := by kernel_rfl
theorem sz60 : szB Tryd.prog 60 = some 1 := by kernel_rfl
theorem ti60 : TI Tryd.prog 60 (.slice none 0 0) 1 24 := by unfold TI; kernel_rfl
theorem ag61 : aggB Tryd.prog 61 = some true := by kernel_rfl
theorem sz61 : szB Tryd.prog 61 = some 5 := by kernel_rfl
theorem ti61 : TI Tryd.prog 61 (.agg (([.int .i64 0]) ++ ([.slice none 0 0]) ++ ([.slice none 0 0]) ++ ([.slice none 0 0]) ++ ([.int .i64 0]) : List Value).toArray) 5 88 := by unfold TI; kernel_rfl
theorem fa61_0 : faB Tryd.prog 61 0 = some (0, 1, 3) := by kernel_rfl
theorem pl61_0 : plB Tryd.prog 61 0 = some (0, 1) := by kernel_rfl
theorem fa61_1 : faB Tryd.prog 61 1 = some (1, 1, 59) := by kernel_rfl
theorem pl61_1 : plB Tryd.prog 61 1 = some (1, 1) := by kernel_rfl
theorem fa61_2 : faB Tryd.prog 61 2 = some (2, 1, 59) := by kernel_rfl
theorem pl61_2 : plB Tryd.prog 61 2 = some (2, 1) := by kernel_rfl
theorem fa61_3 : faB Tryd.prog 61 3 = some (3, 1, 60) := by kernel_rfl
theorem pl61_3 : plB Tryd.prog 61 3 = some (3, 1) := by kernel_rfl
theorem fa61_4 : faB Tryd.prog 61 4 = some (4, 1, 3) := by kernel_rfl
theorem pl61_4 : plB Tryd.prog 61 4 = some (4, 1) := by kernel_rfl
theorem ag62 : aggB Tryd.prog 62 = some true := by kernel_rfl
theorem sz62 : szB Tryd.prog 62 = some 5 := by kernel_rfl
theorem ti62 : TI Tryd.prog 62 (.agg (([.int .i64 0]) ++ ([.slice none 0 0]) ++ ([.slice none 0 0]) ++ ([.slice none 0 0]) ++ ([.int .i64 0]) : List Value).toArray) 5 88 := by unfold TI; kernel_rfl
theorem fa62_0 : faB Tryd.prog 62 0 = some (0, 1, 3) := by kernel_rfl
theorem pl62_0 : plB Tryd.prog 62 0 = some (0, 1) := by kernel_rfl
theorem fa62_1 : faB Tryd.prog 62 1 = some (1, 1, 59) := by kernel_rfl
theorem pl62_1 : plB Tryd.prog 62 1 = some (1, 1) := by kernel_rfl
theorem fa62_2 : faB Tryd.prog 62 2 = some (2, 1, 59) := by kernel_rfl
theorem pl62_2 : plB Tryd.prog 62 2 = some (2, 1) := by kernel_rfl
theorem fa62_3 : faB Tryd.prog 62 3 = some (3, 1, 60) := by kernel_rfl
theorem pl62_3 : plB Tryd.prog 62 3 = some (3, 1) := by kernel_rfl
theorem fa62_4 : faB Tryd.prog 62 4 = some (4, 1, 3) := by kernel_rfl
theorem pl62_4 : plB Tryd.prog 62 4 = some (4, 1) := by kernel_rfl
theorem ag63 : aggB Tryd.prog 63 = some true := by kernel_rfl
theorem sz63 : szB Tryd.prog 63 = some 6 := by kernel_rfl
theorem ti63 : TI Tryd.prog 63 (.agg (([.pointer none]) ++ (([.int .i64 0]) ++ ([.slice none 0 0]) ++ ([.slice none 0 0]) ++ ([.slice none 0 0]) ++ ([.int .i64 0])) : List Value).toArray) 6 96 := by unfold TI; kernel_rfl
theorem fa63_0 : faB Tryd.prog 63 0 = some (0, 1, 58) := by kernel_rfl
theorem pl63_0 : plB Tryd.prog 63 0 = some (0, 1) := by kernel_rfl
theorem fa63_1 : faB Tryd.prog 63 1 = some (1, 5, 62) := by kernel_rfl
theorem pl63_1 : plB Tryd.prog 63 1 = some (1, 5) := by kernel_rfl
theorem ag64 : aggB Tryd.prog 64 = some true := by kernel_rfl
theorem sz64 : szB Tryd.prog 64 = some 6 := by kernel_rfl
theorem ti64 : TI Tryd.prog 64 (.agg (([.pointer none]) ++ (([.int .i64 0]) ++ ([.slice none 0 0]) ++ ([.slice none 0 0]) ++ ([.slice none 0 0]) ++ ([.int .i64 0])) : List Value).toArray) 6 96 := by unfold TI; kernel_rfl
theorem fa64_0 : faB Tryd.prog 64 0 = some (0, 1, 58) := by kernel_rfl
theorem pl64_0 : plB Tryd.prog 64 0 = some (0, 1) := by kernel_rfl
theorem fa64_1 : faB Tryd.prog 64 1 = some (1, 5, 62) := by kernel_rfl
theorem pl64_1 : plB Tryd.prog 64 1 = some (1, 5) := by kernel_rfl
theorem ag70 : aggB Tryd.prog 70 = some false := by kernel_rfl
theorem sz70 : szB Tryd.prog 70 = some 1 := by kernel_rfl
theorem ti70 : TI Tryd.prog 70 (.slice none 0 0) 1 24 := by unfold TI; kernel_rfl
theorem ag72 : aggB Tryd.prog 72 = some false := by kernel_rfl
theorem sz72 : szB Tryd.prog 72 = some 1 := by kernel_rfl
theorem ti72 : TI Tryd.prog 72 (.slice none 0 0) 1 24 := by unfold TI; kernel_rfl
theorem ag78 : aggB Tryd.prog 78 = some false := by kernel_rfl
theorem sz78 : szB Tryd.prog 78 = some 1 := by kernel_rfl
theorem ti78 : TI Tryd.prog 78 (.pointer none) 1 8 := by unfold TI; kernel_rfl
theorem ag82 : aggB Tryd.prog 82 = some true := by kernel_rfl
theorem sz82 : szB Tryd.prog 82 = some 6 := by kernel_rfl
theorem ti82 : TI Tryd.prog 82 (.agg (([.pointer none]) ++ (([.int .i64 0]) ++ ([.slice none 0 0]) ++ ([.slice none 0 0]) ++ ([.slice none 0 0]) ++ ([.int .i64 0])) : List Value).toArray) 6 96 := by unfold TI; kernel_rfl
theorem fa82_0 : faB Tryd.prog 82 0 = some (0, 1, 58) := by kernel_rfl
theorem pl82_0 : plB Tryd.prog 82 0 = some (0, 1) := by kernel_rfl
theorem fa82_1 : faB Tryd.prog 82 1 = some (1, 5, 62) := by kernel_rfl
theorem pl82_1 : plB Tryd.prog 82 1 = some (1, 5) := by kernel_rfl
theorem ag86 : aggB Tryd.prog 86 = some false := by kernel_rfl
theorem sz86 : szB Tryd.prog 86 = some 1 := by kernel_rfl
theorem ti86 : TI Tryd.prog 86 (.slice none 0 0) 1 24 := by unfold TI; kernel_rfl
theorem ag89 : aggB Tryd.prog 89 = some false := by kernel_rfl
theorem sz89 : szB Tryd.prog 89 = some 1 := by kernel_rfl
theorem ti89 : TI Tryd.prog 89 (.slice none 0 0) 1 24 := by unfold TI; kernel_rfl
theorem ag90 : aggB Tryd.prog 90 = some false := by kernel_rfl
theorem sz90 : szB Tryd.prog 90 = some 1 := by kernel_rfl
theorem ti90 : TI Tryd.prog 90 (.pointer none) 1 8 := by unfold TI; kernel_rfl
theorem ag92 : aggB Tryd.prog 92 = some false := by kernel_rfl
theorem sz92 : szB Tryd.prog 92 = some 1 := by kernel_rfl
theorem ti92 : TI Tryd.prog 92 (.slice none 0 0) 1 24 := by unfold TI; kernel_rfl
theorem ag93 : aggB Tryd.prog 93 = some true := by kernel_rfl
theorem sz93 : szB Tryd.prog 93 = some 35 := by kernel_rfl
theorem ti93 : TI Tryd.prog 93 (.agg (([.int .i64 0]) ++ ([.int .i64 0]) ++ (b8s (List.replicate 32 0)) ++ ([.string ⟨#[]⟩]) : List Value).toArray) 35 64 := by unfold TI; kernel_rfl
theorem fa93_0 : faB Tryd.prog 93 0 = some (0, 1, 3) := by kernel_rfl
theorem pl93_0 : plB Tryd.prog 93 0 = some (0, 1) := by kernel_rfl
theorem fa93_1 : faB Tryd.prog 93 1 = some (1, 1, 3) := by kernel_rfl
theorem pl93_1 : plB Tryd.prog 93 1 = some (1, 1) := by kernel_rfl
theorem fa93_2 : faB Tryd.prog 93 2 = some (2, 32, 23) := by kernel_rfl
theorem pl93_2 : plB Tryd.prog 93 2 = some (2, 32) := by kernel_rfl
theorem fa93_3 : faB Tryd.prog 93 3 = some (34, 1, 9) := by kernel_rfl
theorem pl93_3 : plB Tryd.prog 93 3 = some (34, 1) := by kernel_rfl
theorem ag94 : aggB Tryd.prog 94 = some true := by kernel_rfl
theorem sz94 : szB Tryd.prog 94 = some 35 := by kernel_rfl
theorem ti94 : TI Tryd.prog 94 (.agg (([.int .i64 0]) ++ ([.int .i64 0]) ++ (b8s (List.replicate 32 0)) ++ ([.string ⟨#[]⟩]) : List Value).toArray) 35 64 := by unfold TI; kernel_rfl
theorem fa94_0 : faB Tryd.prog 94 0 = some (0, 1, 3) := by kernel_rfl
theorem pl94_0 : plB Tryd.prog 94 0 = some (0, 1) := by kernel_rfl
theorem fa94_1 : faB Tryd.prog 94 1 = some (1, 1, 3) := by kernel_rfl
theorem pl94_1 : plB Tryd.prog 94 1 = some (1, 1) := by kernel_rfl
theorem fa94_2 : faB Tryd.prog 94 2 = some (2, 32, 23) := by kernel_rfl
theorem pl94_2 : plB Tryd.prog 94 2 = some (2, 32) := by kernel_rfl
theorem fa94_3 : faB Tryd.prog 94 3 = some (34, 1, 9) := by kernel_rfl
theorem pl94_3 : plB Tryd.prog 94 3 = some (34, 1) := by kernel_rfl
theorem ag95 : aggB Tryd.prog 95 = some true := by kernel_rfl
theorem sz95 : szB Tryd.prog 95 = some 38 := by kernel_rfl
theorem ti95 : TI Tryd.prog 95 (.agg (([.int .i64 0]) ++ ([.int .i64 0]) ++ (([.int .i64 0]) ++ ([.int .i64 0]) ++ (b8s (List.replicate 32 0)) ++ ([.string ⟨#[]⟩])) ++ ([.slice none 0 0]) : List Value).toArray) 38 104 := by unfold TI; kernel_rfl
theorem fa95_0 : faB Tryd.prog 95 0 = some (0, 1, 3) := by kernel_rfl
theorem pl95_0 : plB Tryd.prog 95 0 = some (0, 1) := by kernel_rfl
theorem fa95_1 : faB Tryd.prog 95 1 = some (1, 1, 3) := by kernel_rfl
theorem pl95_1 : plB Tryd.prog 95 1 = some (1, 1) := by kernel_rfl
theorem fa95_2 : faB Tryd.prog 95 2 = some (2, 35, 94) := by kernel_rfl
theorem pl95_2 : plB Tryd.prog 95 2 = some (2, 35) := by kernel_rfl
theorem fa95_3 : faB Tryd.prog 95 3 = some (37, 1, 32) := by kernel_rfl
theorem pl95_3 : plB Tryd.prog 95 3 = some (37, 1) := by kernel_rfl
theorem ag96 : aggB Tryd.prog 96 = some true := by kernel_rfl
theorem sz96 : szB Tryd.prog 96 = some 38 := by kernel_rfl
theorem ti96 : TI Tryd.prog 96 (.agg (([.int .i64 0]) ++ ([.int .i64 0]) ++ (([.int .i64 0]) ++ ([.int .i64 0]) ++ (b8s (List.replicate 32 0)) ++ ([.string ⟨#[]⟩])) ++ ([.slice none 0 0]) : List Value).toArray) 38 104 := by unfold TI; kernel_rfl
theorem fa96_0 : faB Tryd.prog 96 0 = some (0, 1, 3) := by kernel_rfl
theorem pl96_0 : plB Tryd.prog 96 0 = some (0, 1) := by kernel_rfl
theorem fa96_1 : faB Tryd.prog 96 1 = some (1, 1, 3) := by kernel_rfl
theorem pl96_1 : plB Tryd.prog 96 1 = some (1, 1) := by kernel_rfl
theorem fa96_2 : faB Tryd.prog 96 2 = some (2, 35, 94) := by kernel_rfl
theorem pl96_2 : plB Tryd.prog 96 2 = some (2, 35) := by kernel_rfl
theorem fa96_3 : faB Tryd.prog 96 3 = some (37, 1, 32) := by kernel_rfl
theorem pl96_3 : plB Tryd.prog 96 3 = some (37, 1) := by kernel_rfl
theorem ag110 : aggB Tryd.prog 110 = some true := by kernel_rfl
theorem sz110 : szB Tryd.prog 110 = some 35 := by kernel_rfl
theorem ti110 : TI Tryd.prog 110 (.agg (([.int .i64 0]) ++ ([.int .i64 0]) ++ (b8s (List.replicate 32 0)) ++ ([.slice none 0 0]) : List Value).toArray) 35 72 := by unfold TI; kernel_rfl
theorem fa110_0 : faB Tryd.prog 110 0 = some (0, 1, 3) := by kernel_rfl
theorem pl110_0 : plB Tryd.prog 110 0 = some (0, 1) := by kernel_rfl
theorem fa110_1 : faB Tryd.prog 110 1 = some (1, 1, 3) := by kernel_rfl
theorem pl110_1 : plB Tryd.prog 110 1 = some (1, 1) := by kernel_rfl
theorem fa110_2 : faB Tryd.prog 110 2 = some (2, 32, 23) := by kernel_rfl
theorem pl110_2 : plB Tryd.prog 110 2 = some (2, 32) := by kernel_rfl
theorem fa110_3 : faB Tryd.prog 110 3 = some (34, 1, 32) := by kernel_rfl
theorem pl110_3 : plB Tryd.prog 110 3 = some (34, 1) := by kernel_rfl
theorem ag111 : aggB Tryd.prog 111 = some true := by kernel_rfl
theorem sz111 : szB Tryd.prog 111 = some 35 := by kernel_rfl
theorem ti111 : TI Tryd.prog 111 (.agg (([.int .i64 0]) ++ ([.int .i64 0]) ++ (b8s (List.replicate 32 0)) ++ ([.slice none 0 0]) : List Value).toArray) 35 72 := by unfold TI; kernel_rfl
theorem fa111_0 : faB Tryd.prog 111 0 = some (0, 1, 3) := by kernel_rfl
theorem pl111_0 : plB Tryd.prog 111 0 = some (0, 1) := by kernel_rfl
theorem fa111_1 : faB Tryd.prog 111 1 = some (1, 1, 3) := by kernel_rfl
theorem pl111_1 : plB Tryd.prog 111 1 = some (1, 1) := by kernel_rfl
theorem fa111_2 : faB Tryd.prog 111 2 = some (2, 32, 23) := by kernel_rfl
theorem pl111_2 : plB Tryd.prog 111 2 = some (2, 32) := by kernel_rfl
theorem fa111_3 : faB Tryd.prog 111 3 = some (34, 1, 32) := by kernel_rfl
theorem pl111_3 : plB Tryd.prog 111 3 = some (34, 1) := by kernel_rfl
theorem ag120 : aggB Tryd.prog 120 = some false := by kernel_rfl
theorem sz120 : szB Tryd.prog 120 = some 1 := by kernel_rfl
theorem ti120 : TI Tryd.prog 120 (.int .u32 0) 1 4 := by unfold TI; kernel_rfl
theorem ag139 : aggB Tryd.prog 139 = some false := by kernel_rfl
theorem sz139 : szB Tryd.prog 139 = some 1 := by kernel_rfl
theorem ti139 : TI Tryd.prog 139 (.slice none 0 0) 1 24 := by unfold TI; kernel_rfl
theorem ag142 : aggB Tryd.prog 142 = some false := by kernel_rfl
theorem sz142 : szB Tryd.prog 142 = some 1 := by kernel_rfl
theorem ti142 : TI Tryd.prog 142 (.map none) 1 8 := by unfold TI; kernel_rfl
theorem ag143 : aggB Tryd.prog 143 = some false := by kernel_rfl
theorem sz143 : szB Tryd.prog 143 = some 1 := by kernel_rfl
theorem ti143 : TI Tryd.prog 143 (.map none) 1 8 := by unfold TI; kernel_rfl
theorem ag144 : aggB Tryd.prog 144 = some false := by kernel_rfl
theorem sz144 : szB Tryd.prog 144 = some 1 := by kernel_rfl
theorem ti144 : TI Tryd.prog 144 (.slice none 0 0) 1 24 := by unfold TI; kernel_rfl
theorem ag145 : aggB Tryd.prog 145 = some true := by kernel_rfl
theorem sz145 : szB Tryd.prog 145 = some 5 := by kernel_rfl
theorem ti145 : TI Tryd.prog 145 (.agg (([.int .i64 0]) ++ ([.map none]) ++ ([.map none]) ++ ([.slice none 0 0]) ++ ([.int .i64 0]) : List Value).toArray) 5 56 := by unfold TI; kernel_rfl
theorem fa145_0 : faB Tryd.prog 145 0 = some (0, 1, 3) := by kernel_rfl
theorem pl145_0 : plB Tryd.prog 145 0 = some (0, 1) := by kernel_rfl
theorem fa145_1 : faB Tryd.prog 145 1 = some (1, 1, 143) := by kernel_rfl
theorem pl145_1 : plB Tryd.prog 145 1 = some (1, 1) := by kernel_rfl
theorem fa145_2 : faB Tryd.prog 145 2 = some (2, 1, 143) := by kernel_rfl
theorem pl145_2 : plB Tryd.prog 145 2 = some (2, 1) := by kernel_rfl
theorem fa145_3 : faB Tryd.prog 145 3 = some (3, 1, 144) := by kernel_rfl
theorem pl145_3 : plB Tryd.prog 145 3 = some (3, 1) := by kernel_rfl
theorem fa145_4 : faB Tryd.prog 145 4 = some (4, 1, 3) := by kernel_rfl
theorem pl145_4 : plB Tryd.prog 145 4 = some (4, 1) := by kernel_rfl
theorem ag146 : aggB Tryd.prog 146 = some true := by kernel_rfl
theorem sz146 : szB Tryd.prog 146 = some 5 := by kernel_rfl
theorem ti146 : TI Tryd.prog 146 (.agg (([.int .i64 0]) ++ ([.map none]) ++ ([.map none]) ++ ([.slice none 0 0]) ++ ([.int .i64 0]) : List Value).toArray) 5 56 := by unfold TI; kernel_rfl
theorem fa146_0 : faB Tryd.prog 146 0 = some (0, 1, 3) := by kernel_rfl
theorem pl146_0 : plB Tryd.prog 146 0 = some (0, 1) := by kernel_rfl
theorem fa146_1 : faB Tryd.prog 146 1 = some (1, 1, 143) := by kernel_rfl
theorem pl146_1 : plB Tryd.prog 146 1 = some (1, 1) := by kernel_rfl
theorem fa146_2 : faB Tryd.prog 146 2 = some (2, 1, 143) := by kernel_rfl
theorem pl146_2 : plB Tryd.prog 146 2 = some (2, 1) := by kernel_rfl
theorem fa146_3 : faB Tryd.prog 146 3 = some (3, 1, 144) := by kernel_rfl
theorem pl146_3 : plB Tryd.prog 146 3 = some (3, 1) := by kernel_rfl
theorem fa146_4 : faB Tryd.prog 146 4 = some (4, 1, 3) := by kernel_rfl
theorem pl146_4 : plB Tryd.prog 146 4 = some (4, 1) := by kernel_rfl
theorem ag147 : aggB Tryd.prog 147 = some false := by kernel_rfl
theorem sz147 : szB Tryd.prog 147 = some 1 := by kernel_rfl
theorem ti147 : TI Tryd.prog 147 (.nilIface) 1 16 := by unfold TI; kernel_rfl
theorem ag148 : aggB Tryd.prog 148 = some false := by kernel_rfl
theorem sz148 : szB Tryd.prog 148 = some 1 := by kernel_rfl
theorem ti148 : TI Tryd.prog 148 (.nilIface) 1 16 := by unfold TI; kernel_rfl
theorem ag149 : aggB Tryd.prog 149 = some true := by kernel_rfl
theorem sz149 : szB Tryd.prog 149 = some 2 := by kernel_rfl
theorem ti149 : TI Tryd.prog 149 (.agg (([.string ⟨#[]⟩]) ++ ([.slice none 0 0]) : List Value).toArray) 2 40 := by unfold TI; kernel_rfl
theorem fa149_0 : faB Tryd.prog 149 0 = some (0, 1, 9) := by kernel_rfl
theorem pl149_0 : plB Tryd.prog 149 0 = some (0, 1) := by kernel_rfl
theorem fa149_1 : faB Tryd.prog 149 1 = some (1, 1, 32) := by kernel_rfl
theorem pl149_1 : plB Tryd.prog 149 1 = some (1, 1) := by kernel_rfl
theorem ag150 : aggB Tryd.prog 150 = some true := by kernel_rfl
theorem sz150 : szB Tryd.prog 150 = some 2 := by kernel_rfl
theorem ti150 : TI Tryd.prog 150 (.agg (([.string ⟨#[]⟩]) ++ ([.slice none 0 0]) : List Value).toArray) 2 40 := by unfold TI; kernel_rfl
theorem fa150_0 : faB Tryd.prog 150 0 = some (0, 1, 9) := by kernel_rfl
theorem pl150_0 : plB Tryd.prog 150 0 = some (0, 1) := by kernel_rfl
theorem fa150_1 : faB Tryd.prog 150 1 = some (1, 1, 32) := by kernel_rfl
theorem pl150_1 : plB Tryd.prog 150 1 = some (1, 1) := by kernel_rfl
theorem ag157 : aggB Tryd.prog 157 = some false := by kernel_rfl
theorem sz157 : szB Tryd.prog 157 = some 1 := by kernel_rfl
theorem ti157 : TI Tryd.prog 157 (.map none) 1 8 := by unfold TI; kernel_rfl
theorem ag160 : aggB Tryd.prog 160 = some true := by kernel_rfl
theorem sz160 : szB Tryd.prog 160 = some 2 := by kernel_rfl
theorem ti160 : TI Tryd.prog 160 (.agg (([.int .i32 0]) ++ ([.int .u32 0]) : List Value).toArray) 2 8 := by unfold TI; kernel_rfl
theorem fa160_0 : faB Tryd.prog 160 0 = some (0, 1, 21) := by kernel_rfl
theorem pl160_0 : plB Tryd.prog 160 0 = some (0, 1) := by kernel_rfl
theorem fa160_1 : faB Tryd.prog 160 1 = some (1, 1, 120) := by kernel_rfl
theorem pl160_1 : plB Tryd.prog 160 1 = some (1, 1) := by kernel_rfl
theorem ag161 : aggB Tryd.prog 161 = some true := by kernel_rfl
theorem sz161 : szB Tryd.prog 161 = some 2 := by kernel_rfl
theorem ti161 : TI Tryd.prog 161 (.agg (([.int .i32 0]) ++ ([.int .u32 0]) : List Value).toArray) 2 8 := by unfold TI; kernel_rfl
theorem fa161_0 : faB Tryd.prog 161 0 = some (0, 1, 21) := by kernel_rfl
theorem pl161_0 : plB Tryd.prog 161 0 = some (0, 1) := by kernel_rfl
theorem fa161_1 : faB Tryd.prog 161 1 = some (1, 1, 120) := by kernel_rfl
theorem pl161_1 : plB Tryd.prog 161 1 = some (1, 1) := by kernel_rfl
theorem ag166 : aggB Tryd.prog 166 = some true := by kernel_rfl
theorem sz166 : szB Tryd.prog 166 = some 33 := by kernel_rfl
theorem ti166 : TI Tryd.prog 166 (.agg ((b8s (List.replicate 32 0)) ++ ([.string ⟨#[]⟩]) : List Value).toArray) 33 48 := by unfold TI; kernel_rfl
theorem fa166_0 : faB Tryd.prog 166 0 = some (0, 32, 23) := by kernel_rfl
theorem pl166_0 : plB Tryd.prog 166 0 = some (0, 32) := by kernel_rfl
theorem fa166_1 : faB Tryd.prog 166 1 = some (32, 1, 9) := by kernel_rfl
theorem pl166_1 : plB Tryd.prog 166 1 = some (32, 1) := by kernel_rfl
theorem ag167 : aggB Tryd.prog 167 = some true := by kernel_rfl
theorem sz167 : szB Tryd.prog 167 = some 33 := by kernel_rfl
theorem ti167 : TI Tryd.prog 167 (.agg ((b8s (List.replicate 32 0)) ++ ([.string ⟨#[]⟩]) : List Value).toArray) 33 48 := by unfold TI; kernel_rfl
theorem fa167_0 : faB Tryd.prog 167 0 = some (0, 32, 23) := by kernel_rfl
theorem pl167_0 : plB Tryd.prog 167 0 = some (0, 32) := by kernel_rfl
theorem fa167_1 : faB Tryd.prog 167 1 = some (32, 1, 9) := by kernel_rfl
theorem pl167_1 : plB Tryd.prog 167 1 = some (32, 1) := by kernel_rfl
theorem ag174 : aggB Tryd.prog 174 = some false := by kernel_rfl
theorem sz174 : szB Tryd.prog 174 = some 1 := by kernel_rfl
theorem ti174 : TI Tryd.prog 174 (.int .u64 0) 1 8 := by unfold TI; kernel_rfl
theorem ag176 : aggB Tryd.prog 176 = some true := by kernel_rfl
theorem sz176 : szB Tryd.prog 176 = some 1 := by kernel_rfl
theorem ti176 : TI Tryd.prog 176 (.agg (([.int .i64 0]) : List Value).toArray) 1 8 := by unfold TI; kernel_rfl
theorem fa176_0 : faB Tryd.prog 176 0 = some (0, 1, 33) := by kernel_rfl
theorem pl176_0 : plB Tryd.prog 176 0 = some (0, 1) := by kernel_rfl
theorem ag177 : aggB Tryd.prog 177 = some true := by kernel_rfl
theorem sz177 : szB Tryd.prog 177 = some 1 := by kernel_rfl
theorem ti177 : TI Tryd.prog 177 (.agg (([.int .i64 0]) : List Value).toArray) 1 8 := by unfold TI; kernel_rfl
theorem fa177_0 : faB Tryd.prog 177 0 = some (0, 1, 33) := by kernel_rfl
theorem pl177_0 : plB Tryd.prog 177 0 = some (0, 1) := by kernel_rfl
theorem ag190 : aggB Tryd.prog 190 = some false := by kernel_rfl
theorem sz190 : szB Tryd.prog 190 = some 1 := by kernel_rfl
theorem ti190 : TI Tryd.prog 190 (.pointer none) 1 8 := by unfold TI; kernel_rfl
theorem ag199 : aggB Tryd.prog 199 = some false := by kernel_rfl
theorem sz199 : szB Tryd.prog 199 = some 1 := by kernel_rfl
theorem ti199 : TI Tryd.prog 199 (.nilIface) 1 16 := by unfold TI; kernel_rfl
theorem ag200 : aggB Tryd.prog 200 = some false := by kernel_rfl
theorem sz200 : szB Tryd.prog 200 = some 1 := by kernel_rfl
theorem ti200 : TI Tryd.prog 200 (.nilIface) 1 16 := by unfold TI; kernel_rfl
theorem ag205 : aggB Tryd.prog 205 = some true := by kernel_rfl
theorem sz205 : szB Tryd.prog 205 = some 2 := by kernel_rfl
theorem ti205 : TI Tryd.prog 205 (.agg (([.string ⟨#[]⟩]) ++ ([.string ⟨#[]⟩]) : List Value).toArray) 2 32 := by unfold TI; kernel_rfl
theorem fa205_0 : faB Tryd.prog 205 0 = some (0, 1, 9) := by kernel_rfl
theorem pl205_0 : plB Tryd.prog 205 0 = some (0, 1) := by kernel_rfl
theorem fa205_1 : faB Tryd.prog 205 1 = some (1, 1, 9) := by kernel_rfl
theorem pl205_1 : plB Tryd.prog 205 1 = some (1, 1) := by kernel_rfl
theorem ag206 : aggB Tryd.prog 206 = some true := by kernel_rfl
theorem sz206 : szB Tryd.prog 206 = some 2 := by kernel_rfl
theorem ti206 : TI Tryd.prog 206 (.agg (([.string ⟨#[]⟩]) ++ ([.string ⟨#[]⟩]) : List Value).toArray) 2 32 := by unfold TI; kernel_rfl
theorem fa206_0 : faB Tryd.prog 206 0 = some (0, 1, 9) := by kernel_rfl
theorem pl206_0 : plB Tryd.prog 206 0 = some (0, 1) := by kernel_rfl
theorem fa206_1 : faB Tryd.prog 206 1 = some (1, 1, 9) := by kernel_rfl
theorem pl206_1 : plB Tryd.prog 206 1 = some (1, 1) := by kernel_rfl
theorem ag208 : aggB Tryd.prog 208 = some false := by kernel_rfl
theorem sz208 : szB Tryd.prog 208 = some 1 := by kernel_rfl
theorem ti208 : TI Tryd.prog 208 (.pointer none) 1 8 := by unfold TI; kernel_rfl
theorem ag215 : aggB Tryd.prog 215 = some true := by kernel_rfl
theorem sz215 : szB Tryd.prog 215 = some 2 := by kernel_rfl
theorem ti215 : TI Tryd.prog 215 (.agg (([.string ⟨#[]⟩]) ++ ([.string ⟨#[]⟩]) : List Value).toArray) 2 32 := by unfold TI; kernel_rfl
theorem fa215_0 : faB Tryd.prog 215 0 = some (0, 1, 9) := by kernel_rfl
theorem pl215_0 : plB Tryd.prog 215 0 = some (0, 1) := by kernel_rfl
theorem fa215_1 : faB Tryd.prog 215 1 = some (1, 1, 9) := by kernel_rfl
theorem pl215_1 : plB Tryd.prog 215 1 = some (1, 1) := by kernel_rfl
theorem ag216 : aggB Tryd.prog 216 = some true := by kernel_rfl
theorem sz216 : szB Tryd.prog 216 = some 2 := by kernel_rfl
theorem ti216 : TI Tryd.prog 216 (.agg (([.string ⟨#[]⟩]) ++ ([.string ⟨#[]⟩]) : List Value).toArray) 2 32 := by unfold TI; kernel_rfl
theorem fa216_0 : faB Tryd.prog 216 0 = some (0, 1, 9) := by kernel_rfl
theorem pl216_0 : plB Tryd.prog 216 0 = some (0, 1) := by kernel_rfl
theorem fa216_1 : faB Tryd.prog 216 1 = some (1, 1, 9) := by kernel_rfl
theorem pl216_1 : plB Tryd.prog 216 1 = some (1, 1) := by kernel_rfl
theorem ag218 : aggB Tryd.prog 218 = some true := by kernel_rfl
theorem sz218 : szB Tryd.prog 218 = some 4 := by kernel_rfl
theorem ti218 : TI Tryd.prog 218 (.agg (([.int .i64 0]) ++ ([.string ⟨#[]⟩]) ++ ([.string ⟨#[]⟩]) ++ ([.string ⟨#[]⟩]) : List Value).toArray) 4 56 := by unfold TI; kernel_rfl
theorem fa218_0 : faB Tryd.prog 218 0 = some (0, 1, 3) := by kernel_rfl
theorem pl218_0 : plB Tryd.prog 218 0 = some (0, 1) := by kernel_rfl
theorem fa218_1 : faB Tryd.prog 218 1 = some (1, 1, 9) := by kernel_rfl
theorem pl218_1 : plB Tryd.prog 218 1 = some (1, 1) := by kernel_rfl
theorem fa218_2 : faB Tryd.prog 218 2 = some (2, 1, 9) := by kernel_rfl
theorem pl218_2 : plB Tryd.prog 218 2 = some (2, 1) := by kernel_rfl
theorem fa218_3 : faB Tryd.prog 218 3 = some (3, 1, 9) := by kernel_rfl
theorem pl218_3 : plB Tryd.prog 218 3 = some (3, 1) := by kernel_rfl
theorem ag219 : aggB Tryd.prog 219 = some true := by kernel_rfl
theorem sz219 : szB Tryd.prog 219 = some 4 := by kernel_rfl
theorem ti219 : TI Tryd.prog 219 (.agg (([.int .i64 0]) ++ ([.string ⟨#[]⟩]) ++ ([.string ⟨#[]⟩]) ++ ([.string ⟨#[]⟩]) : List Value).toArray) 4 56 := by unfold TI; kernel_rfl
theorem fa219_0 : faB Tryd.prog 219 0 = some (0, 1, 3) := by kernel_rfl
theorem pl219_0 : plB Tryd.prog 219 0 = some (0, 1) := by kernel_rfl
theorem fa219_1 : faB Tryd.prog 219 1 = some (1, 1, 9) := by kernel_rfl
theorem pl219_1 : plB Tryd.prog 219 1 = some (1, 1) := by kernel_rfl
theorem fa219_2 : faB Tryd.prog 219 2 = some (2, 1, 9) := by kernel_rfl
theorem pl219_2 : plB Tryd.prog 219 2 = some (2, 1) := by kernel_rfl
theorem fa219_3 : faB Tryd.prog 219 3 = some (3, 1, 9) := by kernel_rfl
theorem pl219_3 : plB Tryd.prog 219 3 = some (3, 1) := by kernel_rfl
theorem ag222 : aggB Tryd.prog 222 = some true := by kernel_rfl
theorem sz222 : szB Tryd.prog 222 = some 8 := by kernel_rfl
theorem ti222 : TI Tryd.prog 222 (.agg ((List.replicate 8 ([.int .u32 0])).flatten : List Value).toArray) 8 32 := by unfold TI; kernel_rfl
theorem ag223 : aggB Tryd.prog 223 = some true := by kernel_rfl
theorem sz223 : szB Tryd.prog 223 = some 10 := by kernel_rfl
theorem ti223 : TI Tryd.prog 223 (.agg (((List.replicate 8 ([.int .u32 0])).flatten) ++ ([.int .i64 0]) ++ ([.slice none 0 0]) : List Value).toArray) 10 64 := by unfold TI; kernel_rfl
theorem fa223_0 : faB Tryd.prog 223 0 = some (0, 8, 222) := by kernel_rfl
theorem pl223_0 : plB Tryd.prog 223 0 = some (0, 8) := by kernel_rfl
theorem fa223_1 : faB Tryd.prog 223 1 = some (8, 1, 3) := by kernel_rfl
theorem pl223_1 : plB Tryd.prog 223 1 = some (8, 1) := by kernel_rfl
theorem fa223_2 : faB Tryd.prog 223 2 = some (9, 1, 32) := by kernel_rfl
theorem pl223_2 : plB Tryd.prog 223 2 = some (9, 1) := by kernel_rfl
theorem ag224 : aggB Tryd.prog 224 = some true := by kernel_rfl
theorem sz224 : szB Tryd.prog 224 = some 10 := by kernel_rfl
theorem ti224 : TI Tryd.prog 224 (.agg (((List.replicate 8 ([.int .u32 0])).flatten) ++ ([.int .i64 0]) ++ ([.slice none 0 0]) : List Value).toArray) 10 64 := by unfold TI; kernel_rfl
theorem fa224_0 : faB Tryd.prog 224 0 = some (0, 8, 222) := by kernel_rfl
theorem pl224_0 : plB Tryd.prog 224 0 = some (0, 8) := by kernel_rfl
theorem fa224_1 : faB Tryd.prog 224 1 = some (8, 1, 3) := by kernel_rfl
theorem pl224_1 : plB Tryd.prog 224 1 = some (8, 1) := by kernel_rfl
theorem fa224_2 : faB Tryd.prog 224 2 = some (9, 1, 32) := by kernel_rfl
theorem pl224_2 : plB Tryd.prog 224 2 = some (9, 1) := by kernel_rfl
theorem ag226 : aggB Tryd.prog 226 = some false := by kernel_rfl
theorem sz226 : szB Tryd.prog 226 = some 1 := by kernel_rfl
theorem ti226 : TI Tryd.prog 226 (.int .u64 0) 1 8 := by unfold TI; kernel_rfl
theorem ag230 : aggB Tryd.prog 230 = some false := by kernel_rfl
theorem sz230 : szB Tryd.prog 230 = some 1 := by kernel_rfl
theorem ti230 : TI Tryd.prog 230 (.nilIface) 1 16 := by unfold TI; kernel_rfl
theorem ag233 : aggB Tryd.prog 233 = some false := by kernel_rfl
theorem sz233 : szB Tryd.prog 233 = some 1 := by kernel_rfl
theorem ti233 : TI Tryd.prog 233 (.nilIface) 1 16 := by unfold TI; kernel_rfl
theorem ag235 : aggB Tryd.prog 235 = some false := by kernel_rfl
theorem sz235 : szB Tryd.prog 235 = some 1 := by kernel_rfl
theorem ti235 : TI Tryd.prog 235 (.nilIface) 1 16 := by unfold TI; kernel_rfl
theorem ag236 : aggB Tryd.prog 236 = some false := by kernel_rfl
theorem sz236 : szB Tryd.prog 236 = some 1 := by kernel_rfl
theorem ti236 : TI Tryd.prog 236 (.slice none 0 0) 1 24 := by unfold TI; kernel_rfl
theorem ag238 : aggB Tryd.prog 238 = some false := by kernel_rfl
theorem sz238 : szB Tryd.prog 238 = some 1 := by kernel_rfl
theorem ti238 : TI Tryd.prog 238 (.pointer none) 1 8 := by unfold TI; kernel_rfl
theorem ag242 : aggB Tryd.prog 242 = some false := by kernel_rfl
theorem sz242 : szB Tryd.prog 242 = some 1 := by kernel_rfl
theorem ti242 : TI Tryd.prog 242 (.pointer none) 1 8 := by unfold TI; kernel_rfl
theorem ag244 : aggB Tryd.prog 244 = some false := by kernel_rfl
theorem sz244 : szB Tryd.prog 244 = some 1 := by kernel_rfl
theorem ti244 : TI Tryd.prog 244 (.pointer none) 1 8 := by unfold TI; kernel_rfl
theorem ag249 : aggB Tryd.prog 249 = some true := by kernel_rfl
theorem sz249 : szB Tryd.prog 249 = some 2 := by kernel_rfl
theorem ti249 : TI Tryd.prog 249 (.agg (([.int .i64 0]) ++ ([.int .i64 0]) : List Value).toArray) 2 16 := by unfold TI; kernel_rfl
theorem fa249_0 : faB Tryd.prog 249 0 = some (0, 1, 3) := by kernel_rfl
theorem pl249_0 : plB Tryd.prog 249 0 = some (0, 1) := by kernel_rfl
theorem fa249_1 : faB Tryd.prog 249 1 = some (1, 1, 3) := by kernel_rfl
theorem pl249_1 : plB Tryd.prog 249 1 = some (1, 1) := by kernel_rfl
theorem ag250 : aggB Tryd.prog 250 = some true := by kernel_rfl
theorem sz250 : szB Tryd.prog 250 = some 2 := by kernel_rfl
theorem ti250 : TI Tryd.prog 250 (.agg (([.int .i64 0]) ++ ([.int .i64 0]) : List Value).toArray) 2 16 := by unfold TI; kernel_rfl
theorem fa250_0 : faB Tryd.prog 250 0 = some (0, 1, 3) := by kernel_rfl
theorem pl250_0 : plB Tryd.prog 250 0 = some (0, 1) := by kernel_rfl
theorem fa250_1 : faB Tryd.prog 250 1 = some (1, 1, 3) := by kernel_rfl
theorem pl250_1 : plB Tryd.prog 250 1 = some (1, 1) := by kernel_rfl
theorem ag254 : aggB Tryd.prog 254 = some true := by kernel_rfl
theorem sz254 : szB Tryd.prog 254 = some 64 := by kernel_rfl
theorem ti254 : TI Tryd.prog 254 (.agg ((List.replicate 64 ([.int .u32 0])).flatten : List Value).toArray) 64 256 := by unfold TI; kernel_rfl
theorem ag257 : aggB Tryd.prog 257 = some false := by kernel_rfl
theorem sz257 : szB Tryd.prog 257 = some 1 := by kernel_rfl
theorem ti257 : TI Tryd.prog 257 (.map none) 1 8 := by unfold TI; kernel_rfl
theorem ag258 : aggB Tryd.prog 258 = some true := by kernel_rfl
theorem sz258 : szB Tryd.prog 258 = some 3 := by kernel_rfl
theorem ti258 : TI Tryd.prog 258 (.agg (([.slice none 0 0]) ++ ([.map none]) ++ ([.int .i64 0]) : List Value).toArray) 3 40 := by unfold TI; kernel_rfl
theorem fa258_0 : faB Tryd.prog 258 0 = some (0, 1, 32) := by kernel_rfl
theorem pl258_0 : plB Tryd.prog 258 0 = some (0, 1) := by kernel_rfl
theorem fa258_1 : faB Tryd.prog 258 1 = some (1, 1, 257) := by kernel_rfl
theorem pl258_1 : plB Tryd.prog 258 1 = some (1, 1) := by kernel_rfl
theorem fa258_2 : faB Tryd.prog 258 2 = some (2, 1, 3) := by kernel_rfl
theorem pl258_2 : plB Tryd.prog 258 2 = some (2, 1) := by kernel_rfl
theorem ag259 : aggB Tryd.prog 259 = some true := by kernel_rfl
theorem sz259 : szB Tryd.prog 259 = some 3 := by kernel_rfl
theorem ti259 : TI Tryd.prog 259 (.agg (([.slice none 0 0]) ++ ([.map none]) ++ ([.int .i64 0]) : List Value).toArray) 3 40 := by unfold TI; kernel_rfl
theorem fa259_0 : faB Tryd.prog 259 0 = some (0, 1, 32) := by kernel_rfl
theorem pl259_0 : plB Tryd.prog 259 0 = some (0, 1) := by kernel_rfl
theorem fa259_1 : faB Tryd.prog 259 1 = some (1, 1, 257) := by kernel_rfl
theorem pl259_1 : plB Tryd.prog 259 1 = some (1, 1) := by kernel_rfl
theorem fa259_2 : faB Tryd.prog 259 2 = some (2, 1, 3) := by kernel_rfl
theorem pl259_2 : plB Tryd.prog 259 2 = some (2, 1) := by kernel_rfl
theorem ag261 : aggB Tryd.prog 261 = some false := by kernel_rfl
theorem sz261 : szB Tryd.prog 261 = some 1 := by kernel_rfl
theorem ti261 : TI Tryd.prog 261 (.nilFunc) 1 8 := by unfold TI; kernel_rfl
theorem ag263 : aggB Tryd.prog 263 = some false := by kernel_rfl
theorem sz263 : szB Tryd.prog 263 = some 1 := by kernel_rfl
theorem ti263 : TI Tryd.prog 263 (.slice none 0 0) 1 24 := by unfold TI; kernel_rfl
theorem ag264 : aggB Tryd.prog 264 = some true := by kernel_rfl
theorem sz264 : szB Tryd.prog 264 = some 4 := by kernel_rfl
theorem ti264 : TI Tryd.prog 264 (.agg (b8s (List.replicate 4 0) : List Value).toArray) 4 4 := by unfold TI; kernel_rfl
theorem klD264 {l : List UInt8} (h : l.length = 4) : Tryd.prog.keyLits 2 264 (b8s l) = some (l.map fun b => Lit.int .u8 (b.toNat : Int)) := keyLits_b8 (D := 0) Tryd.underlying264 Tryd.underlying5 (by kernel_rfl) (by kernel_rfl) h
theorem y_eqD264 {N : Nat} {D : List Deferred} {ρ : Env} {w : World} {ty t' : TypeId} {x y : Operand} {l m : List UInt8} (hx : ev ρ x = some (.agg (b8s l).toArray)) (hy : ev ρ y = some (.agg (b8s m).toArray)) (hl : l.length = 4) (hm : m.length = 4) : Yl Tryd.prog N D ρ w (.binOp .eql 264 x y t') ty (.bool (decide (l = m))) :=
  y_eqK (m := 5) hx hy (by decide) (by kernel_rfl) (by kernel_rfl) ag264 (by rw [b8s_length, hl]; kernel_rfl) (by rw [b8s_length, hm]; kernel_rfl) (klD264 hl) (klD264 hm) lits_b8_inj
theorem y_neD264 {N : Nat} {D : List Deferred} {ρ : Env} {w : World} {ty t' : TypeId} {x y : Operand} {l m : List UInt8} (hx : ev ρ x = some (.agg (b8s l).toArray)) (hy : ev ρ y = some (.agg (b8s m).toArray)) (hl : l.length = 4) (hm : m.length = 4) : Yl Tryd.prog N D ρ w (.binOp .neq 264 x y t') ty (.bool (decide (¬ l = m))) :=
  y_neK (m := 5) hx hy (by decide) (by kernel_rfl) (by kernel_rfl) ag264 (by rw [b8s_length, hl]; kernel_rfl) (by rw [b8s_length, hm]; kernel_rfl) (klD264 hl) (klD264 hm) lits_b8_inj
theorem ag265 : aggB Tryd.prog 265 = some true := by kernel_rfl
theorem sz265 : szB Tryd.prog 265 = some 4 := by kernel_rfl
theorem ti265 : TI Tryd.prog 265 (.agg (b8s (List.replicate 4 0) : List Value).toArray) 4 4 := by unfold TI; kernel_rfl
theorem klD265 {l : List UInt8} (h : l.length = 4) : Tryd.prog.keyLits 2 265 (b8s l) = some (l.map fun b => Lit.int .u8 (b.toNat : Int)) := keyLits_b8 (D := 0) Tryd.underlying265 Tryd.underlying5 (by kernel_rfl) (by kernel_rfl) h
theorem y_eqD265 {N : Nat} {D : List Deferred} {ρ : Env} {w : World} {ty t' : TypeId} {x y : Operand} {l m : List UInt8} (hx : ev ρ x = some (.agg (b8s l).toArray)) (hy : ev ρ y = some (.agg (b8s m).toArray)) (hl : l.length = 4) (hm : m.length = 4) : Yl Tryd.prog N D ρ w (.binOp .eql 265 x y t') ty (.bool (decide (l = m))) :=
  y_eqK (m := 5) hx hy (by decide) (by kernel_rfl) (by kernel_rfl) ag265 (by rw [b8s_length, hl]; kernel_rfl) (by rw [b8s_length, hm]; kernel_rfl) (klD265 hl) (klD265 hm) lits_b8_inj
theorem y_neD265 {N : Nat} {D : List Deferred} {ρ : Env} {w : World} {ty t' : TypeId} {x y : Operand} {l m : List UInt8} (hx : ev ρ x = some (.agg (b8s l).toArray)) (hy : ev ρ y = some (.agg (b8s m).toArray)) (hl : l.length = 4) (hm : m.length = 4) : Yl Tryd.prog N D ρ w (.binOp .neq 265 x y t') ty (.bool (decide (¬ l = m))) :=
  y_neK (m := 5) hx hy (by decide) (by kernel_rfl) (by kernel_rfl) ag265 (by rw [b8s_length, hl]; kernel_rfl) (by rw [b8s_length, hm]; kernel_rfl) (klD265 hl) (klD265 hm) lits_b8_inj
theorem ag270 : aggB Tryd.prog 270 = some false := by kernel_rfl
theorem sz270 : szB Tryd.prog 270 = some 1 := by kernel_rfl
theorem ti270 : TI Tryd.prog 270 (.pointer none) 1 8 := by unfold TI; kernel_rfl
theorem ag287 : aggB Tryd.prog 287 = some false := by kernel_rfl
theorem sz287 : szB Tryd.prog 287 = some 1 := by kernel_rfl
theorem ti287 : TI Tryd.prog 287 (.pointer none) 1 8 := by unfold TI; kernel_rfl
theorem ag302 : aggB Tryd.prog 302 = some false := by kernel_rfl
theorem sz302 : szB Tryd.prog 302 = some 1 := by kernel_rfl
theorem ti302 : TI Tryd.prog 302 (.int .u16 0) 1 2 := by unfold TI; kernel_rfl
end Go.Proofs.YtfikjheicjamhaaDoor
end
section
/- Digits: plain lists, no program. -/
set_option linter.unusedVariables false
set_option linter.unusedSimpArgs false
namespace Go.Hx
open Go.Eng
def hexd : List UInt8 := [48, 49, 50, 51, 52, 53, 54, 55, 56, 57, 97, 98, 99, 100, 101, 102]
def hex1 (b : UInt8) : List UInt8 := [hexd.getD (b.toNat / 16) 0, hexd.getD (b.toNat % 16) 0]
def hexs (l : List UInt8) : List UInt8 := l.flatMap hex1
theorem hexs_length (l : List UInt8) : (hexs l).length = 2 * l.length := by
  induction l with
  | nil => rfl
  | cons a r ih => simp only [hexs, List.flatMap_cons, List.length_append, List.length_cons] at ih ⊢; rw [ih]; simp [hex1]; omega
theorem hexs_append (l m : List UInt8) : hexs (l ++ m) = hexs l ++ hexs m := by simp [hexs]
theorem take_snoc {l : List UInt8} {k : Nat} (h : k < l.length) : l.take (k + 1) = l.take k ++ [l.getD k 0] := by
  rw [List.take_succ_eq_append_getElem h]; simp [List.getD, List.getElem?_eq_getElem h]
theorem hexs_snoc {l : List UInt8} {k : Nat} (h : k < l.length) : hexs (l.take (k + 1)) = hexs (l.take k) ++ hex1 (l.getD k 0) := by
  rw [take_snoc h, hexs_append]; simp [hexs]
theorem hexd_sub (j : Nat) (h : j < 16) : ((bytesOf ⟨#[48, 49, 50, 51, 52, 53, 54, 55, 56, 57, 97, 98, 99, 100, 101, 102]⟩).take (j + 1)).drop j = [hexd.getD j 0] := by
  revert j; decide
theorem hexs_step {l : List UInt8} {k : Nat} (h : k < l.length) : strOf (hexs (l.take k)) ++ strOf (((bytesOf ⟨#[48, 49, 50, 51, 52, 53, 54, 55, 56, 57, 97, 98, 99, 100, 101, 102]⟩).take ((l.getD k 0).toNat / 16 + 1)).drop ((l.getD k 0).toNat / 16)) ++
    strOf (((bytesOf ⟨#[48, 49, 50, 51, 52, 53, 54, 55, 56, 57, 97, 98, 99, 100, 101, 102]⟩).take ((l.getD k 0).toNat % 16 + 1)).drop ((l.getD k 0).toNat % 16)) = strOf (hexs (l.take (k + 1))) := by
  have hb := (l.getD k 0).toNat_lt
  rw [hexd_sub _ (by omega), hexd_sub _ (by omega), strOf_append, strOf_append, hexs_snoc h]
  simp [hex1]
theorem hexd_at (i : Int) (h0 : 0 ≤ i) (h : i < 16) : (#[48, 49, 50, 51, 52, 53, 54, 55, 56, 57, 97, 98, 99, 100, 101, 102] : Array UInt8)[i.toNat]? = some (hexd.getD i.toNat 0) := by
  have : i.toNat < 16 := by omega
  generalize i.toNat = j at this
  revert j
  decide
theorem hexd_hi (x : UInt8) : (#[48, 49, 50, 51, 52, 53, 54, 55, 56, 57, 97, 98, 99, 100, 101, 102] : Array UInt8)[((x.toNat : Int) / 16).toNat]? = some (hexd.getD (x.toNat / 16) 0) := by
  have h := x.toNat_lt
  rw [hexd_at _ (by omega) (by omega)]
  rfl
theorem hexd_lo (x : UInt8) : (#[48, 49, 50, 51, 52, 53, 54, 55, 56, 57, 97, 98, 99, 100, 101, 102] : Array UInt8)[((x.toNat % 16 : Nat) : Int).toNat]? = some (hexd.getD (x.toNat % 16) 0) := by
  rw [hexd_at _ (by omega) (by omega)]
  rfl
theorem and15 (x : UInt8) : bits .and .u8 (x.toNat : Int) 15 = ((x.toNat % 16 : Nat) : Int) := by
  have := u8_and_nat x.toNat 15 (by have := x.toNat_lt; omega) (by decide)
  rw [show ((15 : Nat) : Int) = 15 from rfl] at this
  rw [this]
  congr 1
  exact Nat.and_two_pow_sub_one_eq_mod x.toNat 4
end Go.Hx
end
section
/- Reading digits: plain lists, no program. -/
set_option linter.unusedVariables false
set_option linter.unusedSimpArgs false
namespace Go.Hx
open Go.Eng
def dig (c : UInt8) : Int := if 48 ≤ c.toNat ∧ c.toNat ≤ 57 then (c.toNat : Int) - 48 else if 97 ≤ c.toNat ∧ c.toNat ≤ 102 then (c.toNat : Int) - 87 else -1
theorem dig_range (c : UInt8) : -1 ≤ dig c ∧ dig c ≤ 15 := by unfold dig; split <;> (try split) <;> omega
/-- pairs of digits -/
def unhex : List UInt8 → Option (List UInt8)
  | [] => some []
  | [_] => none
  | a :: b :: r => if dig a < 0 ∨ dig b < 0 then none else (unhex r).map (UInt8.ofNat (16 * (dig a).toNat + (dig b).toNat) :: ·)
theorem unhex_snoc : ∀ (l : List UInt8) (n : Nat) (a b : UInt8) (x : List UInt8), l.length = 2 * n → unhex l = some x → unhex (l ++ [a, b]) = if dig a < 0 ∨ dig b < 0 then none else some (x ++ [UInt8.ofNat (16 * (dig a).toNat + (dig b).toNat)])
  | [], n, a, b, x, _, h => by
    simp only [unhex, Option.some.injEq] at h
    subst h
    simp [unhex]
  | [c], n, a, b, x, hl, h => by simp at hl; omega
  | c :: d :: r, n, a, b, x, hl, h => by
    simp only [unhex] at h
    simp only [List.cons_append, unhex]
    split at h
    · cases h
    · rename_i hcd
      rw [if_neg hcd]
      simp only [Option.map_eq_some_iff] at h
      obtain ⟨y, hy, rfl⟩ := h
      rw [unhex_snoc r (n - 1) a b y (by simp at hl; omega) hy]
      split <;> simp
theorem unhex_none_append : ∀ (l m : List UInt8) (n : Nat), l.length = 2 * n → unhex l = none → unhex (l ++ m) = none
  | [], m, n, _, h => by simp [unhex] at h
  | [c], m, n, hl, h => by simp at hl; omega
  | c :: d :: r, m, n, hl, h => by
    simp only [unhex] at h
    simp only [List.cons_append, unhex]
    split at h
    · rename_i hcd; rw [if_pos hcd]
    · rename_i hcd
      rw [if_neg hcd]
      simp only [Option.map_eq_none_iff] at h
      rw [unhex_none_append r m (n - 1) (by simp at hl; omega) h]
      rfl
theorem unhex_odd : ∀ (l : List UInt8), l.length % 2 = 1 → unhex l = none
  | [], h => by simp at h
  | [_], _ => rfl
  | a :: b :: r, h => by
    simp only [unhex]
    split
    · rfl
    · rw [unhex_odd r (by simp at h; omega)]; rfl
theorem unhex_length : ∀ (l x : List UInt8), unhex l = some x → l.length = 2 * x.length
  | [], x, h => by simp [unhex] at h; subst h; rfl
  | [_], x, h => by simp [unhex] at h
  | a :: b :: r, x, h => by
    simp only [unhex] at h
    split at h
    · cases h
    · simp only [Option.map_eq_some_iff] at h
      obtain ⟨y, hy, rfl⟩ := h
      have := unhex_length r y hy
      simp; omega
theorem dig_hexd (k : Nat) (h : k < 16) : dig (hexd.getD k 0) = k := by
  revert k; decide
theorem unhex_hexs : ∀ (l : List UInt8), unhex (hexs l) = some l
  | [] => rfl
  | a :: r => by
    have ih := unhex_hexs r
    have ha := a.toNat_lt
    have h1 := dig_hexd (a.toNat / 16) (by omega)
    have h2 := dig_hexd (a.toNat % 16) (by omega)
    have e : hexs (a :: r) = hexd.getD (a.toNat / 16) 0 :: hexd.getD (a.toNat % 16) 0 :: hexs r := by simp [hexs, hex1]
    rw [e, unhex, h1, h2, if_neg (by omega), ih]
    simp only [Option.map_some, Int.toNat_natCast]
    congr 2
    have e2 : 16 * (a.toNat / 16) + a.toNat % 16 = a.toNat := by omega
    rw [e2]
    simp
theorem ofDigs (a b : UInt8) (ha : 0 ≤ dig a) (hb : 0 ≤ dig b) : 16 * dig a + dig b = ((UInt8.ofNat (16 * (dig a).toNat + (dig b).toNat)).toNat : Int) := by
  have h1 := dig_range a
  have h2 := dig_range b
  rw [UInt8.toNat_ofNat', Nat.mod_eq_of_lt (by omega)]
  omega
theorem take_two {l : List UInt8} {k : Nat} (h : 2 * k + 1 < l.length) : l.take (2 * (k + 1)) = l.take (2 * k) ++ [l.getD (2 * k) 0, l.getD (2 * k + 1) 0] := by
  have e : 2 * (k + 1) = 2 * k + 1 + 1 := by omega
  rw [e, take_snoc h, take_snoc (by omega)]
  simp
theorem hexs_inj {l m : List UInt8} (h : hexs l = hexs m) : l = m := by
  have := unhex_hexs l
  rw [h, unhex_hexs m] at this
  simpa using this.symm
/-- what strings.IndexByte tells of a digit -/
theorem indexByte_hexd (c : UInt8) : Lib.indexByte hexd c = dig c := by
  have h : ∀ n, n < 256 → Lib.indexByte hexd (UInt8.ofNat n) = dig (UInt8.ofNat n) := by decide +kernel
  have := h c.toNat c.toNat_lt
  rwa [UInt8.ofNat_toNat] at this
theorem or_dig (a b : Int) (ha : 0 ≤ a) (ha' : a < 16) (hb : 0 ≤ b) (hb' : b < 16) : bits .or .i64 (a * 16) b = 16 * a + b := by
  have h : ∀ n, n < 16 → ∀ m, m < 16 → bits .or .i64 (((n : Nat) : Int) * 16) ((m : Nat) : Int) = 16 * ((n : Nat) : Int) + ((m : Nat) : Int) := by decide +kernel
  have := h a.toNat (by omega) b.toNat (by omega)
  rwa [Int.toNat_of_nonneg ha, Int.toNat_of_nonneg hb] at this
end Go.Hx
end
section
/- How bytes stand: plain lists; and the entry of bytes.Compare over slices. No program. -/
set_option linter.unusedVariables false
set_option linter.unusedSimpArgs false
namespace Go.Hx
open Go.Eng
abbrev cb := Lib.compareBytes
theorem u8_tri (a b : UInt8) : a < b ∨ a = b ∨ b < a := by
  rcases Nat.lt_trichotomy a.toNat b.toNat with h | h | h
  · exact .inl h
  · exact .inr (.inl (UInt8.toNat_inj.1 h))
  · exact .inr (.inr h)
theorem cb_self : ∀ a : List UInt8, cb a a = 0
  | [] => rfl
  | x :: a => by simp [cb, Lib.compareBytes, UInt8.lt_irrefl]; exact cb_self a
theorem cb_cons (x y : UInt8) (a b : List UInt8) : cb (x :: a) (y :: b) = if x < y then -1 else if y < x then 1 else cb a b := rfl
theorem u8_asymm {x y : UInt8} (h : x < y) : ¬ y < x := by
  have : x.toNat < y.toNat := h
  intro h'
  have : y.toNat < x.toNat := h'
  omega
theorem cb_neg : ∀ a b : List UInt8, cb b a = - cb a b
  | [], [] => rfl
  | [], _ :: _ => rfl
  | _ :: _, [] => rfl
  | x :: a, y :: b => by
    rw [cb_cons, cb_cons]
    have ih := cb_neg a b
    rcases u8_tri x y with h | h | h
    · rw [if_neg (u8_asymm h), if_pos h, if_pos h]; rfl
    · subst h; simp [UInt8.lt_irrefl, ih]
    · rw [if_pos h, if_neg (u8_asymm h), if_pos h]
theorem cb_eq : ∀ a b : List UInt8, cb a b = 0 → a = b
  | [], [], _ => rfl
  | [], _ :: _, h => by simp [cb, Lib.compareBytes] at h
  | _ :: _, [], h => by simp [cb, Lib.compareBytes] at h
  | x :: a, y :: b, h => by
    rw [cb_cons] at h
    rcases u8_tri x y with h1 | h1 | h1
    · rw [if_pos h1] at h; omega
    · subst h1
      simp only [UInt8.lt_irrefl, if_false] at h
      rw [cb_eq a b h]
    · rw [if_neg (u8_asymm h1), if_pos h1] at h; omega
theorem cb_range : ∀ a b : List UInt8, -1 ≤ cb a b ∧ cb a b ≤ 1
  | [], [] => by decide
  | [], _ :: _ => by simp [cb, Lib.compareBytes]
  | _ :: _, [] => by simp [cb, Lib.compareBytes]
  | x :: a, y :: b => by
    rw [cb_cons]
    split
    · decide
    · split
      · decide
      · exact cb_range a b
theorem cb_trans : ∀ a b c : List UInt8, cb a b ≤ 0 → cb b c ≤ 0 → cb a c ≤ 0
  | [], b, [], _, _ => by simp [cb, Lib.compareBytes]
  | [], b, _ :: _, _, _ => by simp [cb, Lib.compareBytes]
  | x :: a, [], c, h, _ => by simp [cb, Lib.compareBytes] at h
  | x :: a, y :: b, [], _, h => by simp [cb, Lib.compareBytes] at h
  | x :: a, y :: b, z :: c, h, h' => by
    rw [cb_cons] at h h' ⊢
    rcases u8_tri x y with h1 | h1 | h1
    · rcases u8_tri y z with h2 | h2 | h2
      · have : x < z := by
          have a1 : x.toNat < y.toNat := h1
          have a2 : y.toNat < z.toNat := h2
          show x.toNat < z.toNat
          omega
        rw [if_pos this]; decide
      · subst h2; rw [if_pos h1]; decide
      · rw [if_neg (u8_asymm h2), if_pos h2] at h'; omega
    · subst h1
      simp only [UInt8.lt_irrefl, if_false] at h
      rcases u8_tri x z with h2 | h2 | h2
      · rw [if_pos h2]; decide
      · subst h2
        simp only [UInt8.lt_irrefl, if_false] at h' ⊢
        exact cb_trans a b c h h'
      · rw [if_neg (u8_asymm h2), if_pos h2] at h'; omega
    · rw [if_neg (u8_asymm h1), if_pos h1] at h; omega
theorem less_cb : ∀ a b : List UInt8, Op.bytesLess a b = decide (cb a b < 0)
  | [], [] => rfl
  | [], _ :: _ => rfl
  | _ :: _, [] => rfl
  | x :: a, y :: b => by
    rw [Op.bytesLess, cb_cons, less_cb a b]
    rcases u8_tri x y with h | h | h
    · simp [h]
    · subst h; simp [UInt8.lt_irrefl]
    · have h1 : ¬ x < y := u8_asymm h
      have h2 : (x == y) = false := by
        simp only [beq_eq_false_iff_ne, ne_eq]
        rintro rfl
        exact absurd h h1
      simp [h, h1, h2]
theorem cb_at : ∀ (a b : List UInt8) (k : Nat), a.take k = b.take k → k < a.length → k < b.length → cb a b = if a.getD k 0 < b.getD k 0 then -1 else if b.getD k 0 < a.getD k 0 then 1 else cb (a.drop (k + 1)) (b.drop (k + 1))
  | [], b, k, _, h, _ => by simp at h
  | _ :: _, [], k, _, _, h => by simp at h
  | x :: a, y :: b, 0, _, _, _ => by rw [cb_cons]; simp
  | x :: a, y :: b, k + 1, h, h1, h2 => by
    simp only [List.take_succ_cons, List.cons.injEq] at h
    obtain ⟨rfl, h⟩ := h
    rw [cb_cons]
    simp only [UInt8.lt_irrefl, if_false, List.getD_cons_succ, List.drop_succ_cons]
    exact cb_at a b k h (by simpa using h1) (by simpa using h2)
theorem cb_lt {a b : List UInt8} {k : Nat} (h : a.take k = b.take k) (h1 : k < a.length) (h2 : k < b.length) (hlt : a.getD k 0 < b.getD k 0) : cb a b = -1 := by rw [cb_at a b k h h1 h2, if_pos hlt]
theorem cb_gt {a b : List UInt8} {k : Nat} (h : a.take k = b.take k) (h1 : k < a.length) (h2 : k < b.length) (hlt : b.getD k 0 < a.getD k 0) : cb a b = 1 := by rw [cb_at a b k h h1 h2, if_neg (u8_asymm hlt), if_pos hlt]
theorem take_step {a b : List UInt8} {k : Nat} (h : a.take k = b.take k) (h1 : k < a.length) (h2 : k < b.length) (n1 : ¬ a.getD k 0 < b.getD k 0) (n2 : ¬ b.getD k 0 < a.getD k 0) : a.take (k + 1) = b.take (k + 1) := by
  rw [take_snoc h1, take_snoc h2, h]
  rcases u8_tri (a.getD k 0) (b.getD k 0) with h | h | h
  · exact absurd h n1
  · rw [h]
  · exact absurd h n2
theorem cb_pre (x : UInt8) (a b : List UInt8) : cb (x :: a) (x :: b) = cb a b := by rw [cb_cons]; simp [UInt8.lt_irrefl]
theorem hexd_lt : ∀ i j : Nat, i < 16 → j < 16 → (hexd.getD i 0 < hexd.getD j 0 ↔ i < j) := by
  have : ∀ i, i < 16 → ∀ j, j < 16 → (hexd.getD i 0 < hexd.getD j 0 ↔ i < j) := by decide +kernel
  exact fun i j hi hj => this i hi j hj
theorem cb_hexs : ∀ a b : List UInt8, cb (hexs a) (hexs b) = cb a b
  | [], [] => rfl
  | [], y :: b => by simp [hexs, hex1, cb, Lib.compareBytes]
  | x :: a, [] => by simp [hexs, hex1, cb, Lib.compareBytes]
  | x :: a, y :: b => by
    have e : ∀ (a : UInt8) (r : List UInt8), hexs (a :: r) = hexd.getD (a.toNat / 16) 0 :: hexd.getD (a.toNat % 16) 0 :: hexs r := by intro a r; simp [hexs, hex1]
    have hx := x.toNat_lt
    have hy := y.toNat_lt
    rw [e, e, cb_cons, cb_cons, cb_cons, cb_hexs a b]
    have l1 := hexd_lt (x.toNat / 16) (y.toNat / 16) (by omega) (by omega)
    have l2 := hexd_lt (y.toNat / 16) (x.toNat / 16) (by omega) (by omega)
    have l3 := hexd_lt (x.toNat % 16) (y.toNat % 16) (by omega) (by omega)
    have l4 := hexd_lt (y.toNat % 16) (x.toNat % 16) (by omega) (by omega)
    have m1 : (x < y) ↔ x.toNat < y.toNat := Iff.rfl
    have m2 : (y < x) ↔ y.toNat < x.toNat := Iff.rfl
    simp only [l1, l2, l3, l4, m1, m2]
    split
    · rw [if_pos (by omega)]
    · split
      · rw [if_neg (by omega), if_pos (by omega)]
      · split
        · rw [if_pos (by omega)]
        · split
          · rw [if_neg (by omega), if_pos (by omega)]
          · rw [if_neg (by omega), if_neg (by omega)]
/-- bytes read off cells -/
theorem run_bytes {P : Program} {w : World} {A : Option Addr} {n c : Nat} {l : List UInt8} (h : Rd w 1 A n (b8s l)) : (Extern.Bytes.bytesOf (.slice A n c)).run P w = .ok (strOf l) w := by
  have hl : l.length = n := by have := h.1; rw [b8s_length] at this; omega
  cases A with
  | none =>
    have : l = [] := by
      rcases Nat.eq_zero_or_pos n with h0 | h0
      · exact List.eq_nil_of_length_eq_zero (by omega)
      · exact absurd rfl (h.2.1 h0)
    subst this
    rfl
  | some a =>
    have hr := Lib.run_loadBytesX (P := P) (w := w) (l.map fun b => ((b.toNat : Nat) : Int)) a .empty (fun j x hx => by
      rw [List.getElem?_map, Option.map_eq_some_iff] at hx
      obtain ⟨u, hu, rfl⟩ := hx
      exact h.2.2 j (B8 u) (by simp [b8s, List.getElem?_map, hu]))
    have e : Lib.bytesOf (l.map fun b => ((b.toNat : Nat) : Int)) = l := by
      simp only [Lib.bytesOf, List.map_map]
      conv => rhs; rw [← List.map_id l]
      apply List.map_congr_left
      intro b _
      simp
    rw [e, List.length_map, hl] at hr
    simp only [Extern.Bytes.bytesOf]
    rw [hr]
    simp [strOf]
theorem run_compare {P : Program} {w : World} {A A' : Option Addr} {n c n' c' : Nat} {l l' : List UInt8} (h : Rd w 1 A n (b8s l)) (h' : Rd w 1 A' n' (b8s l')) : (Extern.BytealgCompare.compare #[.slice A n c, .slice A' n' c']).run P w = .ok (.int .i64 (cb l l')) w := by
  change Sem.run P (do pure (goInt (Extern.BytealgCompare.cmp (← Extern.Bytes.bytesOf (.slice A n c)) (← Extern.Bytes.bytesOf (.slice A' n' c'))))) w = _
  simp only [Sem.run_bind, Sem.run_pure, Result.andThen, run_bytes h, run_bytes h']
  rw [Lib.cmp_eq]
  rfl
end Go.Hx
end
section
/- The check sum, over plain lists. No program. -/
set_option linter.unusedVariables false
set_option linter.unusedSimpArgs false
namespace Go.Hx
open Go.Eng
def cstep (x : Nat) : Nat := if x % 2 = 1 then (x / 2) ^^^ 2197175160 else x / 2
theorem cstep_lt {x : Nat} (h : x < 4294967296) : cstep x < 4294967296 := by
  unfold cstep
  split
  · exact Nat.xor_lt_two_pow (n := 32) (by omega) (by decide)
  · omega
def csteps : Nat → Nat → Nat
  | 0, x => x
  | n + 1, x => cstep (csteps n x)
theorem csteps_lt {x : Nat} (h : x < 4294967296) : ∀ n, csteps n x < 4294967296
  | 0 => h
  | n + 1 => cstep_lt (csteps_lt h n)
def cmore (n : Nat) (l : List UInt8) : Nat := l.foldl (fun n b => csteps 8 (n ^^^ b.toNat)) n
theorem cmore_lt {n : Nat} (h : n < 4294967296) : ∀ l : List UInt8, cmore n l < 4294967296 := by
  intro l
  induction l generalizing n with
  | nil => exact h
  | cons a r ih => exact ih (csteps_lt (Nat.xor_lt_two_pow (n := 32) h (by have := a.toNat_lt; omega)) 8)
theorem cmore_snoc (n : Nat) (l : List UInt8) (b : UInt8) : cmore n (l ++ [b]) = csteps 8 (cmore n l ^^^ b.toNat) := by simp [cmore]
theorem xor_ones {m : Nat} (h : m < 4294967296) : 4294967295 ^^^ m = 4294967295 - m := by
  have h1 : (BitVec.allOnes 32 ^^^ BitVec.ofNat 32 m) = ~~~ BitVec.ofNat 32 m := BitVec.allOnes_xor
  have h2 := congrArg BitVec.toNat h1
  rw [BitVec.toNat_xor, BitVec.toNat_not, BitVec.toNat_allOnes, BitVec.toNat_ofNat, Nat.mod_eq_of_lt h] at h2
  exact h2
def crcSum (l : List UInt8) : Nat := 4294967295 - cmore 4294967295 l
theorem crcSum_lt (l : List UInt8) : crcSum l < 4294967296 := by unfold crcSum; omega
/-- four bytes of a number, the lowest one first -/
def le4 (n : Nat) : List UInt8 := [UInt8.ofNat n, UInt8.ofNat (n / 256), UInt8.ofNat (n / 65536), UInt8.ofNat (n / 16777216)]
def shr8 : Nat → Nat → Nat
  | 0, n => n
  | k + 1, n => shr8 k n / 256
def lek (k n : Nat) : List UInt8 := (List.range k).map fun i => UInt8.ofNat (shr8 i n)
theorem lek_succ (k n : Nat) : lek (k + 1) n = lek k n ++ [UInt8.ofNat (shr8 k n)] := by simp [lek, List.range_succ]
theorem lek_four (n : Nat) : lek 4 n = le4 n := by
  simp only [lek, List.range_succ, List.range_zero, List.nil_append, List.cons_append, List.map_cons, List.map_nil, shr8, le4, Nat.div_div_eq_div_mul]
theorem shr8_lt {n b : Nat} (h : n < b) : ∀ k, shr8 k n < b
  | 0 => h
  | k + 1 => by have := shr8_lt h k; simp only [shr8]; omega
theorem le4_length (n : Nat) : (le4 n).length = 4 := rfl
def putL (l : List UInt8) : List UInt8 := l ++ le4 (crcSum l)
theorem putL_length (l : List UInt8) : (putL l).length = l.length + 4 := by simp [putL, le4_length]
theorem step_bits (x : Nat) (h : x < 4294967296) : (x / 2) ^^^ (2197175160 * (x % 2)) = cstep x := by
  unfold cstep
  split
  · rename_i h1; rw [h1]
  · rename_i h1
    have : x % 2 = 0 := by omega
    rw [this]; simp
theorem u8mod (n : Nat) : IntKind.u8.wrap (n : Int) = ((UInt8.ofNat n).toNat : Int) := by
  simp [IntKind.wrap, IntKind.signed, IntKind.bits]
theorem and1 (x : Nat) (h : x < 4294967296) : bits .and .u32 (x : Int) 1 = ((x % 2 : Nat) : Int) := by
  have := u32_and_nat x 1 h (by decide)
  rw [Nat.and_one_is_mod] at this
  exact this
theorem xor_step (x : Nat) (h : x < 4294967296) : bits .xor .u32 ((x : Int) / 2) (2197175160 * ((x % 2 : Nat) : Int)) = ((cstep x : Nat) : Int) := by
  have h2 : x % 2 = 0 ∨ x % 2 = 1 := by omega
  have h3 : 2197175160 * (x % 2) < 4294967296 := by rcases h2 with h2 | h2 <;> rw [h2] <;> decide
  have := u32_xor_nat (x / 2) (2197175160 * (x % 2)) (by omega) h3
  rw [step_bits x h] at this
  rw [← this]
  congr 1
theorem xor_byte (x : Nat) (h : x < 4294967296) (b : UInt8) : bits .xor .u32 (x : Int) (b.toNat : Int) = ((x ^^^ b.toNat : Nat) : Int) := u32_xor_nat x b.toNat h (by have := b.toNat_lt; omega)
theorem xor_poly (x : Nat) (h : x < 4294967296) : bits .xor .u32 ((x : Int) / 2) 2197175160 = (((x / 2) ^^^ 2197175160 : Nat) : Int) := u32_xor_nat (x / 2) 2197175160 (by omega) (by decide)
theorem xor_byte_lt {x : Nat} (h : x < 4294967296) (b : UInt8) : x ^^^ b.toNat < 4294967296 := Nat.xor_lt_two_pow (n := 32) h (by have := b.toNat_lt; omega)
end Go.Hx
end
section
/- Lists of digests in a row: plain lists. No program. -/
set_option linter.unusedVariables false
set_option linter.unusedSimpArgs false
namespace Go.Hx
open Go.Eng
abbrev D32 (ds : List (List UInt8)) : Prop := ∀ d ∈ ds, d.length = 32
def dput : List (List UInt8) → List UInt8 → List (List UInt8)
  | [], d => [d]
  | a :: r, d => if cb a d < 0 then a :: dput r d else if a = d then a :: r else d :: a :: r
theorem dput_at : ∀ (ds : List (List UInt8)) (d : List UInt8) (k : Nat), k ≤ ds.length → (∀ i, i < k → cb (ds.getD i []) d < 0) → (k < ds.length → ¬ cb (ds.getD k []) d < 0) →
    dput ds d = if k < ds.length ∧ ds.getD k [] = d then ds else ds.take k ++ [d] ++ ds.drop k
  | [], d, k, hk, _, _ => by
    obtain rfl : k = 0 := by simpa using hk
    simp [dput]
  | a :: r, d, 0, _, _, h => by
    have h0 := h (by simp)
    simp only [List.getD_cons_zero] at h0
    simp only [dput, if_neg h0, List.getD_cons_zero, List.take_zero, List.nil_append, List.drop_zero, List.singleton_append, List.length_cons, Nat.zero_lt_succ, true_and]
  | a :: r, d, k + 1, hk, h1, h2 => by
    have ha := h1 0 (by omega)
    simp only [List.getD_cons_zero] at ha
    have ih := dput_at r d k (by simpa using hk) (fun i hi => by have := h1 (i + 1) (by omega); simpa using this) (fun hl => by have := h2 (by simpa using hl); simpa using this)
    simp only [dput, if_pos ha, ih, List.getD_cons_succ, List.length_cons, Nat.succ_lt_succ_iff, List.take_succ_cons, List.drop_succ_cons, List.cons_append]
    split <;> rfl
theorem dput_length (ds : List (List UInt8)) (d : List UInt8) : ds.length ≤ (dput ds d).length ∧ (dput ds d).length ≤ ds.length + 1 := by
  induction ds with
  | nil => simp [dput]
  | cons a r ih =>
    simp only [dput]
    split
    · simp only [List.length_cons]; omega
    · split <;> simp
theorem dput_D32 {ds : List (List UInt8)} {d : List UInt8} (h : D32 ds) (hd : d.length = 32) : D32 (dput ds d) := by
  induction ds with
  | nil => intro x hx; simp [dput] at hx; subst hx; exact hd
  | cons a r ih =>
    have ih' := ih (fun x hx => h x (List.mem_cons_of_mem _ hx))
    have ha := h a (List.mem_cons_self ..)
    intro x hx
    simp only [dput] at hx
    split at hx
    · rcases List.mem_cons.1 hx with rfl | hx
      · exact ha
      · exact ih' x hx
    · split at hx
      · exact h x hx
      · rcases List.mem_cons.1 hx with rfl | hx
        · exact hd
        · exact h x hx
/-- each ahead of the next -/
def Rise : List (List UInt8) → Prop
  | [] => True
  | [_] => True
  | a :: b :: r => cb a b < 0 ∧ Rise (b :: r)
instance : (l : List (List UInt8)) → Decidable (Rise l)
  | [] => isTrue trivial
  | [_] => isTrue trivial
  | a :: b :: r => @instDecidableAnd (cb a b < 0) (Rise (b :: r)) inferInstance (instDecidableRise (b :: r))
theorem rise_take_succ : ∀ (l : List (List UInt8)) (k : Nat), 0 < k → k < l.length → (Rise (l.take (k + 1)) ↔ Rise (l.take k) ∧ cb (l.getD (k - 1) []) (l.getD k []) < 0)
  | [], k, _, h => by simp at h
  | [_], k, h0, h => by simp at h; omega
  | a :: b :: r, 1, _, _ => by simp [Rise]
  | a :: b :: r, k + 2, _, h => by
    have ih := rise_take_succ (b :: r) (k + 1) (by omega) (by simpa using h)
    simp only [List.take_succ_cons] at ih ⊢
    simp only [Rise, ih, List.getD_cons_succ]
    have e : k + 2 - 1 = (k + 1 - 1) + 1 := by omega
    rw [e, List.getD_cons_succ, and_assoc]
theorem rise_take {l : List (List UInt8)} {k : Nat} (h : ¬ Rise (l.take k)) : ¬ Rise l := by
  intro hr
  apply h
  clear h
  induction l generalizing k with
  | nil => simp [Rise]
  | cons a r ih =>
    cases k with
    | zero => simp [Rise]
    | succ k =>
      cases r with
      | nil => simp [Rise]
      | cons b r =>
        have := ih (k := k) hr.2
        cases k with
        | zero => simp [Rise]
        | succ k =>
          simp only [List.take_succ_cons] at this ⊢
          exact ⟨hr.1, this⟩
/-- what is behind the first -/
theorem dput_head {a : List UInt8} {r : List (List UInt8)} {d : List UInt8} {x : List UInt8} (hr : Rise (x :: a :: r)) (hx : cb x d < 0) : ∃ y s, dput (a :: r) d = y :: s ∧ cb x y < 0 := by
  simp only [dput]
  split
  · exact ⟨_, _, rfl, hr.1⟩
  · split
    · exact ⟨_, _, rfl, hr.1⟩
    · exact ⟨_, _, rfl, hx⟩
theorem dput_rise : ∀ (l : List (List UInt8)) (d : List UInt8), Rise l → Rise (dput l d)
  | [], d, _ => by simp [dput, Rise]
  | [a], d, _ => by
    simp only [dput]
    split
    · rename_i h; exact ⟨h, trivial⟩
    · split
      · trivial
      · rename_i h1 h2
        refine ⟨?_, trivial⟩
        have h3 := cb_neg a d
        have h4 : cb a d ≠ 0 := fun h => h2 (cb_eq _ _ h)
        omega
  | a :: b :: r, d, h => by
    by_cases h1 : cb a d < 0
    · obtain ⟨y, s, e, hy⟩ := dput_head h h1
      have ih := dput_rise (b :: r) d h.2
      have e2 : dput (a :: b :: r) d = a :: dput (b :: r) d := by rw [dput, if_pos h1]
      rw [e2, e]
      rw [e] at ih
      exact ⟨hy, ih⟩
    · by_cases h2 : a = d
      · have e2 : dput (a :: b :: r) d = a :: b :: r := by rw [dput, if_neg h1, if_pos h2]
        rw [e2]; exact h
      · have e2 : dput (a :: b :: r) d = d :: a :: b :: r := by rw [dput, if_neg h1, if_neg h2]
        rw [e2]
        refine ⟨?_, h⟩
        have h3 := cb_neg a d
        have h4 : cb a d ≠ 0 := fun h => h2 (cb_eq _ _ h)
        omega
end Go.Hx
end
section
/- A journal's bytes, read: plain lists. No program. -/
set_option linter.unusedVariables false
set_option linter.unusedSimpArgs false
namespace Go.Hx
open Go.Eng
def chunks (k : Nat) (l : List UInt8) : List (List UInt8) := (List.range k).map fun i => (l.drop (32 * i)).take 32
theorem chunks_length (k : Nat) (l : List UInt8) : (chunks k l).length = k := by simp [chunks]
theorem chunks_succ (k : Nat) (l : List UInt8) : chunks (k + 1) l = chunks k l ++ [(l.drop (32 * k)).take 32] := by simp [chunks, List.range_succ]
theorem chunks_D32 {k : Nat} {l : List UInt8} (h : 32 * k ≤ l.length) : D32 (chunks k l) := by
  intro x hx
  simp only [chunks, List.mem_map, List.mem_range] at hx
  obtain ⟨i, hi, rfl⟩ := hx
  rw [List.length_take, List.length_drop]
  omega
theorem chunks_flatten {k : Nat} {l : List UInt8} (h : 32 * k ≤ l.length) : (chunks k l).flatten = l.take (32 * k) := by
  induction k with
  | zero => simp [chunks]
  | succ k ih =>
    rw [chunks_succ, List.flatten_append, ih (by omega)]
    simp only [List.flatten_cons, List.flatten_nil, List.append_nil]
    rw [show 32 * (k + 1) = 32 * k + 32 by omega, List.take_add]
/-- the number of four bytes, the lowest one first -/
def num4 (l : List UInt8) : Nat := (l.getD 0 0).toNat + 256 * (l.getD 1 0).toNat + 65536 * (l.getD 2 0).toNat + 16777216 * (l.getD 3 0).toNat
theorem num4_lt (l : List UInt8) : num4 l < 4294967296 := by
  have h0 := (l.getD 0 0).toNat_lt
  have h1 := (l.getD 1 0).toNat_lt
  have h2 := (l.getD 2 0).toNat_lt
  have h3 := (l.getD 3 0).toNat_lt
  unfold num4
  omega
theorem le4_num4 {l : List UInt8} (h : l.length = 4) : le4 (num4 l) = l := by
  match l, h with
  | [a, b, c, d], _ =>
    have h0 := a.toNat_lt
    have h1 := b.toNat_lt
    have h2 := c.toNat_lt
    have h3 := d.toNat_lt
    have e : ∀ (x : Nat) (u : UInt8), x % 256 = u.toNat → UInt8.ofNat x = u := fun x u hx => by
      apply UInt8.toNat_inj.1
      rw [UInt8.toNat_ofNat']
      exact hx
    simp only [le4, num4, List.getD_cons_zero, List.getD_cons_succ]
    rw [e _ a (by omega), e _ b (by omega), e _ c (by omega), e _ d (by omega)]
theorem num4_le4 {n : Nat} (h : n < 4294967296) : num4 (le4 n) = n := by
  simp only [le4, num4, List.getD_cons_zero, List.getD_cons_succ, UInt8.toNat_ofNat']
  omega
theorem putL_inj {a b : List UInt8} (h : putL a = putL b) : a = b := by
  have hl : a.length = b.length := by
    have := congrArg List.length h
    rw [putL_length, putL_length] at this
    omega
  have := congrArg (List.take a.length) h
  unfold putL at this
  rw [List.take_left] at this
  rw [hl, List.take_left] at this
  exact this
end Go.Hx
end
section
/- The number of four bytes, read from the highest one down. No program. -/
set_option linter.unusedVariables false
namespace Go.Hx
open Go.Eng
/-- what is read of j bytes, the highest one first -/
def acc (l : List UInt8) : Nat → Nat
  | 0 => 0
  | j + 1 => acc l j * 256 + (l.getD (3 - j) 0).toNat
theorem acc_lt (l : List UInt8) : ∀ j, acc l j < 256 ^ j
  | 0 => by simp [acc]
  | j + 1 => by
    have h1 := acc_lt l j
    have h2 := (l.getD (3 - j) 0).toNat_lt
    rw [acc, Nat.pow_succ]
    omega
theorem acc_le (l : List UInt8) {j : Nat} (h : j ≤ 4) : acc l j < 4294967296 := by
  have h1 := acc_lt l j
  have h2 : 256 ^ j ≤ 256 ^ 4 := Nat.pow_le_pow_right (by decide) h
  have h3 : 256 ^ 4 = 4294967296 := by decide
  omega
theorem acc4 (l : List UInt8) : acc l 4 = num4 l := by
  have e : (3 - 0 = 3) ∧ (3 - 1 = 2) ∧ (3 - 2 = 1) ∧ (3 - 3 = 0) := by decide
  simp only [acc, num4, e.1, e.2.1, e.2.2.1, e.2.2.2]
  omega
theorem or_byte (a b : Nat) (ha : a < 4294967296) (hb : b < 256) : bits .or .i64 (a * 256 : Int) (b : Int) = ((a * 256 + b : Nat) : Int) := by
  have h1 : (a * 256 : Int) = ((a * 256 : Nat) : Int) := by simp
  have h2 : a * 256 ||| b = a * 256 + b := by rw [Nat.mul_comm a 256, show 256 = 2 ^ 8 from rfl, Nat.two_pow_add_eq_or_of_lt (by simpa using hb)]
  have e0 : ∀ n : Nat, n < 18446744073709551616 → (BitVec.ofInt 64 (n : Int)).toNat = n := fun n hn => by
    rw [BitVec.toNat_ofInt]
    simp
    omega
  rw [h1]
  show IntKind.i64.wrap ((BitVec.ofInt 64 ((a * 256 : Nat) : Int) ||| BitVec.ofInt 64 (b : Int)).toNat : Int) = _
  rw [BitVec.toNat_or, e0 _ (by omega), e0 _ (by omega), h2]
  exact w64 (by omega) (by omega)
end Go.Hx
end
section
/- The digest of bytes, over plain lists. No program. -/
set_option linter.unusedVariables false
set_option linter.unusedSimpArgs false
namespace Go.Hx
open Go.Eng
def rotr (n : Nat) (x : UInt32) : UInt32 := .ofNat (x.toNat / 2 ^ n + x.toNat % 2 ^ n * 2 ^ (32 - n))
theorem rotr_val {n : Nat} (hn : n ≤ 32) (x : UInt32) : (rotr n x).toNat = x.toNat / 2 ^ n + x.toNat % 2 ^ n * 2 ^ (32 - n) := by
  rw [rotr, UInt32.toNat_ofNat', Nat.mod_eq_of_lt]
  have h1 := x.toNat_lt
  have h2 : 2 ^ n * 2 ^ (32 - n) = 2 ^ 32 := by rw [← Nat.pow_add]; congr 1; omega
  have h3 : x.toNat % 2 ^ n < 2 ^ n := Nat.mod_lt _ (Nat.two_pow_pos n)
  have h4 : x.toNat / 2 ^ n < 2 ^ (32 - n) := Nat.div_lt_of_lt_mul (by omega)
  have h5 : x.toNat % 2 ^ n * 2 ^ (32 - n) ≤ (2 ^ n - 1) * 2 ^ (32 - n) := Nat.mul_le_mul_right _ (by omega)
  have h6 : (2 ^ n - 1) * 2 ^ (32 - n) + 2 ^ (32 - n) = 2 ^ 32 := by
    rw [← h2, Nat.sub_mul, Nat.one_mul]
    have := Nat.le_mul_of_pos_left (2 ^ (32 - n)) (Nat.two_pow_pos n)
    omega
  omega
/-- one turn to the right -/
def turn1 (x : UInt32) : UInt32 := x / 2 + x % 2 * 2147483648
theorem turn1_val (x : UInt32) : (turn1 x).toNat = x.toNat / 2 + x.toNat % 2 * 2147483648 := by
  have h1 := x.toNat_lt
  rw [turn1, UInt32.toNat_add, UInt32.toNat_mul, UInt32.toNat_div, UInt32.toNat_mod]
  show (x.toNat / 2 + x.toNat % 2 * 2147483648 % 4294967296) % 4294967296 = _
  have : x.toNat % 2 < 2 := Nat.mod_lt _ (by decide)
  omega
theorem rotr_zero (x : UInt32) : rotr 0 x = x := by
  apply UInt32.toNat_inj.1
  rw [rotr_val (by decide)]
  simp [Nat.mod_one]
theorem rotr_succ {n : Nat} (hn : n < 32) (x : UInt32) : rotr (n + 1) x = turn1 (rotr n x) := by
  apply UInt32.toNat_inj.1
  rw [turn1_val, rotr_val (by omega), rotr_val (by omega)]
  obtain ⟨k, hk⟩ : ∃ k, 32 - n = k + 1 := ⟨31 - n, by omega⟩
  have hk2 : 32 - (n + 1) = k := by omega
  rw [hk, hk2, Nat.pow_succ 2 k, Nat.pow_succ 2 n]
  have hq : x.toNat / (2 ^ n * 2) = x.toNat / 2 ^ n / 2 := (Nat.div_div_eq_div_mul ..).symm
  have hm : x.toNat % (2 ^ n * 2) = x.toNat % 2 ^ n + 2 ^ n * (x.toNat / 2 ^ n % 2) := Nat.mod_mul ..
  rw [hq, hm]
  generalize x.toNat / 2 ^ n = q
  generalize x.toNat % 2 ^ n = m
  have h31 : 2 ^ n * 2 ^ k = 2147483648 := by rw [← Nat.pow_add, show n + k = 31 by omega]
  have e1 : (q + m * (2 ^ k * 2)) / 2 = q / 2 + m * 2 ^ k := by
    rw [show m * (2 ^ k * 2) = (m * 2 ^ k) * 2 by rw [Nat.mul_assoc]]; omega
  have e2 : (q + m * (2 ^ k * 2)) % 2 = q % 2 := by
    rw [show m * (2 ^ k * 2) = (m * 2 ^ k) * 2 by rw [Nat.mul_assoc]]; omega
  rw [e1, e2, Nat.add_mul, Nat.mul_right_comm (2 ^ n), h31]
  omega
/-- the program's turn -/
theorem rotl_or {n : Nat} (h0 : 0 < n) (hn : n < 32) (x : UInt32) : UInt32.ofNat (x.toNat * 2 ^ (32 - n)) ||| UInt32.ofNat (x.toNat / 2 ^ n) = rotr n x := by
  apply UInt32.toNat_inj.1
  have h1 := x.toNat_lt
  rw [rotr_val (by omega), UInt32.toNat_or, UInt32.toNat_ofNat', UInt32.toNat_ofNat']
  have h2 : 2 ^ n * 2 ^ (32 - n) = 2 ^ 32 := by rw [← Nat.pow_add]; congr 1; omega
  have h4 : x.toNat / 2 ^ n < 2 ^ (32 - n) := Nat.div_lt_of_lt_mul (by omega)
  have h5 : x.toNat / 2 ^ n ≤ x.toNat := Nat.div_le_self ..
  rw [Nat.mod_eq_of_lt (a := x.toNat / 2 ^ n) (by omega)]
  have h6 : x.toNat * 2 ^ (32 - n) % 2 ^ 32 = 2 ^ (32 - n) * (x.toNat % 2 ^ n) := by
    rw [← h2, Nat.mul_mod_mul_right, Nat.mul_comm]
  rw [h6, ← Nat.two_pow_add_eq_or_of_lt h4, Nat.mul_comm, Nat.add_comm]
def rootsL : List UInt32 := [1116352408, 1899447441, 3049323471, 3921009573, 961987163, 1508970993, 2453635748, 2870763221, 3624381080, 310598401, 607225278, 1426881987, 1925078388, 2162078206, 2614888103, 3248222580, 3835390401, 4022224774, 264347078, 604807628, 770255983, 1249150122, 1555081692, 1996064986, 2554220882, 2821834349, 2952996808, 3210313671, 3336571891, 3584528711, 113926993, 338241895, 666307205, 773529912, 1294757372, 1396182291, 1695183700, 1986661051, 2177026350, 2456956037, 2730485921, 2820302411, 3259730800, 3345764771, 3516065817, 3600352804, 4094571909, 275423344, 430227734, 506948616, 659060556, 883997877, 958139571, 1322822218, 1537002063, 1747873779, 1955562222, 2024104815, 2227730452, 2361852424, 2428436474, 2756734187, 3204031479, 3329325298]
def h0L : List UInt32 := [1779033703, 3144134277, 1013904242, 2773480762, 1359893119, 2600822924, 528734635, 1541459225]
def turns (a b c : Nat) (x : UInt32) : UInt32 := rotr a x ^^^ rotr b x ^^^ rotr c x
def at8 (b : List UInt8) (i : Nat) : Nat := (b.getD i 0).toNat
def word4 (b : List UInt8) (i : Nat) : UInt32 := .ofNat (at8 b i * 16777216 + at8 b (i + 1) * 65536 + at8 b (i + 2) * 256 + at8 b (i + 3))
/-- so many bytes as a number -/
def wp (b : List UInt8) (i : Nat) : Nat → Nat
  | 0 => 0
  | j + 1 => wp b i j * 256 + at8 b (i + j)
theorem at8_lt (b : List UInt8) (i : Nat) : at8 b i < 256 := (b.getD i 0).toNat_lt
theorem wp_lt (b : List UInt8) (i : Nat) : ∀ j, wp b i j < 256 ^ j
  | 0 => Nat.one_pos
  | j + 1 => by
    have h1 := wp_lt b i j
    have h2 := at8_lt b (i + j)
    rw [wp, Nat.pow_succ]
    omega
theorem wp_step {b : List UInt8} {i j : Nat} (hj : j < 4) : (UInt32.ofNat (wp b i j) * 256) ||| (b.getD (i + j) 0).toUInt32 = UInt32.ofNat (wp b i (j + 1)) := by
  apply UInt32.toNat_inj.1
  have h1 := wp_lt b i j
  have h0 : 256 ^ j ≤ 256 ^ 3 := Nat.pow_le_pow_right (by decide) (by omega)
  have h2 := at8_lt b (i + j)
  have h3 : wp b i j < 16777216 := Nat.lt_of_lt_of_le h1 h0
  rw [UInt32.toNat_or, UInt32.toNat_mul, UInt32.toNat_ofNat', UInt8.toNat_toUInt32, UInt32.toNat_ofNat', wp]
  show (wp b i j % 4294967296 * 256 % 4294967296 ||| at8 b (i + j)) = _
  rw [Nat.mod_eq_of_lt (a := wp b i j) (by omega), Nat.mod_eq_of_lt (a := wp b i j * 256) (by omega), Nat.mod_eq_of_lt (a := wp b i j * 256 + _) (by omega), show wp b i j * 256 = 2 ^ 8 * wp b i j by omega, Nat.two_pow_add_eq_or_of_lt (i := 8) h2]
theorem wp_val (b : List UInt8) (i : Nat) : wp b i 4 = at8 b i * 16777216 + at8 b (i + 1) * 65536 + at8 b (i + 2) * 256 + at8 b (i + 3) := by
  have e1 : wp b i 1 = wp b i 0 * 256 + at8 b (i + 0) := rfl
  have e2 : wp b i 2 = wp b i 1 * 256 + at8 b (i + 1) := rfl
  have e3 : wp b i 3 = wp b i 2 * 256 + at8 b (i + 2) := rfl
  have e4 : wp b i 4 = wp b i 3 * 256 + at8 b (i + 3) := rfl
  have e0 : wp b i 0 = 0 := rfl
  rw [Nat.add_zero] at e1
  rw [e4, e3, e2, e1, e0]
  generalize at8 b i = p
  generalize at8 b (i + 1) = q
  generalize at8 b (i + 2) = r
  generalize at8 b (i + 3) = s
  omega
theorem wp_four (b : List UInt8) (i : Nat) : UInt32.ofNat (wp b i 4) = word4 b i := congrArg UInt32.ofNat (wp_val b i)
theorem word4_sum (b : List UInt8) (i : Nat) : (b.getD i 0).toUInt32 * 16777216 + (b.getD (i + 1) 0).toUInt32 * 65536 + (b.getD (i + 2) 0).toUInt32 * 256 + (b.getD (i + 3) 0).toUInt32 = word4 b i := by
  apply UInt32.toNat_inj.1
  have h0 : (b.getD i 0).toNat < 256 := at8_lt b i
  have h1 : (b.getD (i + 1) 0).toNat < 256 := at8_lt b (i + 1)
  have h2 : (b.getD (i + 2) 0).toNat < 256 := at8_lt b (i + 2)
  have h3 : (b.getD (i + 3) 0).toNat < 256 := at8_lt b (i + 3)
  have k1 : (16777216 : UInt32).toNat = 16777216 := rfl
  have k2 : (65536 : UInt32).toNat = 65536 := rfl
  have k3 : (256 : UInt32).toNat = 256 := rfl
  simp only [word4, at8, UInt32.toNat_add, UInt32.toNat_mul, UInt8.toNat_toUInt32, UInt32.toNat_ofNat', k1, k2, k3]
  generalize (b.getD i 0).toNat = p at *
  generalize (b.getD (i + 1) 0).toNat = q at *
  generalize (b.getD (i + 2) 0).toNat = r at *
  generalize (b.getD (i + 3) 0).toNat = s at *
  omega
def wmix (x : UInt32) : UInt32 := rotr 7 x ^^^ rotr 18 x ^^^ (x / 8)
def wmix2 (x : UInt32) : UInt32 := rotr 17 x ^^^ rotr 19 x ^^^ (x / 1024)
def wnext (w : List UInt32) (i : Nat) : UInt32 := w.getD (i - 16) 0 + wmix (w.getD (i - 15) 0) + w.getD (i - 7) 0 + wmix2 (w.getD (i - 2) 0)
/-- the first words -/
def wl (b : List UInt8) : Nat → List UInt32
  | 0 => []
  | i + 1 => wl b i ++ [if i < 16 then word4 b (4 * i) else wnext (wl b i) i]
theorem wl_length (b : List UInt8) : ∀ i, (wl b i).length = i
  | 0 => rfl
  | i + 1 => by rw [wl, List.length_append, wl_length b i]; rfl
def v_ (v : List UInt32) (i : Nat) : UInt32 := v.getD i 0
def rt (v : List UInt32) (k w : UInt32) : UInt32 := v_ v 7 + turns 6 11 25 (v_ v 4) + ((v_ v 4 &&& v_ v 5) ^^^ (~~~(v_ v 4) &&& v_ v 6)) + k + w
def ru (v : List UInt32) : UInt32 := turns 2 13 22 (v_ v 0) + ((v_ v 0 &&& v_ v 1) ^^^ (v_ v 0 &&& v_ v 2) ^^^ (v_ v 1 &&& v_ v 2))
def rnd (v : List UInt32) (k w : UInt32) : List UInt32 := [rt v k w + ru v, v_ v 0, v_ v 1, v_ v 2, v_ v 3 + rt v k w, v_ v 4, v_ v 5, v_ v 6]
def rnds (w v : List UInt32) : Nat → List UInt32
  | 0 => v
  | i + 1 => rnd (rnds w v i) (rootsL.getD i 0) (w.getD i 0)
theorem rnds_length {w v : List UInt32} (h : v.length = 8) : ∀ i, (rnds w v i).length = 8
  | 0 => h
  | i + 1 => rfl
/-- the first so many sums at the end -/
def hsum (v h : List UInt32) (i : Nat) : List UInt32 := (List.range v.length).map fun j => if j < i then v_ v j + v_ h j else v_ v j
def blockL (h : List UInt32) (b : List UInt8) : List UInt32 := hsum (rnds (wl b 64) h 64) h 8
theorem blockL_length {h : List UInt32} (hl : h.length = 8) (b : List UInt8) : (blockL h b).length = 8 := by simp [blockL, hsum, rnds_length hl]
theorem hsum_zero {v h : List UInt32} : hsum v h 0 = v := by
  apply List.ext_getElem?
  intro i
  simp only [hsum, Nat.not_lt_zero, if_false, List.getElem?_map]
  by_cases hi : i < v.length
  · simp [hi, v_, List.getD]
  · rw [List.getElem?_eq_none (by simpa using hi), List.getElem?_eq_none (by omega)]; rfl
theorem hsum_succ {v h : List UInt32} {i : Nat} (hi : i < v.length) : hsum v h (i + 1) = (hsum v h i).set i (v_ (hsum v h i) i + v_ h i) := by
  apply List.ext_getElem?
  intro j
  have e : v_ (hsum v h i) i = v_ v i := by simp [hsum, v_, List.getD, hi]
  rw [e]
  by_cases hj : j < v.length
  · by_cases hij : i = j
    · subst hij
      simp [hsum, hi]
    · rw [List.getElem?_set_ne hij]
      simp only [hsum, List.getElem?_map, List.getElem?_range hj, Option.map_some]
      congr 1
      by_cases h1 : j < i
      · rw [if_pos h1, if_pos (by omega)]
      · rw [if_neg h1, if_neg (by omega)]
  · rw [List.getElem?_eq_none (by simp [hsum]; omega), List.getElem?_eq_none (by simp [hsum]; omega)]
def foldN : Nat → List UInt32 → List UInt8 → List UInt32
  | 0, h, _ => h
  | n + 1, h, l => foldN n (blockL h (l.take 64)) (l.drop 64)
def foldB (h : List UInt32) (l : List UInt8) : List UInt32 := foldN (l.length / 64) h l
theorem foldN_snoc : ∀ (n : Nat) (h : List UInt32) (l b : List UInt8), l.length = 64 * n → b.length = 64 → foldN (n + 1) h (l ++ b) = blockL (foldN n h l) b
  | 0, h, l, b, hl, hb => by
    obtain rfl := List.eq_nil_of_length_eq_zero hl
    simp only [foldN, List.nil_append]
    rw [List.take_of_length_le (by omega)]
  | n + 1, h, l, b, hl, hb => by
    have h1 : (l ++ b).take 64 = l.take 64 := by rw [List.take_append_of_le_length (by omega)]
    have h2 : (l ++ b).drop 64 = l.drop 64 ++ b := by rw [List.drop_append_of_le_length (by omega)]
    rw [foldN, h1, h2, foldN_snoc n _ (l.drop 64) b (by rw [List.length_drop]; omega) hb]
    rfl
theorem foldB_snoc {h : List UInt32} {l b : List UInt8} (hl : l.length % 64 = 0) (hb : b.length = 64) : foldB h (l ++ b) = blockL (foldB h l) b := by
  unfold foldB
  rw [List.length_append, hb, show (l.length + 64) / 64 = l.length / 64 + 1 by omega]
  exact foldN_snoc _ h l b (by omega) hb
theorem foldN_length : ∀ (n : Nat) (h : List UInt32) (l : List UInt8), h.length = 8 → (foldN n h l).length = 8
  | 0, h, l, hl => hl
  | n + 1, h, l, hl => foldN_length n _ _ (blockL_length hl _)
theorem foldB_length {h : List UInt32} (l : List UInt8) (hl : h.length = 8) : (foldB h l).length = 8 := foldN_length _ _ _ hl
def be4 (x : UInt32) : List UInt8 := [.ofNat (x / 16777216).toNat, .ofNat (x / 65536).toNat, .ofNat (x / 256).toNat, .ofNat x.toNat]
def digOf (h : List UInt32) : List UInt8 := h.flatMap be4
def be8 (n : Nat) : List UInt8 := (List.range 8).map fun i => .ofNat (n / 256 ^ (7 - i))
def padZ (n : Nat) : Nat := (119 - n % 64) % 64
def padL (b : List UInt8) : List UInt8 := b ++ (128 :: List.replicate (padZ b.length) 0) ++ be8 (8 * b.length)
theorem padL_length (b : List UInt8) : (padL b).length % 64 = 0 := by
  simp only [padL, List.length_append, List.length_cons, List.length_replicate, be8, List.length_map, List.length_range, padZ]
  omega
def shaL (b : List UInt8) : List UInt8 := digOf (foldB h0L (padL b))
theorem digOf_length {h : List UInt32} (hl : h.length = 8) : (digOf h).length = 32 := by
  match h, hl with
  | [a, b, c, d, e, f, g, i], _ => rfl
theorem shaL_length (b : List UInt8) : (shaL b).length = 32 := digOf_length (foldB_length _ rfl)
end Go.Hx
end
section
/- Superblocks, over plain lists. No program. -/
set_option linter.unusedVariables false
set_option linter.unusedSimpArgs false
namespace Go.Hx
open Go.Eng
/-- a slot -/
structure Sl where
  full : Bool
  image : List UInt8
  size : Int
deriving DecidableEq
def Sl.zero : Sl := ⟨false, List.replicate 32 0, 0⟩
def Sl.cs (x : Sl) : List Value := Value.bool x.full :: (b8s x.image ++ [.int .i64 x.size])
def Sl.lits (x : Sl) : List Lit := Lit.bool x.full :: ((x.image.map fun b => Lit.int .u8 (b.toNat : Int)) ++ [.int .i64 x.size])
structure Sl.wf (x : Sl) : Prop where
  len : x.image.length = 32
  lo : -9223372036854775808 ≤ x.size
  hi : x.size ≤ 9223372036854775807
theorem Sl.zero_wf : Sl.zero.wf := ⟨rfl, by decide, by decide⟩
theorem Sl.cs_len {x : Sl} (h : x.wf) : x.cs.length = 34 := by simp [Sl.cs, b8s_length, h.len]
theorem Sl.cs_one {x : Sl} : ∀ u ∈ x.cs, u.oneCell' = true := by
  intro u hu
  simp only [Sl.cs, List.mem_cons, List.mem_append, List.not_mem_nil, or_false] at hu
  rcases hu with rfl | hu | rfl
  · rfl
  · obtain ⟨c, _, rfl⟩ := List.mem_map.1 hu; rfl
  · rfl
theorem Sl.lits_inj {x y : Sl} (hx : x.wf) (hy : y.wf) : x.lits = y.lits ↔ x = y := by
  constructor
  · intro h
    obtain ⟨f, i, s⟩ := x
    obtain ⟨f', i', s'⟩ := y
    have hl := hx.len
    have hl' := hy.len
    simp only [Sl.lits, List.cons.injEq, Lit.bool.injEq] at h hl hl'
    obtain ⟨h1, h2⟩ := h
    obtain ⟨h3, h4⟩ := List.append_inj h2 (by simp [hl, hl'])
    simp only [List.cons.injEq, Lit.int.injEq, true_and, and_true] at h4
    have h5 := lits_b8_inj.1 h3
    subst h1 h4 h5
    rfl
  · rintro rfl; rfl
/-- may a slot be? -/
def Sl.may (x : Sl) : Prop := 0 ≤ x.size ∧ x.size ≤ 65536 ∧ (x.full = false → x = Sl.zero)
instance (x : Sl) : Decidable x.may := by unfold Sl.may; infer_instance
/-- a superblock -/
structure Sup where
  active : Int
  gen : Int
  s0 : Sl
  s1 : Sl
deriving DecidableEq
def Sup.zero : Sup := ⟨0, 0, Sl.zero, Sl.zero⟩
def Sup.cs (s : Sup) : List Value := .int .i64 s.active :: .int .i64 s.gen :: (s.s0.cs ++ s.s1.cs)
structure Sup.wf (s : Sup) : Prop where
  a0 : -9223372036854775808 ≤ s.active
  a1 : s.active ≤ 9223372036854775807
  g0 : -9223372036854775808 ≤ s.gen
  g1 : s.gen ≤ 9223372036854775807
  w0 : s.s0.wf
  w1 : s.s1.wf
theorem Sup.zero_wf : Sup.zero.wf := ⟨by decide, by decide, by decide, by decide, Sl.zero_wf, Sl.zero_wf⟩
theorem Sup.cs_len {s : Sup} (h : s.wf) : s.cs.length = 70 := by simp [Sup.cs, Sl.cs_len h.w0, Sl.cs_len h.w1]
theorem Sup.cs_one {s : Sup} : ∀ u ∈ s.cs, u.oneCell' = true := by
  intro u hu
  simp only [Sup.cs, List.mem_cons, List.mem_append] at hu
  rcases hu with rfl | rfl | hu | hu
  · rfl
  · rfl
  · exact Sl.cs_one u hu
  · exact Sl.cs_one u hu
def Sup.may (s : Sup) : Prop := (s.active = 0 ∨ s.active = 1) ∧ 0 ≤ s.gen ∧ s.gen ≤ 2147483647 ∧ s.s0.may ∧ s.s1.may
instance (s : Sup) : Decidable s.may := by unfold Sup.may; infer_instance
theorem Sup.zero_may : Sup.zero.may := by decide
def Sl.by_ (x : Sl) : List UInt8 := (if x.full then 1 else 0) :: (x.image ++ le4 x.size.toNat)
theorem Sl.by_len {x : Sl} (h : x.wf) : x.by_.length = 37 := by simp [Sl.by_, h.len, le4_length]
def Sup.body (s : Sup) : List UInt8 := [76, 84, 83, 49] ++ [UInt8.ofNat s.active.toNat] ++ le4 s.gen.toNat ++ s.s0.by_ ++ s.s1.by_
theorem Sup.body_len {s : Sup} (h : s.wf) : s.body.length = 83 := by simp [Sup.body, Sl.by_len h.w0, Sl.by_len h.w1, le4_length]
def Sup.bytes (s : Sup) : List UInt8 := putL s.body
theorem Sup.bytes_len {s : Sup} (h : s.wf) : s.bytes.length = 87 := by rw [Sup.bytes, putL_length, Sup.body_len h]
/-- the slot that is number i -/
def Sup.at (s : Sup) (i : Nat) : Sl := if i = 0 then s.s0 else s.s1
def Sup.put (s : Sup) (i : Nat) (x : Sl) : Sup := if i = 0 then { s with s0 := x } else { s with s1 := x }
theorem Sup.at_wf {s : Sup} (h : s.wf) (i : Nat) : (s.at i).wf := by
  unfold Sup.at
  split
  · exact h.w0
  · exact h.w1
theorem Sup.put_wf {s : Sup} (h : s.wf) {i : Nat} {x : Sl} (hx : x.wf) : (s.put i x).wf := by
  unfold Sup.put
  split
  · exact ⟨h.a0, h.a1, h.g0, h.g1, hx, h.w1⟩
  · exact ⟨h.a0, h.a1, h.g0, h.g1, h.w0, hx⟩
end Go.Hx
end
section
/- From a row's readings to what my contracts ask. No statement is proved here. -/
set_option linter.unusedVariables false
set_option linter.unusedSimpArgs false
namespace Go.Eng
open Go.RowKit Go.ChangeShapes Go.WideShapes
/-- bytes out of whole numbers that are bytes -/
theorem bytes_of_ints {zs : List Int} (h : ∀ n ∈ zs, (Lit.int .u8 n).wf = true) : zs.map (Value.int .u8) = b8s (zs.map fun n => UInt8.ofNat n.toNat) := by
  rw [b8s, List.map_map]
  apply List.map_congr_left
  intro n hn
  have := bounds_u8 (h n hn)
  simp only [B8, Function.comp]
  have e : (UInt8.ofNat n.toNat).toNat = n.toNat := by
    rw [UInt8.toNat_ofNat']
    exact Nat.mod_eq_of_lt (by omega)
  rw [e]
  congr 1
  omega
theorem rd_of_ints {W : World} {x : Addr} {len cap : Nat} {zs : List Int} (hl : len ≤ cap) (hz : zs.length = cap) (hcell : ∀ i, i < zs.length → W.cell? (x.add i) = some (.int .u8 (zs.getD i 0))) (hw : ∀ n ∈ zs, (Lit.int .u8 n).wf = true) :
    Rd W 1 (some x) len (b8s ((zs.take len).map fun n => UInt8.ofNat n.toNat)) := by
  rw [← bytes_of_ints (fun n hn => hw n (List.mem_of_mem_take hn))]
  refine ⟨by simp; omega, fun _ e => (by cases e), fun j u hu => ?_⟩
  have hj := (List.getElem?_eq_some_iff.1 hu).1
  simp at hj
  have hc := hcell j (by omega)
  rw [List.getElem?_map, List.getElem?_take, if_pos (by omega)] at hu
  rw [List.getD, List.getElem?_eq_getElem (by omega)] at hc
  rw [List.getElem?_eq_getElem (by omega)] at hu
  simp at hu hc
  rw [Option.getD_some, hc, ← hu]
/-- a []byte that came in -/
theorem open_bytes {H : Type} {enc : TypeId × Value → H} {P : Program} {W : World} {t e : TypeId} {A : Option Addr} {len cap : Nat} {d : DataW H} {ps : List MemPlace} {spare : Nat → Bool} {held : Bool}
    (hu : P.underlying t = some (.slice e)) (he : P.underlying e = some (.int .u8)) (hc : P.cellsOf e = 1) (h : DataW.Trod enc P W 0 spare held t (.slice A len cap) d ps) : len ≤ cap ∧ ∃ l, Rd W 1 A len (b8s l) := by
  obtain ⟨fuel, hf⟩ := h
  rcases open_ints hu he hc hf with ⟨hcs, _⟩ | ⟨x, l, c, zs, hcs, _, hl, hm, hz, _, hcell, hwz⟩
  · simp [Value.cells] at hcs
    obtain ⟨rfl, rfl, rfl⟩ := hcs
    exact ⟨Nat.le_refl _, [], Rd.nil _ _ _⟩
  · simp [Value.cells] at hcs
    obtain ⟨rfl, rfl, rfl⟩ := hcs
    refine ⟨hl, _, rd_of_ints (cap := zs.length) (by rw [hz]; split <;> omega) rfl hcell hwz⟩
theorem sized_bytes {H : Type} {enc : TypeId × Value → H} {P : Program} {W : World} {base : Nat} {spare : Nat → Bool} {held : Bool} {t e : TypeId} {k : IntKind} {a : Option Addr} {len cap : Nat} {d : DataW H} {ps : List MemPlace} {ts : List TypeId} {ds : List (DataW H)} {j : Nat}
    (hsz : (DataW.weightsEach P ts ds).all (· ≤ reachBytes) = true) (ht : ts[j]? = some t) (hd : ds[j]? = some d) (hu : P.underlying t = some (.slice e)) (he : P.underlying e = some (.int k)) (hc : P.cellsOf e = 1) (hB : P.bytesOf e = 1)
    (h : DataW.Trod enc P W base spare held t (.slice a len cap) d ps) : len ≤ 140737488351232 := by
  obtain ⟨fuel, hf⟩ := h
  rcases open_ints hu he hc hf with ⟨hcs, _⟩ | ⟨x, l, c, zs, hcs, _, hl, _, hz, hx, _, _⟩
  · simp [Value.cells] at hcs
    obtain ⟨rfl, rfl, rfl⟩ := hcs
    simp
  · simp [Value.cells] at hcs
    obtain ⟨rfl, rfl, rfl⟩ := hcs
    obtain ⟨hx, _⟩ := Prod.mk.inj hx
    subst hx
    have z := sized_slice hsz ht hd hu
    rw [hB, Nat.mul_one] at z
    have hl2 : len ≤ zs.length := by rw [hz]; split <;> omega
    have h1 : (lits (H := H) k (zs.take len)).length + (lits (H := H) k (zs.drop len)).length = zs.length := by
      simp [lits]
      omega
    rw [h1] at z
    exact Nat.le_trans hl2 z
/-- a byte that came in -/
theorem open_u8 {H : Type} {enc : TypeId × Value → H} {P : Program} {w : World} {base : Nat} {spare : Nat → Bool} {held : Bool} {r : Reach} {b0 : Nat} {t : TypeId} {v : Value} {d : DataW H} {ps : List MemPlace} (ht : P.underlying t = some (.int .u8)) (hval : Value.okWide P w r b0 t v) (hd : DataW.Trod enc P w base spare held t v d ps) :
    ∃ c : UInt8, v = .int .u8 (c.toNat : Int) ∧ ps = [] := by
  obtain ⟨n, rfl, _, rfl, hw⟩ := open_int ht hval hd
  have := bounds_u8 hw
  refine ⟨UInt8.ofNat n.toNat, ?_, rfl⟩
  rw [UInt8.toNat_ofNat', Nat.mod_eq_of_lt (by omega)]
  congr 1
  omega
theorem open_i64 {H : Type} {enc : TypeId × Value → H} {P : Program} {w : World} {base : Nat} {spare : Nat → Bool} {held : Bool} {r : Reach} {b0 : Nat} {t : TypeId} {v : Value} {d : DataW H} {ps : List MemPlace} (ht : P.underlying t = some (.int .i64)) (hval : Value.okWide P w r b0 t v) (hd : DataW.Trod enc P w base spare held t v d ps) :
    ∃ n : Int, v = .int .i64 n ∧ (-9223372036854775808 ≤ n ∧ n ≤ 9223372036854775807) ∧ ps = [] := by
  obtain ⟨n, rfl, _, rfl, hw⟩ := open_int ht hval hd
  refine ⟨n, rfl, ?_, rfl⟩
  simp only [Lit.wf, IntKind.min, IntKind.max, IntKind.signed, IntKind.bits] at hw
  simp at hw
  omega
/-- bytes in an array that came in -/
theorem open_digest {H : Type} {enc : TypeId × Value → H} {P : Program} {w : World} {base : Nat} {spare : Nat → Bool} {held : Bool} {r : Reach} {b0 : Nat} {t e : TypeId} {v : Value} {d : DataW H} {ps : List MemPlace} {n : Nat} (ht : P.underlying t = some (.array n e)) (he : P.underlying e = some (.int .u8)) (hc : P.cellsOf e = 1) (hct : P.cellsOf t = n) (hval : Value.okWide P w r b0 t v) (hd : DataW.Trod enc P w base spare held t v d ps) :
    ∃ l : List UInt8, v = .agg (b8s l).toArray ∧ l.length = n := by
  simp only [Value.okWide, ht] at hval
  obtain ⟨cs, rfl, _, _⟩ := hval
  obtain ⟨fuel, hf⟩ := hd
  obtain ⟨xs, m, _, _, hlen, hxl, hel⟩ := DataW.trod_array ht hf
  simp only [Value.cells] at hlen hel
  rw [hct] at hlen
  have hcell : ∀ i, i < n → ∃ c : UInt8, cs.toList[i]? = some (B8 c) := by
    intro i hi
    have h1 := hel i hi
    rw [List.getElem?_eq_getElem (by omega), hc, Nat.mul_one] at h1
    obtain ⟨z, hz, _, hw⟩ := DataW.trod_int he h1
    have hb := bounds_u8 hw
    refine ⟨UInt8.ofNat z.toNat, ?_⟩
    have h2 : ((cs.toList.drop i).take 1)[0]? = some (.int .u8 z) := by rw [hz]; rfl
    rw [List.getElem?_take, if_pos (by omega), List.getElem?_drop, Nat.add_zero] at h2
    rw [h2, B8, UInt8.toNat_ofNat', Nat.mod_eq_of_lt (by omega)]
    congr 2
    omega
  refine ⟨cs.toList.map fun v => match v with | .int _ z => UInt8.ofNat z.toNat | _ => 0, ?_, by simpa using hlen⟩
  congr 1
  apply Array.toList_inj.1
  apply List.ext_getElem?
  intro i
  simp only [b8s, List.map_map, List.getElem?_map]
  by_cases hi : i < n
  · obtain ⟨c, hc⟩ := hcell i hi
    rw [hc]
    simp [B8]
  · rw [List.getElem?_eq_none (by omega)]
    rfl
end Go.Eng
end
section
/- Values that came in, with all that is read through them: cells. No statement is proved here. -/
set_option linter.unusedVariables false
set_option linter.unusedSimpArgs false
namespace Go.Eng
open Go.RowKit Go.ChangeShapes Go.WideShapes
inductive Cell
  | v (x : Value)
  | s (sz : Nat) (A : Option Addr) (n c : Nat) (xs : List Cell)
def Cell.val : Cell → Value
  | .v x => x
  | .s _ A n c _ => .slice A n c
mutual
def Cell.foot : Cell → Nat → Prop
  | .v _ => fun _ => False
  | .s _ A _ _ xs => fun k => (xs ≠ [] ∧ ∃ a, A = some a ∧ k = a.block) ∨ feetC xs k
def feetC : List Cell → Nat → Prop
  | [] => fun _ => False
  | x :: r => fun k => x.foot k ∨ feetC r k
end
mutual
def Cell.holds (w : World) : Cell → Prop
  | .v _ => True
  | .s sz A n c xs => Rd w sz A n (xs.map Cell.val) ∧ n ≤ c ∧ holdC w xs
def holdC (w : World) : List Cell → Prop
  | [] => True
  | x :: r => x.holds w ∧ holdC w r
end
theorem feetC_iff {k : Nat} : ∀ {xs : List Cell}, feetC xs k ↔ ∃ x ∈ xs, x.foot k
  | [] => by simp [feetC]
  | x :: r => by simp only [feetC, feetC_iff (xs := r), List.mem_cons, exists_eq_or_imp]
theorem holdC_iff {w : World} : ∀ {xs : List Cell}, holdC w xs ↔ ∀ x ∈ xs, x.holds w
  | [] => by simp [holdC]
  | x :: r => by simp only [holdC, holdC_iff (xs := r), List.mem_cons, forall_eq_or_imp]
mutual
theorem Cell.keep {S : Nat → Prop} {w w' : World} (f : Fr S w w') : ∀ (c : Cell), (∀ k, c.foot k → ¬ S k) → c.holds w → c.holds w'
  | .v _, _, _ => trivial
  | .s sz A n c xs, h, hh => by
    obtain ⟨h1, h2, h3⟩ := hh
    refine ⟨Rd.keep h1 f (fun k hk => h k ?_), h2, keepC f xs (fun k hk => h k (.inr hk)) h3⟩
    obtain ⟨hne, a, ha, hk⟩ := hk
    exact .inl ⟨fun e => hne (by rw [e]; rfl), a, ha, hk⟩
theorem keepC {S : Nat → Prop} {w w' : World} (f : Fr S w w') : ∀ (xs : List Cell), (∀ k, feetC xs k → ¬ S k) → holdC w xs → holdC w' xs
  | [], _, _ => trivial
  | x :: r, h, hh => ⟨Cell.keep f x (fun k hk => h k (.inl hk)) hh.1, keepC f r (fun k hk => h k (.inr hk)) hh.2⟩
end
mutual
theorem Cell.low {w : World} : ∀ (c : Cell) {k : Nat}, c.holds w → c.foot k → k < w.heap.size
  | .v _, _, _, h => h.elim
  | .s sz A n c xs, k, hh, hk => by
    obtain ⟨h1, h2, h3⟩ := hh
    rcases hk with ⟨hne, a, ha, hk⟩ | hk
    · exact (RRd sz A n (xs.map Cell.val)).low h1 ⟨fun e => hne (List.map_eq_nil_iff.1 e), a, ha, hk⟩
    · exact lowC xs h3 hk
theorem lowC {w : World} : ∀ (xs : List Cell) {k : Nat}, holdC w xs → feetC xs k → k < w.heap.size
  | [], _, _, h => h.elim
  | x :: r, k, hh, hk => by
    rcases hk with hk | hk
    · exact Cell.low x hh.1 hk
    · exact lowC r hh.2 hk
end
def RCell (c : Cell) : Res := ⟨c.foot, fun w => c.holds w, fun f h x => c.keep f h x, fun x hk => c.low x hk⟩
/-- the row itself -/
theorem View.row0 {sz n c : Nat} {A : Option Addr} {xs : List Cell} : View (RCell (.s sz A n c xs)) (RRd sz A n (xs.map Cell.val)) :=
  .of (fun w h => h.1) (fun k hk => by
    obtain ⟨hne, a, ha, hk⟩ := hk
    exact .inl ⟨fun e => hne (by rw [e]; rfl), a, ha, hk⟩)
/-- what is read through one of its cells -/
theorem View.cell {sz n c j : Nat} {A : Option Addr} {xs : List Cell} {y : Cell} (h : xs[j]? = some y) : View (RCell (.s sz A n c xs)) (RCell y) :=
  .of (fun w hh => holdC_iff.1 hh.2.2 y (List.mem_of_getElem? h)) (fun k hk => .inr (feetC_iff.2 ⟨y, List.mem_of_getElem? h, hk⟩))
/-- what types say of cells -/
inductive Ty (P : Program) : TypeId → List Cell → Prop
  | int {t : TypeId} {k : IntKind} {z : Int} (ht : P.underlying t = some (.int k)) (hw : (Lit.int k z).wf = true) : Ty P t [.v (.int k z)]
  | bool {t : TypeId} {b : Bool} (ht : P.underlying t = some .bool) : Ty P t [.v (.bool b)]
  | str {t : TypeId} {s : List UInt8} (ht : P.underlying t = some .string) (hs : s.length ≤ 140737488351232) : Ty P t [.v (.string (strOf s))]
  | slice {t e : TypeId} {A : Option Addr} {n c : Nat} {xs : List Cell} (ht : P.underlying t = some (.slice e)) (hc : n ≤ c) (hn : n * P.bytesOf e ≤ 140737488351232) (hl : xs.length = n * P.cellsOf e)
      (h : ∀ i, i < n → Ty P e ((xs.drop (i * P.cellsOf e)).take (P.cellsOf e))) : Ty P t [.s (P.cellsOf e) A n c xs]
  | arr {t e : TypeId} {n : Nat} {xs : List Cell} (ht : P.underlying t = some (.array n e)) (hl : xs.length = P.cellsOf t) (h : ∀ i, i < n → Ty P e ((xs.drop (i * P.cellsOf e)).take (P.cellsOf e))) : Ty P t xs
  | struct {t : TypeId} {fs : Array Field} {xs : List Cell} (ht : P.underlying t = some (.struct fs)) (hl : xs.length = P.cellsOf t) (h : ∀ (i : Nat) (f : Field), fs[i]? = some f → Ty P f.type ((xs.drop f.offset).take (P.cellsOf f.type))) : Ty P t xs
/-- fields one behind the other -/
def contig (P : Program) : List Field → Nat → Nat → Bool
  | [], o, e => o == e
  | f :: r, o, e => f.offset == o && contig P r (o + P.cellsOf f.type) e
/-- types of whole numbers, bools, texts, slices, arrays, structs, all the way down -/
def parts (P : Program) : Nat → TypeId → Bool
  | 0, _ => false
  | n + 1, t => match P.underlying t with
    | some (.int _) | some .bool | some .string => true
    | some (.slice e) => parts P n e && decide (0 < P.cellsOf e)
    | some (.array m e) => parts P n e && (P.cellsOf t == m * P.cellsOf e)
    | some (.struct fs) => fs.toList.all (fun f => parts P n f.type) && contig P fs.toList 0 (P.cellsOf t)
    | _ => false
section
variable {H : Type} {enc : TypeId × Value → H} {P : Program} {w : World} {base : Nat} {spare : Nat → Bool} {held : Bool}
theorem cells_at' {b : Nat} {a : Addr} {n : Nat} {cs : List Value} (h : w.cells? b a n = some cs) : cs.length = n ∧ ∀ j u, cs[j]? = some u → w.cell? (a.add j) = some u := by
  obtain ⟨hb, hl, hcell⟩ := World.cells?_some h
  refine ⟨hl, fun j u hu => ?_⟩
  have hj : j < n := by rw [← hl]; exact (List.getElem?_eq_some_iff.1 hu).1
  rw [hcell j hj, hu]
theorem weightsAll_mem {e : TypeId} {d : DataW H} {n : Nat} : ∀ {ds : List (DataW H)}, d ∈ ds → n ∈ d.weights P e → n ∈ DataW.weightsAll P e ds
  | [], h, _ => by cases h
  | a :: r, h, hn => by
    simp only [DataW.weightsAll, List.mem_append]
    rcases List.mem_cons.1 h with rfl | h
    · exact .inl hn
    · exact .inr (weightsAll_mem h hn)
/-- pieces one behind the other -/
theorem pieces {sz : Nat} {Q : List Cell → Prop} {R : Nat → List Value → Prop} : ∀ (m : Nat), (∀ i, i < m → ∃ ys : List Cell, ys.length = sz ∧ Q ys ∧ R i (ys.map Cell.val) ∧ holdC w ys) →
    ∃ xs : List Cell, xs.length = m * sz ∧ (∀ i, i < m → Q ((xs.drop (i * sz)).take sz) ∧ R i (((xs.drop (i * sz)).take sz).map Cell.val)) ∧ holdC w xs
  | 0, _ => ⟨[], by simp, fun i hi => absurd hi (by omega), trivial⟩
  | m + 1, h => by
    obtain ⟨xs, h1, h2, h3⟩ := pieces m (fun i hi => h i (by omega))
    obtain ⟨ys, h4, h5, h6, h7⟩ := h m (by omega)
    have hlen : (m + 1) * sz = m * sz + sz := by rw [Nat.add_mul, Nat.one_mul]
    refine ⟨xs ++ ys, by rw [List.length_append, h1, h4, hlen], fun i hi => ?_, holdC_iff.2 fun x hx => ?_⟩
    · by_cases hm : i = m
      · subst hm
        have e : ((xs ++ ys).drop (i * sz)).take sz = ys := by
          rw [← h1, List.drop_left, List.take_of_length_le (by omega)]
        rw [e]
        exact ⟨h5, h6⟩
      · have hi' : i < m := by omega
        have hle : i * sz + sz ≤ m * sz := by
          have := Nat.mul_le_mul_right sz (show i + 1 ≤ m by omega)
          rwa [Nat.add_mul, Nat.one_mul] at this
        have e : ((xs ++ ys).drop (i * sz)).take sz = (xs.drop (i * sz)).take sz := by
          rw [List.drop_append_of_le_length (by omega), List.take_append_of_le_length (by rw [List.length_drop]; omega)]
        rw [e]
        exact h2 i hi'
    · rcases List.mem_append.1 hx with hx | hx
      · exact holdC_iff.1 h3 x hx
      · exact holdC_iff.1 h7 x hx
theorem get_piece {xs : List Value} {sz i j : Nat} (hj : j < sz) : ((xs.drop (i * sz)).take sz)[j]? = xs[i * sz + j]? := by
  rw [List.getElem?_take, if_pos hj, List.getElem?_drop]
theorem structPieces {cs : List Value} : ∀ (fs : List Field) (o e : Nat), contig P fs o e = true → (∀ f ∈ fs, ∃ ys : List Cell, ys.length = P.cellsOf f.type ∧ Ty P f.type ys ∧ ys.map Cell.val = (cs.drop f.offset).take (P.cellsOf f.type) ∧ holdC w ys) →
    o ≤ e ∧ ∃ xs : List Cell, xs.length = e - o ∧ xs.map Cell.val = (cs.drop o).take (e - o) ∧ holdC w xs ∧ ∀ f ∈ fs, o ≤ f.offset ∧ Ty P f.type ((xs.drop (f.offset - o)).take (P.cellsOf f.type))
  | [], o, e, hc, _ => by
    have : o = e := by simpa [contig] using hc
    subst this
    exact ⟨Nat.le_refl _, [], by simp, by simp, trivial, by simp⟩
  | f :: r, o, e, hc, h => by
    simp only [contig, Bool.and_eq_true, beq_iff_eq] at hc
    obtain ⟨h0, hc⟩ := hc
    obtain ⟨hle, xs, h1, h2, h3, h4⟩ := structPieces r _ e hc (fun g hg => h g (List.mem_cons_of_mem _ hg))
    obtain ⟨ys, h5, h6, h7, h8⟩ := h f (List.mem_cons_self ..)
    rw [h0] at h7
    refine ⟨by omega, ys ++ xs, by rw [List.length_append, h1, h5]; omega, ?_, holdC_iff.2 fun x hx => ?_, fun g hg => ?_⟩
    · rw [List.map_append, h7, h2, ← List.drop_drop, show e - o = P.cellsOf f.type + (e - (o + P.cellsOf f.type)) by omega, List.take_add]
    · rcases List.mem_append.1 hx with hx | hx
      · exact holdC_iff.1 h8 x hx
      · exact holdC_iff.1 h3 x hx
    · rcases List.mem_cons.1 hg with rfl | hg
      · refine ⟨by omega, ?_⟩
        rw [h0, Nat.sub_self, List.drop_zero, ← h5, List.take_left]
        exact h6
      · obtain ⟨h9, h10⟩ := h4 g hg
        refine ⟨by omega, ?_⟩
        have e1 : (ys ++ xs).drop (g.offset - o) = xs.drop (g.offset - (o + P.cellsOf f.type)) := by
          rw [List.drop_append, List.drop_of_length_le (by omega), List.nil_append]
          congr 1
          omega
        rw [e1]
        exact h10
theorem open_cells : ∀ (k fuel : Nat) (t : TypeId) (cs : List Value) (x : DataW H × List MemPlace), parts P k t = true → DataW.trod enc P w 0 spare held fuel t cs = some x → (∀ q ∈ DataW.weights P t x.1, q ≤ 140737488351232) → ∃ xs : List Cell, xs.map Cell.val = cs ∧ holdC w xs ∧ Ty P t xs
  | 0, fuel, t, cs, x, hp, _, _ => by simp [parts] at hp
  | k + 1, fuel, t, cs, x, hp, h, hw => by
    unfold parts at hp
    split at hp
    · rename_i q ht
      obtain ⟨z, rfl, _, hz⟩ := DataW.trod_int ht h
      exact ⟨[.v (.int q z)], rfl, ⟨trivial, trivial⟩, .int ht hz⟩
    · rename_i ht
      obtain ⟨b, rfl, _⟩ := DataW.trod_bool ht h
      exact ⟨[.v (.bool b)], rfl, ⟨trivial, trivial⟩, .bool ht⟩
    · rename_i ht
      obtain ⟨s, rfl, hx, _⟩ := DataW.trod_string ht h
      have h1 := hw s.data.toList.length (by rw [hx]; simp [DataW.weights])
      exact ⟨[.v (.string s)], rfl, ⟨trivial, trivial⟩, .str (s := bytesOf s) ht h1⟩
    · rename_i e ht
      simp only [Bool.and_eq_true, decide_eq_true_eq] at hp
      rcases DataW.trod_slice ht h with ⟨rfl, rfl⟩ | ⟨a, len, cap, elems, rest, m, _, rfl, hx, hb, hl, hm, hlen, hel, _, _⟩
      · exact ⟨[.s (P.cellsOf e) none 0 0 []], rfl, ⟨⟨Rd.nil _ _ _, Nat.le_refl _, trivial⟩, trivial⟩, .slice ht (Nat.le_refl _) (by simp) (by simp) (fun i hi => absurd hi (by omega))⟩
      · have hwe : ∀ d ∈ elems.map (·.1), ∀ q ∈ DataW.weights P e d, q ≤ 140737488351232 := fun d hd q hq => hw q (by
          rw [hx]
          simp only [DataW.weights, ht, List.mem_cons, List.mem_append]
          exact .inr (.inl (weightsAll_mem hd hq)))
        obtain ⟨xs, h1, h2, h3⟩ := pieces (w := w) (sz := P.cellsOf e) (Q := Ty P e) (R := fun i vs => ∀ j u, vs[j]? = some u → w.cell? (a.add (i * P.cellsOf e + j)) = some u) len (fun i hi => by
          have h1 := hel i hi
          rw [List.getElem?_eq_getElem (by omega)] at h1
          obtain ⟨c, hc1, hc2⟩ := Option.bind_eq_some_iff.1 h1
          obtain ⟨hcl, hcc⟩ := cells_at' hc1
          obtain ⟨ys, h4, h5, h6⟩ := open_cells k _ e c _ hp.1 hc2 (fun q hq => hwe _ (List.mem_map.2 ⟨_, List.getElem_mem _, rfl⟩) q hq)
          refine ⟨ys, by rw [← hcl, ← h4, List.length_map], h6, fun j u hu => ?_, h5⟩
          rw [h4] at hu
          have := hcc j u hu
          rwa [add_add] at this)
        have hR : Rd w (P.cellsOf e) (some a) len (xs.map Cell.val) := ⟨by rw [List.length_map, h1], fun _ e => (by cases e), fun q u hu => by
          have hq : q < len * P.cellsOf e := by
            have := (List.getElem?_eq_some_iff.1 hu).1
            rwa [List.length_map, h1] at this
          have hd : q / P.cellsOf e < len := (Nat.div_lt_iff_lt_mul hp.2).2 hq
          have hmod := Nat.mod_lt q hp.2
          have hqe : q / P.cellsOf e * P.cellsOf e + q % P.cellsOf e = q := by
            have := Nat.div_add_mod q (P.cellsOf e)
            rw [Nat.mul_comm] at this
            exact this
          have := (h2 _ hd).2 (q % P.cellsOf e) u (by rw [List.map_take, List.map_drop, get_piece hmod, hqe]; exact hu)
          rw [hqe] at this
          simpa using this⟩
        have hn : len * P.bytesOf e ≤ 140737488351232 := by
          have := hw ((elems.length + rest.length) * P.bytesOf e) (by rw [hx]; simp [DataW.weights, ht])
          rw [hlen, Nat.add_mul] at this
          omega
        exact ⟨[.s (P.cellsOf e) (some a) len cap xs], rfl, ⟨⟨hR, hl, h3⟩, trivial⟩, .slice ht hl hn h1 (fun i hi => (h2 i hi).1)⟩
    · rename_i m e ht
      simp only [Bool.and_eq_true, beq_iff_eq] at hp
      obtain ⟨ys, n, _, hx, hlen, hyl, hel⟩ := DataW.trod_array ht h
      have hwe : ∀ d ∈ ys.map (·.1), ∀ q ∈ DataW.weights P e d, q ≤ 140737488351232 := fun d hd q hq => hw q (by
        rw [hx]
        simp only [DataW.weights, ht]
        exact weightsAll_mem hd hq)
      obtain ⟨xs, h1, h2, h3⟩ := pieces (w := w) (sz := P.cellsOf e) (Q := Ty P e) (R := fun i vs => vs = (cs.drop (i * P.cellsOf e)).take (P.cellsOf e)) m (fun i hi => by
        have h1 := hel i hi
        rw [List.getElem?_eq_getElem (by omega)] at h1
        obtain ⟨zs, h4, h5, h6⟩ := open_cells k _ e _ _ hp.1 h1 (fun q hq => hwe _ (List.mem_map.2 ⟨_, List.getElem_mem _, rfl⟩) q hq)
        refine ⟨zs, ?_, h6, h4, h5⟩
        have := congrArg List.length h4
        rw [List.length_map, List.length_take, List.length_drop, hlen, hp.2] at this
        have hle : i * P.cellsOf e + P.cellsOf e ≤ m * P.cellsOf e := by
          have := Nat.mul_le_mul_right (P.cellsOf e) (show i + 1 ≤ m by omega)
          rwa [Nat.add_mul, Nat.one_mul] at this
        omega)
      refine ⟨xs, ?_, h3, .arr ht (by rw [h1, hp.2]) (fun i hi => (h2 i hi).1)⟩
      apply List.ext_getElem?
      intro q
      by_cases hq : q < m * P.cellsOf e
      · have hpos : 0 < P.cellsOf e := by
          rcases Nat.eq_zero_or_pos (P.cellsOf e) with h0 | h0
          · rw [h0, Nat.mul_zero] at hq; omega
          · exact h0
        have hd : q / P.cellsOf e < m := (Nat.div_lt_iff_lt_mul hpos).2 hq
        have hmod := Nat.mod_lt q hpos
        have hqe : q / P.cellsOf e * P.cellsOf e + q % P.cellsOf e = q := by
          have := Nat.div_add_mod q (P.cellsOf e)
          rw [Nat.mul_comm] at this
          exact this
        have h4 := congrArg (fun l : List Value => l[q % P.cellsOf e]?) (h2 _ hd).2
        simp only [List.map_take, List.map_drop] at h4
        rwa [get_piece hmod, get_piece hmod, hqe] at h4
      · rw [List.getElem?_eq_none (by rw [List.length_map, h1]; omega), List.getElem?_eq_none (by rw [hlen, hp.2]; omega)]
    · rename_i fs ht
      simp only [Bool.and_eq_true, List.all_eq_true] at hp
      obtain ⟨ys, n, _, hx, hlen, hyl, hel⟩ := DataW.trod_struct ht h
      have hw2 : ∀ (i : Nat) (f : Field) (d : DataW H), fs[i]? = some f → (ys.map (·.1))[i]? = some d → ∀ q ∈ DataW.weights P f.type d, q ≤ 140737488351232 := fun i f d hf hd q hq => hw q (by
        rw [hx]
        simp only [DataW.weights, ht]
        exact DataW.weights_mem_each (j := i) (t := f.type) (d := d) (by simp [hf]) hd q hq)
      obtain ⟨_, xs, h1, h2, h3, h4⟩ := structPieces (P := P) (w := w) (cs := cs) fs.toList 0 (P.cellsOf t) hp.2 (fun f hf => by
        obtain ⟨i, hi⟩ := List.mem_iff_getElem?.1 hf
        have hi' : fs[i]? = some f := by simpa using hi
        have h1 := hel i f hi'
        have hlt : i < ys.length := by
          rw [hyl]
          exact (Array.getElem?_eq_some_iff.1 hi').1
        rw [List.getElem?_eq_getElem hlt] at h1
        obtain ⟨zs, h5, h6, h7⟩ := open_cells k _ f.type _ _ (hp.1 f hf) h1 (fun q hq => hw2 i f _ hi' (by rw [List.getElem?_map, List.getElem?_eq_getElem hlt]; rfl) q hq)
        have hz : zs.length = P.cellsOf f.type := by
          have hz := congrArg List.length h5
          rw [List.length_map, List.length_take, List.length_drop, hlen] at hz
          have hin : ∀ (l : List Field) (o e : Nat), contig P l o e = true → f ∈ l → f.offset + P.cellsOf f.type ≤ e ∧ o ≤ e := by
            intro l
            induction l with
            | nil => intro o e _ hm; cases hm
            | cons g r ih =>
              intro o e hc hm
              simp only [contig, Bool.and_eq_true, beq_iff_eq] at hc
              have hge : ∀ (l : List Field) (o e : Nat), contig P l o e = true → o ≤ e := by
                intro l
                induction l with
                | nil => intro o e hc; simp [contig] at hc; omega
                | cons g r ih => intro o e hc; simp only [contig, Bool.and_eq_true, beq_iff_eq] at hc; have := ih _ _ hc.2; omega
              rcases List.mem_cons.1 hm with rfl | hm
              · have := hge _ _ _ hc.2
                omega
              · have := ih _ _ hc.2 hm
                omega
          have := hin _ _ _ hp.2 hf
          omega
        exact ⟨zs, hz, h7, h5, h6⟩)
      refine ⟨xs, ?_, h3, .struct ht (by rw [h1]; omega) (fun i f hf => ?_)⟩
      · rw [h2, List.drop_zero, Nat.sub_zero, ← hlen, List.take_length]
      · have := (h4 f (by rw [Array.mem_toList_iff]; exact Array.mem_of_getElem? hf)).2
        rwa [Nat.sub_zero] at this
    · cases hp
end
/-! ### what a type says, read back -/
section
variable {P : Program} {t e : TypeId} {xs : List Cell}
theorem ty_int {k : IntKind} (ht : P.underlying t = some (.int k)) (h : Ty P t xs) : ∃ z, xs = [.v (.int k z)] ∧ (Lit.int k z).wf = true := by
  cases h with
  | int ht' hw => rw [ht] at ht'; cases ht'; exact ⟨_, rfl, hw⟩
  | bool ht' => rw [ht] at ht'; cases ht'
  | str ht' => rw [ht] at ht'; cases ht'
  | slice ht' => rw [ht] at ht'; cases ht'
  | arr ht' => rw [ht] at ht'; cases ht'
  | struct ht' => rw [ht] at ht'; cases ht'
theorem ty_i64 (ht : P.underlying t = some (.int .i64)) (h : Ty P t xs) : ∃ z, xs = [.v (.int .i64 z)] ∧ -9223372036854775808 ≤ z ∧ z ≤ 9223372036854775807 := by
  obtain ⟨z, rfl, hw⟩ := ty_int ht h
  refine ⟨z, rfl, ?_⟩
  simp only [Lit.wf, IntKind.min, IntKind.max, IntKind.signed, IntKind.bits] at hw
  simp at hw
  omega
theorem ty_u8 (ht : P.underlying t = some (.int .u8)) (h : Ty P t xs) : ∃ c : UInt8, xs = [.v (B8 c)] := by
  obtain ⟨z, rfl, hw⟩ := ty_int ht h
  have hb := bounds_u8 hw
  refine ⟨UInt8.ofNat z.toNat, ?_⟩
  rw [B8, UInt8.toNat_ofNat', Nat.mod_eq_of_lt (by omega)]
  congr 3
  omega
theorem ty_bool (ht : P.underlying t = some .bool) (h : Ty P t xs) : ∃ b, xs = [.v (.bool b)] := by
  cases h with
  | int ht' => rw [ht] at ht'; cases ht'
  | bool ht' => exact ⟨_, rfl⟩
  | str ht' => rw [ht] at ht'; cases ht'
  | slice ht' => rw [ht] at ht'; cases ht'
  | arr ht' => rw [ht] at ht'; cases ht'
  | struct ht' => rw [ht] at ht'; cases ht'
theorem ty_str (ht : P.underlying t = some .string) (h : Ty P t xs) : ∃ s, xs = [.v (.string (strOf s))] ∧ s.length ≤ 140737488351232 := by
  cases h with
  | int ht' => rw [ht] at ht'; cases ht'
  | bool ht' => rw [ht] at ht'; cases ht'
  | str ht' hs => exact ⟨_, rfl, hs⟩
  | slice ht' => rw [ht] at ht'; cases ht'
  | arr ht' => rw [ht] at ht'; cases ht'
  | struct ht' => rw [ht] at ht'; cases ht'
theorem ty_slice (ht : P.underlying t = some (.slice e)) (h : Ty P t xs) : ∃ A n c ys, xs = [.s (P.cellsOf e) A n c ys] ∧ n ≤ c ∧ n * P.bytesOf e ≤ 140737488351232 ∧ ys.length = n * P.cellsOf e ∧ ∀ i, i < n → Ty P e ((ys.drop (i * P.cellsOf e)).take (P.cellsOf e)) := by
  cases h with
  | int ht' => rw [ht] at ht'; cases ht'
  | bool ht' => rw [ht] at ht'; cases ht'
  | str ht' => rw [ht] at ht'; cases ht'
  | slice ht' hc hn hl h => rw [ht] at ht'; cases ht'; exact ⟨_, _, _, _, rfl, hc, hn, hl, h⟩
  | arr ht' => rw [ht] at ht'; cases ht'
  | struct ht' => rw [ht] at ht'; cases ht'
theorem ty_arr {n : Nat} (ht : P.underlying t = some (.array n e)) (h : Ty P t xs) : xs.length = P.cellsOf t ∧ ∀ i, i < n → Ty P e ((xs.drop (i * P.cellsOf e)).take (P.cellsOf e)) := by
  cases h with
  | int ht' => rw [ht] at ht'; cases ht'
  | bool ht' => rw [ht] at ht'; cases ht'
  | str ht' => rw [ht] at ht'; cases ht'
  | slice ht' => rw [ht] at ht'; cases ht'
  | arr ht' hl h => rw [ht] at ht'; cases ht'; exact ⟨hl, h⟩
  | struct ht' => rw [ht] at ht'; cases ht'
theorem ty_struct {fs : Array Field} (ht : P.underlying t = some (.struct fs)) (h : Ty P t xs) : xs.length = P.cellsOf t ∧ ∀ (i : Nat) (f : Field), fs[i]? = some f → Ty P f.type ((xs.drop f.offset).take (P.cellsOf f.type)) := by
  cases h with
  | int ht' => rw [ht] at ht'; cases ht'
  | bool ht' => rw [ht] at ht'; cases ht'
  | str ht' => rw [ht] at ht'; cases ht'
  | slice ht' => rw [ht] at ht'; cases ht'
  | arr ht' => rw [ht] at ht'; cases ht'
  | struct ht' hl h => rw [ht] at ht'; cases ht'; exact ⟨hl, h⟩
theorem bytes_cells (he : P.underlying e = some (.int .u8)) (hc : P.cellsOf e = 1) : ∀ {n : Nat} {ys : List Cell}, ys.length = n → (∀ i, i < n → Ty P e ((ys.drop i).take 1)) → ∃ l : List UInt8, ys.map Cell.val = b8s l ∧ l.length = n := by
  intro n ys hl h
  refine ⟨ys.map fun y => match y.val with | .int _ z => UInt8.ofNat z.toNat | _ => 0, ?_, by simpa using hl⟩
  apply List.ext_getElem?
  intro i
  simp only [b8s, List.map_map, List.getElem?_map]
  by_cases hi : i < n
  · obtain ⟨c, hc⟩ := ty_u8 he (h i hi)
    have h2 : ((ys.drop i).take 1)[0]? = some (.v (B8 c)) := by rw [hc]; rfl
    rw [List.getElem?_take, if_pos (by omega), List.getElem?_drop, Nat.add_zero] at h2
    rw [h2]
    simp [Cell.val, B8]
  · rw [List.getElem?_eq_none (by omega)]
    rfl
theorem ty_bytes (ht : P.underlying t = some (.slice e)) (he : P.underlying e = some (.int .u8)) (hc : P.cellsOf e = 1) (hb : P.bytesOf e = 1) (h : Ty P t xs) : ∃ A n c ys l, xs = [.s 1 A n c ys] ∧ n ≤ c ∧ n ≤ 140737488351232 ∧ ys.map Cell.val = b8s l ∧ l.length = n := by
  obtain ⟨A, n, c, ys, rfl, h1, h2, h3, h4⟩ := ty_slice ht h
  rw [hc] at h3 h4 ⊢
  rw [hb] at h2
  obtain ⟨l, h5, h6⟩ := bytes_cells he hc (by omega : ys.length = n) (fun i hi => by have := h4 i hi; rwa [Nat.mul_one] at this)
  exact ⟨A, n, c, ys, l, rfl, h1, by omega, h5, h6⟩
theorem ty_dig {n : Nat} (ht : P.underlying t = some (.array n e)) (he : P.underlying e = some (.int .u8)) (hc : P.cellsOf e = 1) (hct : P.cellsOf t = n) (h : Ty P t xs) : ∃ l : List UInt8, xs.map Cell.val = b8s l ∧ l.length = n := by
  obtain ⟨h1, h2⟩ := ty_arr ht h
  rw [hc] at h2
  exact bytes_cells he hc (by omega) (fun i hi => by have := h2 i hi; rwa [Nat.mul_one] at this)
end
theorem piece_get {α : Type} {xs ys : List α} {sz i o : Nat} {y : α} (h : (xs.drop (i * sz)).take sz = ys) (ho : ys[o]? = some y) : xs[i * sz + o]? = some y := by
  rw [← h, List.getElem?_take] at ho
  split at ho
  · rwa [List.getElem?_drop] at ho
  · cases ho
theorem cell_val {xs : List Cell} {j : Nat} {y : Cell} (h : xs[j]? = some y) : (xs.map Cell.val)[j]? = some y.val := by rw [List.getElem?_map, h]; rfl
theorem rd_fld {w : World} {sz n i o : Nat} {A : Option Addr} {xs : List Value} {u : Value} (h : Rd w sz A n xs) (hu : xs[i * sz + o]? = some u) : w.cell? (((A.getD d0).add (i * sz)).add o) = some u := by
  rw [add_add]
  exact h.cell hu
theorem cellF {w : World} {sz n c : Nat} {A : Option Addr} {xs : List Cell} (h : (RCell (.s sz A n c xs)).holds w) : xs.length = n * sz ∧ (0 < n → A ≠ none) ∧ n ≤ c := ⟨by have := h.1.1; rwa [List.length_map] at this, h.1.2.1, h.2.1⟩
theorem View.rowOf {sz n c : Nat} {A : Option Addr} {xs : List Cell} {vs : List Value} (h : xs.map Cell.val = vs) : View (RCell (.s sz A n c xs)) (RRd sz A n vs) := h ▸ View.row0
theorem View.cellRow {sz n c j sz' n' c' : Nat} {A A' : Option Addr} {xs ys : List Cell} {vs : List Value} (h : xs[j]? = some (.s sz' A' n' c' ys)) (hb : ys.map Cell.val = vs) : View (RCell (.s sz A n c xs)) (RRd sz' A' n' vs) := (View.cell h).trans (View.rowOf hb)
section
variable {H : Type} {enc : TypeId × Value → H} {P : Program} {W : World} {spare : Nat → Bool} {held : Bool} {tss : List TypeId} {dss : List (DataW H)}
/-- a parameter that came in -/
theorem open_param {t : TypeId} {v : Value} {d : DataW H} {ps : List MemPlace} {j : Nat} (k : Nat) (hp : parts P k t = true) (h : DataW.Trod enc P W 0 spare held t v d ps) (hsz : (DataW.weightsEach P tss dss).all (· ≤ reachBytes) = true) (hjt : tss[j]? = some t) (hjd : dss[j]? = some d) :
    ∃ xs : List Cell, xs.map Cell.val = v.cells.toList ∧ holdC W xs ∧ Ty P t xs := by
  obtain ⟨fuel, hf⟩ := h
  refine open_cells k fuel t _ _ hp hf (fun q hq => ?_)
  have := List.all_eq_true.1 hsz q (DataW.weights_mem_each hjt hjd q hq)
  have hr : reachBytes = 140737488351232 := rfl
  simp at this
  omega
theorem open_sl {t e : TypeId} {A : Option Addr} {n c : Nat} {d : DataW H} {ps : List MemPlace} {j : Nat} (k : Nat) (hp : parts P k t = true) (ht : P.underlying t = some (.slice e)) (h : DataW.Trod enc P W 0 spare held t (.slice A n c) d ps) (hsz : (DataW.weightsEach P tss dss).all (· ≤ reachBytes) = true) (hjt : tss[j]? = some t) (hjd : dss[j]? = some d) :
    ∃ ys : List Cell, (RCell (.s (P.cellsOf e) A n c ys)).holds W ∧ Ty P t [.s (P.cellsOf e) A n c ys] := by
  obtain ⟨xs, h1, h2, h3⟩ := open_param k hp h hsz hjt hjd
  obtain ⟨A', n', c', ys, rfl, _⟩ := ty_slice ht h3
  have e1 : [Cell.val (.s (P.cellsOf e) A' n' c' ys)] = [Value.slice A n c] := h1
  simp only [Cell.val, List.cons.injEq, Value.slice.injEq, and_true] at e1
  obtain ⟨rfl, rfl, rfl⟩ := e1
  exact ⟨ys, h2.1, h3⟩
end
end Go.Eng
end
section
/- Structs that came in. No statement is proved here. -/
set_option linter.unusedVariables false
set_option linter.unusedSimpArgs false
namespace Go.Eng
open Go.RowKit Go.ChangeShapes Go.WideShapes
theorem row4 {α : Type} {xs : List α} {a b c d : Nat} (h : xs.length = a + b + c + d) : xs = (xs.drop 0).take a ++ ((xs.drop a).take b ++ ((xs.drop (a + b)).take c ++ (xs.drop (a + b + c)).take d)) := by
  have h1 : ∀ (i j : Nat), (xs.drop i).take j ++ xs.drop (i + j) = xs.drop i := fun i j => by rw [← List.drop_drop]; exact List.take_append_drop ..
  have h0 : xs.drop (a + b + c + d) = [] := List.drop_of_length_le (by omega)
  have e3 := h1 (a + b + c) d
  rw [h0, List.append_nil] at e3
  have e0 := h1 0 a
  rw [Nat.zero_add] at e0
  rw [e3, h1 (a + b) c, h1 a b, e0]
  rfl
section
variable {H : Type} {enc : TypeId × Value → H} {P : Program} {W : World} {spare : Nat → Bool} {held : Bool} {tss : List TypeId} {dss : List (DataW H)}
theorem open_agg {r : Reach} {b0 : Nat} {t : TypeId} {fs : Array Field} {v : Value} {d : DataW H} {ps : List MemPlace} {j : Nat} (k : Nat) (hp : parts P k t = true) (ht : P.underlying t = some (.struct fs)) (hval : Value.okWide P W r b0 t v) (h : DataW.Trod enc P W 0 spare held t v d ps) (hsz : (DataW.weightsEach P tss dss).all (· ≤ reachBytes) = true) (hjt : tss[j]? = some t) (hjd : dss[j]? = some d) :
    ∃ xs : List Cell, v = .agg (xs.map Cell.val).toArray ∧ holdC W xs ∧ Ty P t xs := by
  obtain ⟨xs, h1, h2, h3⟩ := open_param k hp h hsz hjt hjd
  simp only [Value.okWide, ht] at hval
  obtain ⟨cs, rfl, _, _⟩ := hval
  refine ⟨xs, ?_, h2, h3⟩
  congr 1
  apply Array.toList_inj.1
  simpa [Value.cells] using h1.symm
end
end Go.Eng
end
