/- Closed facts on the types of this seat, printed by a program of mine. No statement is proved here. -/
import Derived.Test.YtflcokdkobhieaaEng5
import Derived.Test.YtflcokdkobhieaaProg
import Derived.KernelRfl
namespace Go.Proofs.Ytflcokdkobhieaa
open Go.Eng
theorem ag2 : aggB Try.prog 2 = some false := by kernel_rfl
theorem sz2 : szB Try.prog 2 = some 1 := by kernel_rfl
theorem ti2 : TI Try.prog 2 (.int .i64 0) 1 8 := by unfold TI; kernel_rfl
theorem ag3 : aggB Try.prog 3 = some false := by kernel_rfl
theorem sz3 : szB Try.prog 3 = some 1 := by kernel_rfl
theorem ti3 : TI Try.prog 3 (.int .i64 0) 1 8 := by unfold TI; kernel_rfl
theorem ag4 : aggB Try.prog 4 = some false := by kernel_rfl
theorem sz4 : szB Try.prog 4 = some 1 := by kernel_rfl
theorem ti4 : TI Try.prog 4 (.bool false) 1 1 := by unfold TI; kernel_rfl
theorem ag5 : aggB Try.prog 5 = some false := by kernel_rfl
theorem sz5 : szB Try.prog 5 = some 1 := by kernel_rfl
theorem ti5 : TI Try.prog 5 (.int .u8 0) 1 1 := by unfold TI; kernel_rfl
theorem ag9 : aggB Try.prog 9 = some false := by kernel_rfl
theorem sz9 : szB Try.prog 9 = some 1 := by kernel_rfl
theorem ti9 : TI Try.prog 9 (.string ⟨#[]⟩) 1 16 := by unfold TI; kernel_rfl
theorem ag12 : aggB Try.prog 12 = some false := by kernel_rfl
theorem sz12 : szB Try.prog 12 = some 1 := by kernel_rfl
theorem ti12 : TI Try.prog 12 (.int .u64 0) 1 8 := by unfold TI; kernel_rfl
theorem ag13 : aggB Try.prog 13 = some true := by kernel_rfl
theorem sz13 : szB Try.prog 13 = some 2 := by kernel_rfl
theorem ti13 : TI Try.prog 13 (.agg (([.string ⟨#[]⟩]) ++ ([.int .u64 0]) : List Value).toArray) 2 24 := by unfold TI; kernel_rfl
theorem fa13_0 : faB Try.prog 13 0 = some (0, 1, 9) := by kernel_rfl
theorem pl13_0 : plB Try.prog 13 0 = some (0, 1) := by kernel_rfl
theorem fa13_1 : faB Try.prog 13 1 = some (1, 1, 12) := by kernel_rfl
theorem pl13_1 : plB Try.prog 13 1 = some (1, 1) := by kernel_rfl
theorem ag20 : aggB Try.prog 20 = some false := by kernel_rfl
theorem sz20 : szB Try.prog 20 = some 1 := by kernel_rfl
theorem ti20 : TI Try.prog 20 (.nilIface) 1 16 := by unfold TI; kernel_rfl
theorem ag21 : aggB Try.prog 21 = some false := by kernel_rfl
theorem sz21 : szB Try.prog 21 = some 1 := by kernel_rfl
theorem ti21 : TI Try.prog 21 (.int .i32 0) 1 4 := by unfold TI; kernel_rfl
theorem ag22 : aggB Try.prog 22 = some true := by kernel_rfl
theorem sz22 : szB Try.prog 22 = some 32 := by kernel_rfl
theorem ti22 : TI Try.prog 22 (.agg (b8s (List.replicate 32 0) : List Value).toArray) 32 32 := by unfold TI; kernel_rfl
theorem klD22 {l : List UInt8} (h : l.length = 32) : Try.prog.keyLits 2 22 (b8s l) = some (l.map fun b => Lit.int .u8 (b.toNat : Int)) := keyLits_b8 (D := 0) Try.underlying22 Try.underlying5 (by kernel_rfl) (by kernel_rfl) h
theorem y_eqD22 {N : Nat} {D : List Deferred} {ρ : Env} {w : World} {ty t' : TypeId} {x y : Operand} {l m : List UInt8} (hx : ev ρ x = some (.agg (b8s l).toArray)) (hy : ev ρ y = some (.agg (b8s m).toArray)) (hl : l.length = 32) (hm : m.length = 32) : Yl Try.prog N D ρ w (.binOp .eql 22 x y t') ty (.bool (decide (l = m))) :=
  y_eqK (m := 5) hx hy (by decide) (by kernel_rfl) (by kernel_rfl) ag22 (by rw [b8s_length, hl]; kernel_rfl) (by rw [b8s_length, hm]; kernel_rfl) (klD22 hl) (klD22 hm) lits_b8_inj
theorem y_neD22 {N : Nat} {D : List Deferred} {ρ : Env} {w : World} {ty t' : TypeId} {x y : Operand} {l m : List UInt8} (hx : ev ρ x = some (.agg (b8s l).toArray)) (hy : ev ρ y = some (.agg (b8s m).toArray)) (hl : l.length = 32) (hm : m.length = 32) : Yl Try.prog N D ρ w (.binOp .neq 22 x y t') ty (.bool (decide (¬ l = m))) :=
  y_neK (m := 5) hx hy (by decide) (by kernel_rfl) (by kernel_rfl) ag22 (by rw [b8s_length, hl]; kernel_rfl) (by rw [b8s_length, hm]; kernel_rfl) (klD22 hl) (klD22 hm) lits_b8_inj
theorem ag23 : aggB Try.prog 23 = some true := by kernel_rfl
theorem sz23 : szB Try.prog 23 = some 32 := by kernel_rfl
theorem ti23 : TI Try.prog 23 (.agg (b8s (List.replicate 32 0) : List Value).toArray) 32 32 := by unfold TI; kernel_rfl
theorem klD23 {l : List UInt8} (h : l.length = 32) : Try.prog.keyLits 2 23 (b8s l) = some (l.map fun b => Lit.int .u8 (b.toNat : Int)) := keyLits_b8 (D := 0) Try.underlying23 Try.underlying5 (by kernel_rfl) (by kernel_rfl) h
theorem y_eqD23 {N : Nat} {D : List Deferred} {ρ : Env} {w : World} {ty t' : TypeId} {x y : Operand} {l m : List UInt8} (hx : ev ρ x = some (.agg (b8s l).toArray)) (hy : ev ρ y = some (.agg (b8s m).toArray)) (hl : l.length = 32) (hm : m.length = 32) : Yl Try.prog N D ρ w (.binOp .eql 23 x y t') ty (.bool (decide (l = m))) :=
  y_eqK (m := 5) hx hy (by decide) (by kernel_rfl) (by kernel_rfl) ag23 (by rw [b8s_length, hl]; kernel_rfl) (by rw [b8s_length, hm]; kernel_rfl) (klD23 hl) (klD23 hm) lits_b8_inj
theorem y_neD23 {N : Nat} {D : List Deferred} {ρ : Env} {w : World} {ty t' : TypeId} {x y : Operand} {l m : List UInt8} (hx : ev ρ x = some (.agg (b8s l).toArray)) (hy : ev ρ y = some (.agg (b8s m).toArray)) (hl : l.length = 32) (hm : m.length = 32) : Yl Try.prog N D ρ w (.binOp .neq 23 x y t') ty (.bool (decide (¬ l = m))) :=
  y_neK (m := 5) hx hy (by decide) (by kernel_rfl) (by kernel_rfl) ag23 (by rw [b8s_length, hl]; kernel_rfl) (by rw [b8s_length, hm]; kernel_rfl) (klD23 hl) (klD23 hm) lits_b8_inj
theorem ag24 : aggB Try.prog 24 = some false := by kernel_rfl
theorem sz24 : szB Try.prog 24 = some 1 := by kernel_rfl
theorem ti24 : TI Try.prog 24 (.slice none 0 0) 1 24 := by unfold TI; kernel_rfl
theorem ag25 : aggB Try.prog 25 = some true := by kernel_rfl
theorem sz25 : szB Try.prog 25 = some 33 := by kernel_rfl
theorem ti25 : TI Try.prog 25 (.agg ((b8s (List.replicate 32 0)) ++ ([.slice none 0 0]) : List Value).toArray) 33 56 := by unfold TI; kernel_rfl
theorem fa25_0 : faB Try.prog 25 0 = some (0, 32, 23) := by kernel_rfl
theorem pl25_0 : plB Try.prog 25 0 = some (0, 32) := by kernel_rfl
theorem fa25_1 : faB Try.prog 25 1 = some (32, 1, 24) := by kernel_rfl
theorem pl25_1 : plB Try.prog 25 1 = some (32, 1) := by kernel_rfl
theorem ag26 : aggB Try.prog 26 = some true := by kernel_rfl
theorem sz26 : szB Try.prog 26 = some 33 := by kernel_rfl
theorem ti26 : TI Try.prog 26 (.agg ((b8s (List.replicate 32 0)) ++ ([.slice none 0 0]) : List Value).toArray) 33 56 := by unfold TI; kernel_rfl
theorem fa26_0 : faB Try.prog 26 0 = some (0, 32, 23) := by kernel_rfl
theorem pl26_0 : plB Try.prog 26 0 = some (0, 32) := by kernel_rfl
theorem fa26_1 : faB Try.prog 26 1 = some (32, 1, 24) := by kernel_rfl
theorem pl26_1 : plB Try.prog 26 1 = some (32, 1) := by kernel_rfl
theorem ag27 : aggB Try.prog 27 = some false := by kernel_rfl
theorem sz27 : szB Try.prog 27 = some 1 := by kernel_rfl
theorem ti27 : TI Try.prog 27 (.slice none 0 0) 1 24 := by unfold TI; kernel_rfl
theorem ag28 : aggB Try.prog 28 = some false := by kernel_rfl
theorem sz28 : szB Try.prog 28 = some 1 := by kernel_rfl
theorem ti28 : TI Try.prog 28 (.pointer none) 1 8 := by unfold TI; kernel_rfl
theorem ag31 : aggB Try.prog 31 = some true := by kernel_rfl
theorem sz31 : szB Try.prog 31 = some 33 := by kernel_rfl
theorem ti31 : TI Try.prog 31 (.agg ((b8s (List.replicate 32 0)) ++ ([.slice none 0 0]) : List Value).toArray) 33 56 := by unfold TI; kernel_rfl
theorem fa31_0 : faB Try.prog 31 0 = some (0, 32, 23) := by kernel_rfl
theorem pl31_0 : plB Try.prog 31 0 = some (0, 32) := by kernel_rfl
theorem fa31_1 : faB Try.prog 31 1 = some (32, 1, 24) := by kernel_rfl
theorem pl31_1 : plB Try.prog 31 1 = some (32, 1) := by kernel_rfl
theorem ag32 : aggB Try.prog 32 = some false := by kernel_rfl
theorem sz32 : szB Try.prog 32 = some 1 := by kernel_rfl
theorem ti32 : TI Try.prog 32 (.int .i64 0) 1 8 := by unfold TI; kernel_rfl
theorem ag44 : aggB Try.prog 44 = some false := by kernel_rfl
theorem sz44 : szB Try.prog 44 = some 1 := by kernel_rfl
theorem ti44 : TI Try.prog 44 (.slice none 0 0) 1 24 := by unfold TI; kernel_rfl
theorem ag48 : aggB Try.prog 48 = some false := by kernel_rfl
theorem sz48 : szB Try.prog 48 = some 1 := by kernel_rfl
theorem ti48 : TI Try.prog 48 (.slice none 0 0) 1 24 := by unfold TI; kernel_rfl
theorem ag51 : aggB Try.prog 51 = some false := by kernel_rfl
theorem sz51 : szB Try.prog 51 = some 1 := by kernel_rfl
theorem ti51 : TI Try.prog 51 (.slice none 0 0) 1 24 := by unfold TI; kernel_rfl
theorem ag52 : aggB Try.prog 52 = some false := by kernel_rfl
theorem sz52 : szB Try.prog 52 = some 1 := by kernel_rfl
theorem ti52 : TI Try.prog 52 (.slice none 0 0) 1 24 := by unfold TI; kernel_rfl
theorem ag53 : aggB Try.prog 53 = some true := by kernel_rfl
theorem sz53 : szB Try.prog 53 = some 5 := by kernel_rfl
theorem ti53 : TI Try.prog 53 (.agg (([.int .i64 0]) ++ ([.slice none 0 0]) ++ ([.slice none 0 0]) ++ ([.slice none 0 0]) ++ ([.int .i64 0]) : List Value).toArray) 5 88 := by unfold TI; kernel_rfl
theorem fa53_0 : faB Try.prog 53 0 = some (0, 1, 3) := by kernel_rfl
theorem pl53_0 : plB Try.prog 53 0 = some (0, 1) := by kernel_rfl
theorem fa53_1 : faB Try.prog 53 1 = some (1, 1, 51) := by kernel_rfl
theorem pl53_1 : plB Try.prog 53 1 = some (1, 1) := by kernel_rfl
theorem fa53_2 : faB Try.prog 53 2 = some (2, 1, 51) := by kernel_rfl
theorem pl53_2 : plB Try.prog 53 2 = some (2, 1) := by kernel_rfl
theorem fa53_3 : faB Try.prog 53 3 = some (3, 1, 52) := by kernel_rfl
theorem pl53_3 : plB Try.prog 53 3 = some (3, 1) := by kernel_rfl
theorem fa53_4 : faB Try.prog 53 4 = some (4, 1, 3) := by kernel_rfl
theorem pl53_4 : plB Try.prog 53 4 = some (4, 1) := by kernel_rfl
theorem ag54 : aggB Try.prog 54 = some true := by kernel_rfl
theorem sz54 : szB Try.prog 54 = some 5 := by kernel_rfl
theorem ti54 : TI Try.prog 54 (.agg (([.int .i64 0]) ++ ([.slice none 0 0]) ++ ([.slice none 0 0]) ++ ([.slice none 0 0]) ++ ([.int .i64 0]) : List Value).toArray) 5 88 := by unfold TI; kernel_rfl
theorem fa54_0 : faB Try.prog 54 0 = some (0, 1, 3) := by kernel_rfl
theorem pl54_0 : plB Try.prog 54 0 = some (0, 1) := by kernel_rfl
theorem fa54_1 : faB Try.prog 54 1 = some (1, 1, 51) := by kernel_rfl
theorem pl54_1 : plB Try.prog 54 1 = some (1, 1) := by kernel_rfl
theorem fa54_2 : faB Try.prog 54 2 = some (2, 1, 51) := by kernel_rfl
theorem pl54_2 : plB Try.prog 54 2 = some (2, 1) := by kernel_rfl
theorem fa54_3 : faB Try.prog 54 3 = some (3, 1, 52) := by kernel_rfl
theorem pl54_3 : plB Try.prog 54 3 = some (3, 1) := by kernel_rfl
theorem fa54_4 : faB Try.prog 54 4 = some (4, 1, 3) := by kernel_rfl
theorem pl54_4 : plB Try.prog 54 4 = some (4, 1) := by kernel_rfl
theorem ag59 : aggB Try.prog 59 = some true := by kernel_rfl
theorem sz59 : szB Try.prog 59 = some 2 := by kernel_rfl
theorem ti59 : TI Try.prog 59 (.agg (([.string ⟨#[]⟩]) ++ ([.string ⟨#[]⟩]) : List Value).toArray) 2 32 := by unfold TI; kernel_rfl
theorem fa59_0 : faB Try.prog 59 0 = some (0, 1, 9) := by kernel_rfl
theorem pl59_0 : plB Try.prog 59 0 = some (0, 1) := by kernel_rfl
theorem fa59_1 : faB Try.prog 59 1 = some (1, 1, 9) := by kernel_rfl
theorem pl59_1 : plB Try.prog 59 1 = some (1, 1) := by kernel_rfl
theorem ag60 : aggB Try.prog 60 = some true := by kernel_rfl
theorem sz60 : szB Try.prog 60 = some 2 := by kernel_rfl
theorem ti60 : TI Try.prog 60 (.agg (([.string ⟨#[]⟩]) ++ ([.string ⟨#[]⟩]) : List Value).toArray) 2 32 := by unfold TI; kernel_rfl
theorem fa60_0 : faB Try.prog 60 0 = some (0, 1, 9) := by kernel_rfl
theorem pl60_0 : plB Try.prog 60 0 = some (0, 1) := by kernel_rfl
theorem fa60_1 : faB Try.prog 60 1 = some (1, 1, 9) := by kernel_rfl
theorem pl60_1 : plB Try.prog 60 1 = some (1, 1) := by kernel_rfl
theorem ag71 : aggB Try.prog 71 = some false := by kernel_rfl
theorem sz71 : szB Try.prog 71 = some 1 := by kernel_rfl
theorem ti71 : TI Try.prog 71 (.slice none 0 0) 1 24 := by unfold TI; kernel_rfl
theorem ag74 : aggB Try.prog 74 = some true := by kernel_rfl
theorem sz74 : szB Try.prog 74 = some 6 := by kernel_rfl
theorem ti74 : TI Try.prog 74 (.agg (([.int .i64 0]) ++ ([.int .i64 0]) ++ ([.int .i64 0]) ++ ([.int .i64 0]) ++ ([.slice none 0 0]) ++ ([.slice none 0 0]) : List Value).toArray) 6 80 := by unfold TI; kernel_rfl
theorem fa74_0 : faB Try.prog 74 0 = some (0, 1, 3) := by kernel_rfl
theorem pl74_0 : plB Try.prog 74 0 = some (0, 1) := by kernel_rfl
theorem fa74_1 : faB Try.prog 74 1 = some (1, 1, 3) := by kernel_rfl
theorem pl74_1 : plB Try.prog 74 1 = some (1, 1) := by kernel_rfl
theorem fa74_2 : faB Try.prog 74 2 = some (2, 1, 3) := by kernel_rfl
theorem pl74_2 : plB Try.prog 74 2 = some (2, 1) := by kernel_rfl
theorem fa74_3 : faB Try.prog 74 3 = some (3, 1, 3) := by kernel_rfl
theorem pl74_3 : plB Try.prog 74 3 = some (3, 1) := by kernel_rfl
theorem fa74_4 : faB Try.prog 74 4 = some (4, 1, 44) := by kernel_rfl
theorem pl74_4 : plB Try.prog 74 4 = some (4, 1) := by kernel_rfl
theorem fa74_5 : faB Try.prog 74 5 = some (5, 1, 27) := by kernel_rfl
theorem pl74_5 : plB Try.prog 74 5 = some (5, 1) := by kernel_rfl
theorem ag75 : aggB Try.prog 75 = some true := by kernel_rfl
theorem sz75 : szB Try.prog 75 = some 6 := by kernel_rfl
theorem ti75 : TI Try.prog 75 (.agg (([.int .i64 0]) ++ ([.int .i64 0]) ++ ([.int .i64 0]) ++ ([.int .i64 0]) ++ ([.slice none 0 0]) ++ ([.slice none 0 0]) : List Value).toArray) 6 80 := by unfold TI; kernel_rfl
theorem fa75_0 : faB Try.prog 75 0 = some (0, 1, 3) := by kernel_rfl
theorem pl75_0 : plB Try.prog 75 0 = some (0, 1) := by kernel_rfl
theorem fa75_1 : faB Try.prog 75 1 = some (1, 1, 3) := by kernel_rfl
theorem pl75_1 : plB Try.prog 75 1 = some (1, 1) := by kernel_rfl
theorem fa75_2 : faB Try.prog 75 2 = some (2, 1, 3) := by kernel_rfl
theorem pl75_2 : plB Try.prog 75 2 = some (2, 1) := by kernel_rfl
theorem fa75_3 : faB Try.prog 75 3 = some (3, 1, 3) := by kernel_rfl
theorem pl75_3 : plB Try.prog 75 3 = some (3, 1) := by kernel_rfl
theorem fa75_4 : faB Try.prog 75 4 = some (4, 1, 44) := by kernel_rfl
theorem pl75_4 : plB Try.prog 75 4 = some (4, 1) := by kernel_rfl
theorem fa75_5 : faB Try.prog 75 5 = some (5, 1, 27) := by kernel_rfl
theorem pl75_5 : plB Try.prog 75 5 = some (5, 1) := by kernel_rfl
theorem ag87 : aggB Try.prog 87 = some false := by kernel_rfl
theorem sz87 : szB Try.prog 87 = some 1 := by kernel_rfl
theorem ti87 : TI Try.prog 87 (.map none) 1 8 := by unfold TI; kernel_rfl
theorem ag88 : aggB Try.prog 88 = some false := by kernel_rfl
theorem sz88 : szB Try.prog 88 = some 1 := by kernel_rfl
theorem ti88 : TI Try.prog 88 (.map none) 1 8 := by unfold TI; kernel_rfl
theorem ag89 : aggB Try.prog 89 = some false := by kernel_rfl
theorem sz89 : szB Try.prog 89 = some 1 := by kernel_rfl
theorem ti89 : TI Try.prog 89 (.slice none 0 0) 1 24 := by unfold TI; kernel_rfl
theorem ag90 : aggB Try.prog 90 = some true := by kernel_rfl
theorem sz90 : szB Try.prog 90 = some 5 := by kernel_rfl
theorem ti90 : TI Try.prog 90 (.agg (([.int .i64 0]) ++ ([.map none]) ++ ([.map none]) ++ ([.slice none 0 0]) ++ ([.int .i64 0]) : List Value).toArray) 5 56 := by unfold TI; kernel_rfl
theorem fa90_0 : faB Try.prog 90 0 = some (0, 1, 3) := by kernel_rfl
theorem pl90_0 : plB Try.prog 90 0 = some (0, 1) := by kernel_rfl
theorem fa90_1 : faB Try.prog 90 1 = some (1, 1, 88) := by kernel_rfl
theorem pl90_1 : plB Try.prog 90 1 = some (1, 1) := by kernel_rfl
theorem fa90_2 : faB Try.prog 90 2 = some (2, 1, 88) := by kernel_rfl
theorem pl90_2 : plB Try.prog 90 2 = some (2, 1) := by kernel_rfl
theorem fa90_3 : faB Try.prog 90 3 = some (3, 1, 89) := by kernel_rfl
theorem pl90_3 : plB Try.prog 90 3 = some (3, 1) := by kernel_rfl
theorem fa90_4 : faB Try.prog 90 4 = some (4, 1, 3) := by kernel_rfl
theorem pl90_4 : plB Try.prog 90 4 = some (4, 1) := by kernel_rfl
theorem ag91 : aggB Try.prog 91 = some true := by kernel_rfl
theorem sz91 : szB Try.prog 91 = some 5 := by kernel_rfl
theorem ti91 : TI Try.prog 91 (.agg (([.int .i64 0]) ++ ([.map none]) ++ ([.map none]) ++ ([.slice none 0 0]) ++ ([.int .i64 0]) : List Value).toArray) 5 56 := by unfold TI; kernel_rfl
theorem fa91_0 : faB Try.prog 91 0 = some (0, 1, 3) := by kernel_rfl
theorem pl91_0 : plB Try.prog 91 0 = some (0, 1) := by kernel_rfl
theorem fa91_1 : faB Try.prog 91 1 = some (1, 1, 88) := by kernel_rfl
theorem pl91_1 : plB Try.prog 91 1 = some (1, 1) := by kernel_rfl
theorem fa91_2 : faB Try.prog 91 2 = some (2, 1, 88) := by kernel_rfl
theorem pl91_2 : plB Try.prog 91 2 = some (2, 1) := by kernel_rfl
theorem fa91_3 : faB Try.prog 91 3 = some (3, 1, 89) := by kernel_rfl
theorem pl91_3 : plB Try.prog 91 3 = some (3, 1) := by kernel_rfl
theorem fa91_4 : faB Try.prog 91 4 = some (4, 1, 3) := by kernel_rfl
theorem pl91_4 : plB Try.prog 91 4 = some (4, 1) := by kernel_rfl
theorem ag92 : aggB Try.prog 92 = some false := by kernel_rfl
theorem sz92 : szB Try.prog 92 = some 1 := by kernel_rfl
theorem ti92 : TI Try.prog 92 (.nilIface) 1 16 := by unfold TI; kernel_rfl
theorem ag93 : aggB Try.prog 93 = some false := by kernel_rfl
theorem sz93 : szB Try.prog 93 = some 1 := by kernel_rfl
theorem ti93 : TI Try.prog 93 (.nilIface) 1 16 := by unfold TI; kernel_rfl
theorem ag94 : aggB Try.prog 94 = some true := by kernel_rfl
theorem sz94 : szB Try.prog 94 = some 2 := by kernel_rfl
theorem ti94 : TI Try.prog 94 (.agg (([.string ⟨#[]⟩]) ++ ([.slice none 0 0]) : List Value).toArray) 2 40 := by unfold TI; kernel_rfl
theorem fa94_0 : faB Try.prog 94 0 = some (0, 1, 9) := by kernel_rfl
theorem pl94_0 : plB Try.prog 94 0 = some (0, 1) := by kernel_rfl
theorem fa94_1 : faB Try.prog 94 1 = some (1, 1, 44) := by kernel_rfl
theorem pl94_1 : plB Try.prog 94 1 = some (1, 1) := by kernel_rfl
theorem ag95 : aggB Try.prog 95 = some true := by kernel_rfl
theorem sz95 : szB Try.prog 95 = some 2 := by kernel_rfl
theorem ti95 : TI Try.prog 95 (.agg (([.string ⟨#[]⟩]) ++ ([.slice none 0 0]) : List Value).toArray) 2 40 := by unfold TI; kernel_rfl
theorem fa95_0 : faB Try.prog 95 0 = some (0, 1, 9) := by kernel_rfl
theorem pl95_0 : plB Try.prog 95 0 = some (0, 1) := by kernel_rfl
theorem fa95_1 : faB Try.prog 95 1 = some (1, 1, 44) := by kernel_rfl
theorem pl95_1 : plB Try.prog 95 1 = some (1, 1) := by kernel_rfl
theorem ag104 : aggB Try.prog 104 = some true := by kernel_rfl
theorem sz104 : szB Try.prog 104 = some 4 := by kernel_rfl
theorem ti104 : TI Try.prog 104 (.agg (([.int .i64 0]) ++ ([.string ⟨#[]⟩]) ++ ([.string ⟨#[]⟩]) ++ ([.string ⟨#[]⟩]) : List Value).toArray) 4 56 := by unfold TI; kernel_rfl
theorem fa104_0 : faB Try.prog 104 0 = some (0, 1, 3) := by kernel_rfl
theorem pl104_0 : plB Try.prog 104 0 = some (0, 1) := by kernel_rfl
theorem fa104_1 : faB Try.prog 104 1 = some (1, 1, 9) := by kernel_rfl
theorem pl104_1 : plB Try.prog 104 1 = some (1, 1) := by kernel_rfl
theorem fa104_2 : faB Try.prog 104 2 = some (2, 1, 9) := by kernel_rfl
theorem pl104_2 : plB Try.prog 104 2 = some (2, 1) := by kernel_rfl
theorem fa104_3 : faB Try.prog 104 3 = some (3, 1, 9) := by kernel_rfl
theorem pl104_3 : plB Try.prog 104 3 = some (3, 1) := by kernel_rfl
theorem ag105 : aggB Try.prog 105 = some true := by kernel_rfl
theorem sz105 : szB Try.prog 105 = some 4 := by kernel_rfl
theorem ti105 : TI Try.prog 105 (.agg (([.int .i64 0]) ++ ([.string ⟨#[]⟩]) ++ ([.string ⟨#[]⟩]) ++ ([.string ⟨#[]⟩]) : List Value).toArray) 4 56 := by unfold TI; kernel_rfl
theorem fa105_0 : faB Try.prog 105 0 = some (0, 1, 3) := by kernel_rfl
theorem pl105_0 : plB Try.prog 105 0 = some (0, 1) := by kernel_rfl
theorem fa105_1 : faB Try.prog 105 1 = some (1, 1, 9) := by kernel_rfl
theorem pl105_1 : plB Try.prog 105 1 = some (1, 1) := by kernel_rfl
theorem fa105_2 : faB Try.prog 105 2 = some (2, 1, 9) := by kernel_rfl
theorem pl105_2 : plB Try.prog 105 2 = some (2, 1) := by kernel_rfl
theorem fa105_3 : faB Try.prog 105 3 = some (3, 1, 9) := by kernel_rfl
theorem pl105_3 : plB Try.prog 105 3 = some (3, 1) := by kernel_rfl
theorem ag112 : aggB Try.prog 112 = some true := by kernel_rfl
theorem sz112 : szB Try.prog 112 = some 1 := by kernel_rfl
theorem ti112 : TI Try.prog 112 (.agg (([.string ⟨#[]⟩]) : List Value).toArray) 1 16 := by unfold TI; kernel_rfl
theorem fa112_0 : faB Try.prog 112 0 = some (0, 1, 9) := by kernel_rfl
theorem pl112_0 : plB Try.prog 112 0 = some (0, 1) := by kernel_rfl
theorem ag113 : aggB Try.prog 113 = some true := by kernel_rfl
theorem sz113 : szB Try.prog 113 = some 1 := by kernel_rfl
theorem ti113 : TI Try.prog 113 (.agg (([.string ⟨#[]⟩]) : List Value).toArray) 1 16 := by unfold TI; kernel_rfl
theorem fa113_0 : faB Try.prog 113 0 = some (0, 1, 9) := by kernel_rfl
theorem pl113_0 : plB Try.prog 113 0 = some (0, 1) := by kernel_rfl
theorem ag123 : aggB Try.prog 123 = some false := by kernel_rfl
theorem sz123 : szB Try.prog 123 = some 1 := by kernel_rfl
theorem ti123 : TI Try.prog 123 (.int .u64 0) 1 8 := by unfold TI; kernel_rfl
theorem ag125 : aggB Try.prog 125 = some false := by kernel_rfl
theorem sz125 : szB Try.prog 125 = some 1 := by kernel_rfl
theorem ti125 : TI Try.prog 125 (.nilIface) 1 16 := by unfold TI; kernel_rfl
theorem ag126 : aggB Try.prog 126 = some false := by kernel_rfl
theorem sz126 : szB Try.prog 126 = some 1 := by kernel_rfl
theorem ti126 : TI Try.prog 126 (.nilIface) 1 16 := by unfold TI; kernel_rfl
theorem ag127 : aggB Try.prog 127 = some true := by kernel_rfl
theorem sz127 : szB Try.prog 127 = some 1 := by kernel_rfl
theorem ti127 : TI Try.prog 127 (.agg (([.nilIface]) : List Value).toArray) 1 16 := by unfold TI; kernel_rfl
theorem fa127_0 : faB Try.prog 127 0 = some (0, 1, 126) := by kernel_rfl
theorem pl127_0 : plB Try.prog 127 0 = some (0, 1) := by kernel_rfl
theorem ag128 : aggB Try.prog 128 = some true := by kernel_rfl
theorem sz128 : szB Try.prog 128 = some 1 := by kernel_rfl
theorem ti128 : TI Try.prog 128 (.agg (([.nilIface]) : List Value).toArray) 1 16 := by unfold TI; kernel_rfl
theorem fa128_0 : faB Try.prog 128 0 = some (0, 1, 126) := by kernel_rfl
theorem pl128_0 : plB Try.prog 128 0 = some (0, 1) := by kernel_rfl
theorem ag131 : aggB Try.prog 131 = some true := by kernel_rfl
theorem sz131 : szB Try.prog 131 = some 2 := by kernel_rfl
theorem ti131 : TI Try.prog 131 (.agg (([.string ⟨#[]⟩]) ++ ([.string ⟨#[]⟩]) : List Value).toArray) 2 32 := by unfold TI; kernel_rfl
theorem fa131_0 : faB Try.prog 131 0 = some (0, 1, 9) := by kernel_rfl
theorem pl131_0 : plB Try.prog 131 0 = some (0, 1) := by kernel_rfl
theorem fa131_1 : faB Try.prog 131 1 = some (1, 1, 9) := by kernel_rfl
theorem pl131_1 : plB Try.prog 131 1 = some (1, 1) := by kernel_rfl
theorem ag132 : aggB Try.prog 132 = some true := by kernel_rfl
theorem sz132 : szB Try.prog 132 = some 2 := by kernel_rfl
theorem ti132 : TI Try.prog 132 (.agg (([.string ⟨#[]⟩]) ++ ([.string ⟨#[]⟩]) : List Value).toArray) 2 32 := by unfold TI; kernel_rfl
theorem fa132_0 : faB Try.prog 132 0 = some (0, 1, 9) := by kernel_rfl
theorem pl132_0 : plB Try.prog 132 0 = some (0, 1) := by kernel_rfl
theorem fa132_1 : faB Try.prog 132 1 = some (1, 1, 9) := by kernel_rfl
theorem pl132_1 : plB Try.prog 132 1 = some (1, 1) := by kernel_rfl
theorem ag145 : aggB Try.prog 145 = some false := by kernel_rfl
theorem sz145 : szB Try.prog 145 = some 1 := by kernel_rfl
theorem ti145 : TI Try.prog 145 (.int .u32 0) 1 4 := by unfold TI; kernel_rfl
theorem ag151 : aggB Try.prog 151 = some false := by kernel_rfl
theorem sz151 : szB Try.prog 151 = some 1 := by kernel_rfl
theorem ti151 : TI Try.prog 151 (.int .i64 0) 1 8 := by unfold TI; kernel_rfl
theorem ag159 : aggB Try.prog 159 = some false := by kernel_rfl
theorem sz159 : szB Try.prog 159 = some 1 := by kernel_rfl
theorem ti159 : TI Try.prog 159 (.int .u64 0) 1 8 := by unfold TI; kernel_rfl
theorem ag161 : aggB Try.prog 161 = some false := by kernel_rfl
theorem sz161 : szB Try.prog 161 = some 1 := by kernel_rfl
theorem ti161 : TI Try.prog 161 (.int .u64 0) 1 8 := by unfold TI; kernel_rfl
theorem ag165 : aggB Try.prog 165 = some false := by kernel_rfl
theorem sz165 : szB Try.prog 165 = some 1 := by kernel_rfl
theorem ti165 : TI Try.prog 165 (.pointer none) 1 8 := by unfold TI; kernel_rfl
theorem ag171 : aggB Try.prog 171 = some false := by kernel_rfl
theorem sz171 : szB Try.prog 171 = some 1 := by kernel_rfl
theorem ti171 : TI Try.prog 171 (.pointer none) 1 8 := by unfold TI; kernel_rfl
theorem ag185 : aggB Try.prog 185 = some false := by kernel_rfl
theorem sz185 : szB Try.prog 185 = some 1 := by kernel_rfl
theorem ti185 : TI Try.prog 185 (.pointer none) 1 8 := by unfold TI; kernel_rfl
end Go.Proofs.Ytflcokdkobhieaa
