/- Contracts: errors.Is of two error numbers; the digest of a text; the law HexaDigests. -/
import Derived.Test.YtkicnomekojafaaHexa5
import Derived.Test.YtkicnomekojafaaHexa7
import Derived.Test.YtkicnomekojafaaHexa8
import Derived.Test.YtkicnomekojafaaEng6
set_option linter.unusedVariables false
set_option linter.unusedSimpArgs false
namespace Go.Proofs.Ytkicnomekojafaa
open Go.Eng Go.Hx Go.Extern
theorem isTypeOf (v : Value) (w : World) : (Extern.ReflectliteType.typeOf #[.iface 34 v]).run Try.prog w = .ok (.iface 58 (.agg #[.pointer (some ⟨1, 34, none⟩)])) w := by kernel_rfl
theorem isComparable (w : World) : ((Extern.ReflectliteType.method fun t => do Rtype.noPackHeld "Comparable" t; pure (.bool (← typeInfo t).comparable)) #[.agg #[.pointer (some ⟨1, 34, none⟩)]]).run Try.prog w = .ok (.bool true) w := by kernel_rfl
theorem isMethodComparable (v : Value) (w : World) : (Go.method (Try.prog.types.size + Made.depth) 58 v "Comparable").run Try.prog w = .ok (54, v) w := by kernel_rfl
theorem noIs (v : Value) (xT : TypeId) (w : World) : (Instr.typeAssert (.iface 34 v) xT 60 true).run Try.prog w = .ok (.tuple #[.nilIface, .bool false]) w := run_typeAssert_lacksB Try.underlying60 (by kernel_rfl) (by kernel_rfl) v xT w
theorem noUnwrap (v : Value) (xT : TypeId) (w : World) : (Instr.typeAssert (.iface 34 v) xT 63 true).run Try.prog w = .ok (.tuple #[.nilIface, .bool false]) w := run_typeAssert_lacksB Try.underlying63 (by kernel_rfl) (by kernel_rfl) v xT w
theorem noUnwraps (v : Value) (xT : TypeId) (w : World) : (Instr.typeAssert (.iface 34 v) xT 65 true).run Try.prog w = .ok (.tuple #[.nilIface, .bool false]) w := run_typeAssert_lacksB Try.underlying65 (by kernel_rfl) (by kernel_rfl) v xT w
theorem isErr (k m : Int) (w : World) :
    Calls Try.prog 33 #[.iface 34 (.int .i64 k), .iface 34 (.int .i64 m), .bool true] w fun e w' => e = .returned (.bool (decide (k = m))) ∧ w = w' := by
  refine enter (N := 54) Try.func33 rfl rfl (by simp) ?_
  refine cseq <| creg <| nq (y_assign rfl) <| nend <| qthen <| cblock <| ?_
  refine cloop1 (fun _ => 0) (fun _ => [(0, .iface 34 (.int .i64 k)), (1, .iface 34 (.int .i64 m)), (2, .bool true)]) (fun _ w' => w = w') 0 (rfl) (sub_cons (t := 0) rfl <| sub_cons (t := 1) rfl <| sub_cons (t := 2) rfl <| sub_nil) (fun i w1 hw => ?_)
  obtain rfl := hw
  refine cblock <| cseq <| cseq <| creg <| nq (y_move rfl) <| nq (y_move rfl) <| ng rfl rfl rfl (y_move rfl) <| ng rfl rfl rfl (y_move rfl) <| ng rfl rfl rfl (((y_eqII rfl rfl Try.underlying51 (by kernel_rfl) Try.underlying34))) <| nq (y_pickT rfl rfl) <| nend <| qsub (sub_cons (t := 19) rfl <| sub_cons (t := 0) rfl <| sub_cons (t := 1) rfl <| sub_cons (t := 2) rfl <| sub_nil) <| qthen <| ?_
  refine cif rfl (fun h => ?_) (fun h => ?_)
  · refine cseq <| creg <| nq (y_assign rfl) <| nend <| qthen <| cret <| qthen_ret <| qblock_ret <| qthen_ret <| qblock_ret <| ?_
    refine ret1 trivial rfl rfl ⟨?_, rfl⟩
    rw [decide_eq_true h]
  · refine cskip <| qthen <| cseq <| cseq <| creg <| nq (y_move rfl) <| nq (y_tas rfl ((noIs _ _ _))) <| nq (y_move rfl) <| nq (y_extract rfl rfl) <| nq (y_extract rfl rfl) <| nq (y_assign rfl) <| nq (y_assign rfl) <| nend <| qsub (sub_cons (t := 8) rfl <| sub_cons (t := 7) rfl <| sub_cons (t := 19) rfl <| sub_cons (t := 0) rfl <| sub_cons (t := 1) rfl <| sub_cons (t := 2) rfl <| sub_nil) <| qthen <| cseq <| creg <| nq (y_move rfl) <| nq (y_move rfl) <| nskip rfl rfl rfl (by decide) <| nskip rfl rfl rfl (by decide) <| nskip rfl rfl rfl (by decide) <| nq (y_pickF rfl rfl) <| nend <| qsub (sub_cons (t := 30) rfl <| sub_cons (t := 8) rfl <| sub_cons (t := 7) rfl <| sub_cons (t := 19) rfl <| sub_cons (t := 0) rfl <| sub_cons (t := 1) rfl <| sub_cons (t := 2) rfl <| sub_nil) <| qthen <| ?_
    refine ciff rfl (rfl) ?_
    refine cskip <| qthen <| cseq <| creg <| nq (y_move rfl) <| nend <| qthen <| cblock <| cseq <| creg <| nq (y_tas rfl ((noUnwrap _ _ _))) <| nq (y_extract rfl rfl) <| nq (y_extract rfl rfl) <| nend <| qsub (sub_cons (t := 34) rfl <| sub_cons (t := 33) rfl <| sub_cons (t := 31) rfl <| sub_cons (t := 30) rfl <| sub_cons (t := 8) rfl <| sub_cons (t := 7) rfl <| sub_cons (t := 19) rfl <| sub_cons (t := 0) rfl <| sub_cons (t := 1) rfl <| sub_cons (t := 2) rfl <| sub_nil) <| qthen <| ?_
    refine ciff rfl (rfl) ?_
    refine cseq <| creg <| nq (y_tas rfl ((noUnwraps _ _ _))) <| nq (y_extract rfl rfl) <| nq (y_extract rfl rfl) <| nend <| qsub (sub_cons (t := 41) rfl <| sub_cons (t := 40) rfl <| sub_cons (t := 34) rfl <| sub_cons (t := 33) rfl <| sub_cons (t := 31) rfl <| sub_cons (t := 30) rfl <| sub_cons (t := 8) rfl <| sub_cons (t := 7) rfl <| sub_cons (t := 19) rfl <| sub_cons (t := 0) rfl <| sub_cons (t := 1) rfl <| sub_cons (t := 2) rfl <| sub_nil) <| qthen <| ?_
    refine ciff rfl (rfl) ?_
    refine cseq <| creg <| nq (y_assign rfl) <| nend <| qsub (sub_cons (t := 41) rfl <| sub_cons (t := 40) rfl <| sub_cons (t := 34) rfl <| sub_cons (t := 33) rfl <| sub_cons (t := 31) rfl <| sub_cons (t := 30) rfl <| sub_cons (t := 8) rfl <| sub_cons (t := 7) rfl <| sub_cons (t := 19) rfl <| sub_cons (t := 0) rfl <| sub_cons (t := 1) rfl <| sub_cons (t := 2) rfl <| sub_nil) <| qthen <| cseq <| creg <| nq (y_assign rfl) <| nend <| qthen <| cret <| qblock_ret <| qblock_ret <| qthen_ret <| qblock_ret <| ?_
    refine ret1 trivial rfl rfl ⟨?_, rfl⟩
    rw [decide_eq_false h]
theorem errorsIs (k m : Int) (w : World) :
    Calls Try.prog 28 #[.iface 34 (.int .i64 k), .iface 34 (.int .i64 m)] w fun e w' => e = .returned (.bool (decide (k = m))) ∧ w = w' := by
  refine enter (N := 22) Try.func28 rfl rfl (by simp) ?_
  refine cseq <| creg <| nq (y_assign rfl) <| nend <| qthen <| cseq <| cseq <| creg <| nq (y_move rfl) <| nq (((y_eqIN rfl rfl (by kernel_rfl)))) <| nq (y_move rfl) <| ng rfl rfl rfl (y_move rfl) <| ng rfl rfl rfl (((y_eqIN rfl rfl (by kernel_rfl)))) <| nq (y_pickF rfl rfl) <| nend <| qsub (sub_cons (t := 11) rfl <| sub_cons (t := 4) rfl <| sub_cons (t := 0) rfl <| sub_cons (t := 1) rfl <| sub_nil) <| qthen <| ?_
  refine ciff rfl (rfl) ?_
  refine cskip <| qthen <| cseq <| creg <| nq (y_move rfl) <| ?_
  refine nq (y_ext rfl Try.func32 (by kernel_rfl) (by kernel_rfl) (by kernel_rfl) (show _ = some Extern.ReflectliteType.typeOf by kernel_rfl) (isTypeOf _ _)) ?_
  refine nq (y_invE rfl rfl (isMethodComparable _ _) Try.func54 (by kernel_rfl) (by kernel_rfl) (by kernel_rfl) (g := Extern.ReflectliteType.method fun t => do Rtype.noPackHeld "Comparable" t; pure (.bool (← typeInfo t).comparable)) (by kernel_rfl) (isComparable _)) ?_
  refine nq (y_assign rfl) <| nend <| qsub (sub_cons (t := 5) rfl <| sub_cons (t := 11) rfl <| sub_cons (t := 4) rfl <| sub_cons (t := 0) rfl <| sub_cons (t := 1) rfl <| sub_nil) <| qthen <| cseq <| creg <| nq (y_move rfl) <| nq (y_move rfl) <| nq (y_move rfl) <| ?_
  refine nx (x_call rfl Try.call33 (isErr k m w) ?_)
  rintro e_ w1 ⟨rfl, rfl⟩
  refine ⟨_, rfl, ?_⟩
  refine nq (y_assign rfl) <| nend <| qsub (sub_cons (t := 4) rfl <| sub_cons (t := 5) rfl <| sub_cons (t := 11) rfl <| sub_cons (t := 0) rfl <| sub_cons (t := 1) rfl <| sub_nil) <| qthen <| cret <| ?_
  exact ret1 trivial rfl rfl ⟨rfl, rfl⟩
/-- the digest of a text, or the error -/
def digestOf (s : List UInt8) : List UInt8 × Int := match unhex s with
  | none => (List.replicate 32 0, 2)
  | some x => if x.length = 32 then (x, 0) else (List.replicate 32 0, 3)
theorem digestOf_length (s : List UInt8) : (digestOf s).1.length = 32 := by
  unfold digestOf
  split
  · simp
  · split
    · assumption
    · simp
theorem zeros_eq : (Value.agg (b8s (List.replicate 32 0)).toArray).cells.toList = b8s (List.replicate 32 0) := rfl
theorem of (A : Option Addr) (c : Nat) (l : List UInt8) (w : World) (hr : Rd w 1 A 32 (b8s l)) :
    Calls Try.prog 29 #[.slice A 32 c] w fun e w' => e = .returned (.agg (b8s l).toArray) ∧ Fr No w w' := by
  have hl : l.length = 32 := by have := hr.1; rw [b8s_length] at this; omega
  refine enter (N := 16) Try.func29 rfl rfl (by simp) ?_
  refine cseq <| creg <| ?_
  refine nx (x_alloc ti28 fun g1 w1 hg1 hf1 hb1 => ?_)
  refine nend <| qthen <| cseq <| creg <| ?_
  refine nx (x_alloc ti28 fun g2 w2 hg2 hf2 hb2 => ?_)
  rw [zeros_eq] at hb1 hb2
  have hlt := hb1.lt
  refine nend <| qthen <| cseq <| cseq <| creg <| nq (y_assign rfl) <| nend <| qthen <| cblock <| ?_
  refine cloop1 (fun j => 32 - j) (fun j => [(0, .slice A 32 c), (2, .pointer (some ⟨g1, 0, none⟩)), (3, .pointer (some ⟨g2, 0, none⟩)), (4, .int .i64 (j : Nat))]) (fun j w' => j ≤ 32 ∧ Fr No w w' ∧ Blk w' g1 28 (b8s (List.replicate 32 0)) ∧ Blk w' g2 28 (b8s (l.take j ++ (List.replicate 32 0).drop j))) 0 (⟨Nat.zero_le _, hf1.trans0 hf2, hb1.fr0 hf2, hb2⟩) (sub_cons (t := 0) rfl <| sub_cons (t := 2) rfl <| sub_cons (t := 3) rfl <| sub_cons (t := 4) rfl <| sub_nil) (fun j w4 ⟨hj, hf4, i1, i2⟩ => ?_)
  refine cseq <| cseq <| creg <| nq (y_move rfl) <| nq (y_lss rfl rfl) <| nend <| qsub (sub_cons (t := 6) rfl <| sub_cons (t := 0) rfl <| sub_cons (t := 2) rfl <| sub_cons (t := 3) rfl <| sub_cons (t := 4) rfl <| sub_nil) <| qthen <| ?_
  refine cif rfl (fun h => ?_) (fun h => ?_)
  · have ga := b8s_get (l := l) (i := j) (by omega)
    have hlen : (l.take j ++ (List.replicate 32 (0 : UInt8)).drop j).length = 32 := by rw [List.length_append, List.length_take, List.length_drop, List.length_replicate]; omega
    have r4 := hr.fr0 hf4
    refine cskip <| qthen <| cseq <| cblock <| creg <| nq (y_move rfl) <| nq (y_move rfl) <| nq (y_move rfl) <| nq (y_idxS1 rfl rfl Try.underlying22 sz5 r4.2.1 rfl (by omega)) <| nq (y_ld1 rfl ag5 (r4.cell ga)) <| nq (y_idxA1 rfl rfl Try.underlying28 sz5 rfl (by omega)) <| ?_
    refine nx0 (x_st1a rfl rfl sz5 rfl i2 (by rw [b8s_length]; omega) fun w5 hf5 i2' hs5 => ?_)
    rw [Nat.zero_add, ← b8s_set, take_drop_set hl (List.length_replicate ..) (by omega)] at i2'
    refine nend <| qsub (sub_cons (t := 6) rfl <| sub_cons (t := 0) rfl <| sub_cons (t := 2) rfl <| sub_cons (t := 3) rfl <| sub_cons (t := 4) rfl <| sub_nil) <| qblock <| qthen <| creg <| nq (y_move rfl) <| nq (y_add rfl rfl (w64 (by omega) (by omega))) <| nq (y_assign rfl) <| nend <| qsub (sub_cons (t := 4) rfl <| sub_cons (t := 6) rfl <| sub_cons (t := 0) rfl <| sub_cons (t := 2) rfl <| sub_cons (t := 3) rfl <| sub_nil) <| ?_
    refine qloop1 (j + 1) (sub_cons (t := 0) rfl <| sub_cons (t := 2) rfl <| sub_cons (t := 3) rfl <| sub_cons (t := 4) rfl <| sub_nil) (⟨by omega, hf4.new hf5 (fun i hi => by have := hf1.size; omega), i1.fr hf5 (by omega), i2'⟩) (by omega)
  · obtain rfl : j = 32 := by omega
    have e : l.take 32 ++ (List.replicate 32 (0 : UInt8)).drop 32 = l := by
      rw [List.take_of_length_le (by omega), List.drop_of_length_le (by simp)]; simp
    rw [e] at i2
    refine cexit <| qthen_exit <| qthen_exit <| qblock_exit <| qthen <| cseq <| creg <| nq (y_ldN rfl ag28 sz28 ((by rw [b8s_length]; exact hl)) i2.cells0) <| ?_
    refine nx0 (x_stD rfl rfl sz28 hl i1 (by rw [b8s_length]; simp) fun w5 hf5 i1' hs5 => ?_)
    refine nend <| qsub (sub_cons (t := 6) rfl <| sub_cons (t := 0) rfl <| sub_cons (t := 2) rfl <| sub_cons (t := 3) rfl <| sub_cons (t := 4) rfl <| sub_nil) <| qthen <| cret <| ?_
    exact retN trivial rfl rfl ag28 sz28 (by rw [b8s_length]; exact hl) i1'.cells0 ⟨rfl, hf4.new hf5 (fun i hi => by omega)⟩
theorem rdigest (s : List UInt8) (w : World) (hs : s.length ≤ 140737488351232) :
    Calls Try.prog 24 #[.string (strOf s)] w fun e w' => e = .returned (.tuple #[.agg (b8s (digestOf s).1).toArray, .int .i64 (digestOf s).2]) ∧ Fr No w w' := by
  refine enter (N := 21) Try.func24 rfl rfl (by simp) ?_
  refine cseq <| creg <| ?_
  refine nx (x_alloc ti28 fun g1 w1 hg1 hf1 hb1 => ?_)
  rw [zeros_eq] at hb1
  refine nq (y_assign rfl) <| nend <| qthen <| cseq <| creg <| nq (y_move rfl) <| ?_
  refine nx (x_call rfl Try.call19 (rparse s w1 hs) ?_)
  rintro e_ w2 ⟨⟨v, rfl, hv⟩, hf2⟩
  refine ⟨_, rfl, ?_⟩
  have h12 := hb1.fr0 hf2
  have z32 : (b8s (List.replicate 32 (0 : UInt8))).length = 32 := by rw [b8s_length]; simp
  unfold parsed at hv
  split at hv
  · rename_i x hx
    obtain ⟨u, rfl, hu⟩ := hv
    obtain ⟨Au, cu, rfl, hcu⟩ := hu.slice
    have ru := (Own.rd hu).2.2
    have hxl := unhex_length s x hx
    refine nq (y_move rfl) <| nq (y_extract rfl rfl) <| nq (y_extract rfl rfl) <| nq (y_assign rfl) <| nq (y_assign rfl) <| nend <| qsub (sub_cons (t := 5) rfl <| sub_cons (t := 4) rfl <| sub_cons (t := 3) rfl <| sub_cons (t := 2) rfl <| sub_cons (t := 0) rfl <| sub_nil) <| qthen <| cseq <| cseq <| creg <| nq (y_move rfl) <| nq (y_neq rfl rfl) <| nend <| qsub (sub_cons (t := 12) rfl <| sub_cons (t := 5) rfl <| sub_cons (t := 4) rfl <| sub_cons (t := 3) rfl <| sub_cons (t := 2) rfl <| sub_cons (t := 0) rfl <| sub_nil) <| qthen <| ?_
    refine ciff rfl ((decide_eq_false (fun h => h rfl) : decide (¬ (0 : Int) = 0) = false)) ?_
    refine cskip <| qthen <| cseq <| cseq <| creg <| nq (y_move rfl) <| nq (y_lenS rfl Try.underlying22) <| nq (y_neq rfl rfl) <| nend <| qsub (sub_cons (t := 17) rfl <| sub_cons (t := 12) rfl <| sub_cons (t := 5) rfl <| sub_cons (t := 4) rfl <| sub_cons (t := 3) rfl <| sub_cons (t := 2) rfl <| sub_cons (t := 0) rfl <| sub_nil) <| qthen <| ?_
    refine cif rfl (fun h => ?_) (fun h => ?_)
    · refine cseq <| creg <| nq (y_build0 ti28 rfl (by kernel_rfl)) <| ?_
      refine nx0 (x_stD rfl rfl sz28 (List.length_replicate ..) h12 z32 fun w3 hf3 h13 hs3 => ?_)
      refine nq (y_assign rfl) <| nend <| qsub (sub_cons (t := 3) rfl <| sub_cons (t := 17) rfl <| sub_cons (t := 12) rfl <| sub_cons (t := 5) rfl <| sub_cons (t := 4) rfl <| sub_cons (t := 2) rfl <| sub_cons (t := 0) rfl <| sub_nil) <| qthen <| cret <| qthen_ret <| ?_
      refine retN1 trivial rfl rfl rfl ag28 sz28 z32 h13.cells0 ⟨?_, (hf1.trans0 hf2).new hf3 (fun i hi => by omega)⟩
      rw [digestOf, hx]
      simp only
      rw [if_neg (fun e => h (by rw [e]; rfl))]
    · have h32 : x.length = 32 := by omega
      rw [h32] at ru ⊢
      refine cskip <| qthen <| cseq <| creg <| nq (y_move rfl) <| ?_
      refine nx (x_call rfl Try.call29 (of Au cu x _ ru) ?_)
      rintro e_ w3 ⟨rfl, hf3⟩
      refine ⟨_, rfl, ?_⟩
      refine nx0 (x_stD rfl rfl sz28 h32 (h12.fr0 hf3) z32 fun w4 hf4 h14 hs4 => ?_)
      refine nq (y_assign rfl) <| nend <| qsub (sub_cons (t := 3) rfl <| sub_cons (t := 17) rfl <| sub_cons (t := 12) rfl <| sub_cons (t := 5) rfl <| sub_cons (t := 4) rfl <| sub_cons (t := 2) rfl <| sub_cons (t := 0) rfl <| sub_nil) <| qthen <| cret <| ?_
      refine retN1 trivial rfl rfl rfl ag28 sz28 (by rw [b8s_length]; exact h32) h14.cells0 ⟨?_, ((hf1.trans0 hf2).trans0 hf3).new hf4 (fun i hi => by omega)⟩
      rw [digestOf, hx]
      simp only
      rw [if_pos h32]
  · rename_i hx
    subst hv
    refine nq (y_move rfl) <| nq (y_extract rfl rfl) <| nq (y_extract rfl rfl) <| nq (y_assign rfl) <| nq (y_assign rfl) <| nend <| qsub (sub_cons (t := 5) rfl <| sub_cons (t := 4) rfl <| sub_cons (t := 3) rfl <| sub_cons (t := 2) rfl <| sub_cons (t := 0) rfl <| sub_nil) <| qthen <| cseq <| cseq <| creg <| nq (y_move rfl) <| nq (y_neq rfl rfl) <| nend <| qsub (sub_cons (t := 12) rfl <| sub_cons (t := 5) rfl <| sub_cons (t := 4) rfl <| sub_cons (t := 3) rfl <| sub_cons (t := 2) rfl <| sub_cons (t := 0) rfl <| sub_nil) <| qthen <| ?_
    refine cift rfl ((decide_eq_true (by decide) : decide (¬ (2 : Int) = 0) = true)) ?_
    refine cseq <| creg <| nq (y_build0 ti28 rfl (by kernel_rfl)) <| nq (y_move rfl) <| ?_
    refine nx0 (x_stD rfl rfl sz28 (List.length_replicate ..) h12 z32 fun w3 hf3 h13 hs3 => ?_)
    refine nq (y_assign rfl) <| nend <| qsub (sub_cons (t := 3) rfl <| sub_cons (t := 12) rfl <| sub_cons (t := 5) rfl <| sub_cons (t := 4) rfl <| sub_cons (t := 2) rfl <| sub_cons (t := 0) rfl <| sub_nil) <| qthen <| cret <| qthen_ret <| ?_
    refine retN1 trivial rfl rfl rfl ag28 sz28 z32 h13.cells0 ⟨?_, (hf1.trans0 hf2).new hf3 (fun i hi => by omega)⟩
    rw [digestOf, hx]
    rfl
theorem hdigest (s : List UInt8) (w : World) (hs : s.length ≤ 140737488351232) :
    Calls Try.prog 20 #[.string (strOf s)] w fun e w' => e = .returned (.tuple #[.agg (b8s (digestOf s).1).toArray, .int .i64 (digestOf s).2]) ∧ Fr No w w' := by
  refine enter (N := 26) Try.func20 rfl rfl (by simp) ?_
  refine cseq <| creg <| ?_
  refine nx (x_alloc ti28 fun g1 w1 hg1 hf1 hb1 => ?_)
  rw [zeros_eq] at hb1
  refine nq (y_assign rfl) <| nend <| qthen <| cseq <| creg <| nq (y_move rfl) <| ?_
  refine nx (x_call rfl Try.call16 (parse s w1 hs) ?_)
  rintro e_ w2 ⟨⟨v, rfl, hv⟩, hf2⟩
  refine ⟨_, rfl, ?_⟩
  have h12 := hb1.fr0 hf2
  have z32 : (b8s (List.replicate 32 (0 : UInt8))).length = 32 := by rw [b8s_length]; simp
  unfold parsed at hv
  split at hv
  · rename_i x hx
    obtain ⟨u, rfl, hu⟩ := hv
    obtain ⟨Au, cu, rfl, hcu⟩ := hu.slice
    have ru := (Own.rd hu).2.2
    have hxl := unhex_length s x hx
    refine nq (y_move rfl) <| nq (y_extract rfl rfl) <| nq (y_extract rfl rfl) <| nq (y_assign rfl) <| nq (y_assign rfl) <| nend <| qsub (sub_cons (t := 5) rfl <| sub_cons (t := 4) rfl <| sub_cons (t := 3) rfl <| sub_cons (t := 2) rfl <| sub_cons (t := 0) rfl <| sub_nil) <| qthen <| cseq <| cblock <| cseq <| creg <| nq (y_move rfl) <| nq (y_mki rfl Try.underlying34 (fun _ h => by cases h)) <| nq (y_mki rfl Try.underlying34 (fun _ h => by cases h)) <| ?_
    refine nx (x_call rfl Try.call28 (errorsIs 0 2 _) ?_)
    rintro e_ w3 ⟨rfl, rfl⟩
    refine ⟨_, rfl, ?_⟩
    refine nq (y_assign rfl) <| nend <| qsub (sub_cons (t := 11) rfl <| sub_cons (t := 5) rfl <| sub_cons (t := 4) rfl <| sub_cons (t := 3) rfl <| sub_cons (t := 2) rfl <| sub_cons (t := 0) rfl <| sub_nil) <| qthen <| ?_
    refine ciff rfl ((decide_eq_false (by decide) : decide ((0 : Int) = 2) = false)) ?_
    refine cseq <| creg <| nq (y_move rfl) <| nq (y_lenS rfl Try.underlying22) <| nq (y_neq rfl rfl) <| nq (y_assign rfl) <| nend <| qsub (sub_cons (t := 18) rfl <| sub_cons (t := 11) rfl <| sub_cons (t := 5) rfl <| sub_cons (t := 4) rfl <| sub_cons (t := 3) rfl <| sub_cons (t := 2) rfl <| sub_cons (t := 0) rfl <| sub_nil) <| qthen <| ?_
    refine cif rfl (fun h => ?_) (fun h => ?_)
    · refine cseq <| creg <| nq (y_build0 ti28 rfl (by kernel_rfl)) <| ?_
      refine nx0 (x_stD rfl rfl sz28 (List.length_replicate ..) h12 z32 fun w3 hf3 h13 hs3 => ?_)
      refine nq (y_assign rfl) <| nend <| qsub (sub_cons (t := 3) rfl <| sub_cons (t := 18) rfl <| sub_cons (t := 11) rfl <| sub_cons (t := 5) rfl <| sub_cons (t := 4) rfl <| sub_cons (t := 2) rfl <| sub_cons (t := 0) rfl <| sub_nil) <| qthen <| cret <| qblock_ret <| qthen_ret <| ?_
      refine retN1 trivial rfl rfl rfl ag28 sz28 z32 h13.cells0 ⟨?_, (hf1.trans0 hf2).new hf3 (fun i hi => by omega)⟩
      rw [digestOf, hx]
      simp only
      rw [if_neg (fun e => h (by rw [e]; rfl))]
    · have h32 : x.length = 32 := by omega
      rw [h32] at ru ⊢
      obtain ⟨ad, rfl⟩ : ∃ ad, Au = some ad := ⟨_, ru.some (by omega)⟩
      refine cskip <| qblock <| qthen <| cseq <| creg <| nq (y_move rfl) <| nq (y_arrAt rfl Try.underlying28 (by omega)) <| nq (y_ldN rfl ag28 sz28 ((by rw [b8s_length]; exact h32)) ru.2.2) <| ?_
      refine nx0 (x_stD rfl rfl sz28 h32 h12 z32 fun w4 hf4 h14 hs4 => ?_)
      refine nq (y_assign rfl) <| nend <| qsub (sub_cons (t := 3) rfl <| sub_cons (t := 18) rfl <| sub_cons (t := 11) rfl <| sub_cons (t := 5) rfl <| sub_cons (t := 4) rfl <| sub_cons (t := 2) rfl <| sub_cons (t := 0) rfl <| sub_nil) <| qthen <| cret <| ?_
      refine retN1 trivial rfl rfl rfl ag28 sz28 (by rw [b8s_length]; exact h32) h14.cells0 ⟨?_, (hf1.trans0 hf2).new hf4 (fun i hi => by omega)⟩
      rw [digestOf, hx]
      simp only
      rw [if_pos h32]
  · rename_i hx
    subst hv
    refine nq (y_move rfl) <| nq (y_extract rfl rfl) <| nq (y_extract rfl rfl) <| nq (y_assign rfl) <| nq (y_assign rfl) <| nend <| qsub (sub_cons (t := 5) rfl <| sub_cons (t := 4) rfl <| sub_cons (t := 3) rfl <| sub_cons (t := 2) rfl <| sub_cons (t := 0) rfl <| sub_nil) <| qthen <| cseq <| cblock <| cseq <| creg <| nq (y_move rfl) <| nq (y_mki rfl Try.underlying34 (fun _ h => by cases h)) <| nq (y_mki rfl Try.underlying34 (fun _ h => by cases h)) <| ?_
    refine nx (x_call rfl Try.call28 (errorsIs 2 2 _) ?_)
    rintro e_ w3 ⟨rfl, rfl⟩
    refine ⟨_, rfl, ?_⟩
    refine nq (y_assign rfl) <| nend <| qsub (sub_cons (t := 11) rfl <| sub_cons (t := 5) rfl <| sub_cons (t := 4) rfl <| sub_cons (t := 3) rfl <| sub_cons (t := 2) rfl <| sub_cons (t := 0) rfl <| sub_nil) <| qthen <| ?_
    refine cift rfl ((decide_eq_true rfl : decide ((2 : Int) = 2) = true)) ?_
    refine cseq <| creg <| nq (y_build0 ti28 rfl (by kernel_rfl)) <| nq (y_move rfl) <| ?_
    refine nx0 (x_stD rfl rfl sz28 (List.length_replicate ..) h12 z32 fun w3 hf3 h13 hs3 => ?_)
    refine nq (y_assign rfl) <| nend <| qsub (sub_cons (t := 3) rfl <| sub_cons (t := 11) rfl <| sub_cons (t := 5) rfl <| sub_cons (t := 4) rfl <| sub_cons (t := 2) rfl <| sub_cons (t := 0) rfl <| sub_nil) <| qthen <| cret <| qblock_ret <| qthen_ret <| ?_
    refine retN1 trivial rfl rfl rfl ag28 sz28 z32 h13.cells0 ⟨?_, (hf1.trans0 hf2).new hf3 (fun i hi => by omega)⟩
    rw [digestOf, hx]
    rfl
theorem bytes (a : List UInt8) (w : World) (ha : a.length = 32) :
    Calls Try.prog 23 #[.agg (b8s a).toArray] w fun e w' => ∃ v, e = .returned v ∧ Own w' w.heap.size 5 1 v 32 (b8s a) ∧ Fr No w w' := by
  refine enter (N := 16) Try.func23 rfl rfl (by simp) ?_
  refine cseq <| creg <| ?_
  refine nx (x_box rfl fun g1 w1 hg1 hf1 hb1 => ?_)
  rw [cells_agg] at hb1
  refine nq (y_assign rfl) <| nend <| qthen <| cseq <| creg <| nq (y_assign rfl) <| nend <| qthen <| cseq <| cseq <| creg <| nq (y_assign rfl) <| nend <| qthen <| cblock <| ?_
  refine cloop2 (fun k _ => 32 - k) (fun k v => [(1, .pointer (some ⟨g1, 0, none⟩)), (3, v), (4, .int .i64 (k : Nat))]) (fun k v w' => k ≤ 32 ∧ Own w' w1.heap.size 5 1 v k (b8s (a.take k)) ∧ Fr No w1 w') 0 (.slice none 0 0) (⟨Nat.zero_le _, Own.nil w1 w1.heap.size _ 1, Fr.refl _ _⟩) (sub_cons (t := 1) rfl <| sub_cons (t := 3) rfl <| sub_cons (t := 4) rfl <| sub_nil) (fun k v w2 ⟨hk, ho, hf⟩ => ?_)
  refine cseq <| cseq <| creg <| nq (y_move rfl) <| nq (y_lss rfl rfl) <| nend <| qsub (sub_cons (t := 6) rfl <| sub_cons (t := 1) rfl <| sub_cons (t := 3) rfl <| sub_cons (t := 4) rfl <| sub_nil) <| qthen <| ?_
  refine cif rfl (fun h => ?_) (fun h => ?_)
  · have ga := b8s_get (l := a) (i := k) (by omega)
    refine cskip <| qthen <| cseq <| cblock <| creg <| nq (y_move rfl) <| nq (y_move rfl) <| nq (y_idxA1 rfl rfl Try.underlying28 sz5 rfl (by omega)) <| nq (y_ld1 rfl ag5 ((hb1.fr0 hf).cells0 _ _ ga)) <| ?_
    refine nx (x_bsl Try.underlying22 ti5 rfl rfl rfl (by simp [Value.cells, B8]) (by decide) (by decide) fun g w3 hg hf3 hb3 => ?_)
    refine nx (x_app rfl rfl Try.underlying22 Try.underlying22 (by exact .inl rfl) ti5 rfl (ho.fr0 hf3) (Src.of_blk hb3 rfl) (b8s_one (l := [_])) (by unfold maxLen; omega) (by omega) (hf.trans0 hf3).size fun v4 w4 ho4 hf4 hv4 => ?_)
    refine nq (y_assign rfl) <| nend <| qsub (sub_cons (t := 3) rfl <| sub_cons (t := 6) rfl <| sub_cons (t := 1) rfl <| sub_cons (t := 4) rfl <| sub_nil) <| qblock <| qthen <| creg <| nq (y_move rfl) <| nq (y_add rfl rfl (w64 (by omega) (by omega))) <| nq (y_assign rfl) <| nend <| qsub (sub_cons (t := 4) rfl <| sub_cons (t := 3) rfl <| sub_cons (t := 6) rfl <| sub_cons (t := 1) rfl <| sub_nil) <| ?_
    refine qloop2 (k + 1) v4 (sub_cons (t := 1) rfl <| sub_cons (t := 3) rfl <| sub_cons (t := 4) rfl <| sub_nil) (⟨by omega, by rw [take_snoc (by omega), b8s_append]; exact ho4, (hf.trans0 hf3).new hf4 (fun i hi => (ho.from hi).1)⟩) (by omega)
  · obtain rfl : k = 32 := by omega
    refine cexit <| qthen_exit <| qthen_exit <| qblock_exit <| qthen <| cseq <| creg <| nq (y_move rfl) <| nq (y_assign rfl) <| nend <| qsub (sub_cons (t := 2) rfl <| sub_cons (t := 6) rfl <| sub_cons (t := 1) rfl <| sub_cons (t := 3) rfl <| sub_cons (t := 4) rfl <| sub_nil) <| qthen <| cret <| ?_
    rw [List.take_of_length_le (by omega)] at ho
    exact ret1 trivial rfl rfl ⟨v, rfl, ho.wide hf1.size, hf1.trans0 hf⟩
/-- so many bytes, made of any -/
def fill (l : List UInt8) (n : Nat) : List UInt8 := (List.range n).map fun i => l.getD (i % l.length) 0
theorem fill_succ (l : List UInt8) (n : Nat) : fill l (n + 1) = fill l n ++ [l.getD (n % l.length) 0] := by simp [fill, List.range_succ]
theorem fill_length (l : List UInt8) (n : Nat) : (fill l n).length = n := by simp [fill]
theorem fill_c (A : Option Addr) (n c : Nat) (l : List UInt8) (m : Nat) (w : World) (hr : Rd w 1 A n (b8s l)) (hn : n ≤ 140737488351232) (hm : m ≤ 1000000) :
    Calls Try.prog 22 #[.slice A n c, .int .i64 (m : Int)] w fun e w' => ∃ v, e = .returned v ∧ Own w' w.heap.size 5 1 v m (b8s (fill l m)) ∧ Fr No w w' := by
  have hl : l.length = n := by have := hr.1; rw [b8s_length] at this; omega
  refine enter (N := 29) Try.func22 rfl rfl (by simp) ?_
  refine cseq <| creg <| nq (y_assign rfl) <| nend <| qthen <| cseq <| creg <| nq (y_assign rfl) <| nend <| qthen <| cseq <| cseq <| creg <| nq (y_assign rfl) <| nend <| qthen <| cblock <| ?_
  refine cloop2 (fun k _ => m - k) (fun k v => [(0, .slice A n c), (1, .int .i64 (m : Int)), (5, v), (6, .int .i64 (k : Nat))]) (fun k v w' => k ≤ m ∧ Own w' w.heap.size 5 1 v k (b8s (fill l k)) ∧ Fr No w w') 0 (.slice none 0 0) (⟨Nat.zero_le _, Own.nil w w.heap.size _ 1, Fr.refl _ _⟩) (sub_cons (t := 0) rfl <| sub_cons (t := 1) rfl <| sub_cons (t := 5) rfl <| sub_cons (t := 6) rfl <| sub_nil) (fun k v w2 ⟨hk, ho, hf⟩ => ?_)
  refine cseq <| cseq <| creg <| nq (y_move rfl) <| nq (y_move rfl) <| nq (y_lss rfl rfl) <| nend <| qsub (sub_cons (t := 9) rfl <| sub_cons (t := 0) rfl <| sub_cons (t := 1) rfl <| sub_cons (t := 5) rfl <| sub_cons (t := 6) rfl <| sub_nil) <| qthen <| ?_
  refine cif rfl (fun h => ?_) (fun h => ?_)
  · refine cskip <| qthen <| cseq <| cblock <| cseq <| creg <| nq (y_move rfl) <| nq (y_lenS rfl Try.underlying22) <| nq (y_gtr rfl rfl) <| nend <| qsub (sub_cons (t := 14) rfl <| sub_cons (t := 9) rfl <| sub_cons (t := 0) rfl <| sub_cons (t := 1) rfl <| sub_cons (t := 5) rfl <| sub_cons (t := 6) rfl <| sub_nil) <| qthen <| ?_
    refine cif rfl (fun h2 => ?_) (fun h2 => ?_)
    · have hkn : k % n < n := Nat.mod_lt _ (by omega)
      have ga := b8s_get (l := l) (i := k % n) (by omega)
      have r2 := hr.fr0 hf
      refine creg <| nq (y_move rfl) <| nq (y_move rfl) <| nq (y_move rfl) <| nq (y_move rfl) <| nq (y_lenS rfl Try.underlying22) <| nq (y_rem rfl rfl (by omega) (by omega)) <| nq (y_idxS1 rfl rfl Try.underlying22 sz5 r2.2.1 (show ((k % n : Nat) : Int) = _ by omega) (by omega)) <| nq (y_ld1 rfl ag5 (r2.cell ga)) <| ?_
      refine nx (x_bsl Try.underlying22 ti5 rfl rfl rfl (by simp [Value.cells, B8]) (by decide) (by decide) fun g w3 hg hf3 hb3 => ?_)
      refine nx (x_app rfl rfl Try.underlying22 Try.underlying22 (by exact .inl rfl) ti5 rfl (ho.fr0 hf3) (Src.of_blk hb3 rfl) (b8s_one (l := [_])) (by unfold maxLen; omega) (by omega) (hf.trans0 hf3).size fun v4 w4 ho4 hf4 hv4 => ?_)
      refine nq (y_assign rfl) <| nend <| qsub (sub_cons (t := 5) rfl <| sub_cons (t := 14) rfl <| sub_cons (t := 9) rfl <| sub_cons (t := 0) rfl <| sub_cons (t := 1) rfl <| sub_cons (t := 6) rfl <| sub_nil) <| qblock <| qthen <| creg <| nq (y_move rfl) <| nq (y_add rfl rfl (w64 (by omega) (by omega))) <| nq (y_assign rfl) <| nend <| qsub (sub_cons (t := 6) rfl <| sub_cons (t := 5) rfl <| sub_cons (t := 14) rfl <| sub_cons (t := 9) rfl <| sub_cons (t := 0) rfl <| sub_cons (t := 1) rfl <| sub_nil) <| ?_
      refine qloop2 (k + 1) v4 (sub_cons (t := 0) rfl <| sub_cons (t := 1) rfl <| sub_cons (t := 5) rfl <| sub_cons (t := 6) rfl <| sub_nil) (⟨by omega, by rw [fill_succ, b8s_append, hl]; exact ho4, (hf.trans0 hf3).new hf4 (fun i hi => (ho.from hi).1)⟩) (by omega)
    · have h0 : l = [] := List.eq_nil_of_length_eq_zero (by omega)
      refine creg <| nq (y_move rfl) <| ?_
      refine nx (x_bsl Try.underlying22 ti5 rfl rfl rfl (by simp [Value.cells, B8]) (by decide) (by decide) fun g w3 hg hf3 hb3 => ?_)
      refine nx (x_app rfl rfl Try.underlying22 Try.underlying22 (by exact .inl rfl) ti5 rfl (ho.fr0 hf3) (Src.of_blk hb3 rfl) (b8s_one (l := [0])) (by unfold maxLen; omega) (by omega) (hf.trans0 hf3).size fun v4 w4 ho4 hf4 hv4 => ?_)
      refine nq (y_assign rfl) <| nend <| qsub (sub_cons (t := 5) rfl <| sub_cons (t := 14) rfl <| sub_cons (t := 9) rfl <| sub_cons (t := 0) rfl <| sub_cons (t := 1) rfl <| sub_cons (t := 6) rfl <| sub_nil) <| qblock <| qthen <| creg <| nq (y_move rfl) <| nq (y_add rfl rfl (w64 (by omega) (by omega))) <| nq (y_assign rfl) <| nend <| qsub (sub_cons (t := 6) rfl <| sub_cons (t := 5) rfl <| sub_cons (t := 14) rfl <| sub_cons (t := 9) rfl <| sub_cons (t := 0) rfl <| sub_cons (t := 1) rfl <| sub_nil) <| ?_
      refine qloop2 (k + 1) v4 (sub_cons (t := 0) rfl <| sub_cons (t := 1) rfl <| sub_cons (t := 5) rfl <| sub_cons (t := 6) rfl <| sub_nil) (⟨by omega, by rw [fill_succ, b8s_append, h0]; rw [h0] at ho4; exact ho4, (hf.trans0 hf3).new hf4 (fun i hi => (ho.from hi).1)⟩) (by omega)
  · obtain rfl : k = m := by omega
    refine cexit <| qthen_exit <| qthen_exit <| qblock_exit <| qthen <| cseq <| creg <| nq (y_move rfl) <| nq (y_assign rfl) <| nend <| qsub (sub_cons (t := 4) rfl <| sub_cons (t := 9) rfl <| sub_cons (t := 0) rfl <| sub_cons (t := 1) rfl <| sub_cons (t := 5) rfl <| sub_cons (t := 6) rfl <| sub_nil) <| qthen <| cret <| ?_
    exact ret1 trivial rfl rfl ⟨v, rfl, ho, hf⟩
theorem rname (a : List UInt8) (w : World) (ha : a.length = 32) :
    Calls Try.prog 21 #[.agg (b8s a).toArray] w fun e w' => e = .returned (.string (strOf (hexs a))) ∧ Fr No w w' := by
  refine enter (N := 6) Try.func21 rfl rfl (by simp) ?_
  refine cseq <| creg <| ?_
  refine nx (x_box rfl fun g1 w1 hg1 hf1 hb1 => ?_)
  rw [cells_agg] at hb1
  refine nq (y_assign rfl) <| nend <| qthen <| cseq <| creg <| nq (y_ldN rfl ag28 sz28 ((by rw [b8s_length]; exact ha)) hb1.cells0) <| ?_
  refine nx (x_call rfl Try.call23 (bytes a _ ha) ?_)
  rintro e_ w2 ⟨v, rfl, hv, hf2⟩
  refine ⟨_, rfl, ?_⟩
  obtain ⟨Av, cv, rfl, hcv⟩ := hv.slice
  refine nx (x_call rfl Try.call17 (rtext Av _ cv a _ ((Own.rd hv).2.2) (by omega)) ?_)
  rintro e_ w3 ⟨rfl, hf3⟩
  refine ⟨_, rfl, ?_⟩
  refine nq (y_assign rfl) <| nend <| qsub (sub_cons (t := 2) rfl <| sub_cons (t := 1) rfl <| sub_cons (t := 0) rfl <| sub_nil) <| qthen <| cret <| ?_
  exact ret1 trivial rfl rfl ⟨rfl, (hf1.trans0 hf2).trans0 hf3⟩
theorem digestOf_hexs (d : List UInt8) (h : d.length = 32) : digestOf (hexs d) = (d, 0) := by
  rw [digestOf, unhex_hexs]
  simp only
  rw [if_pos h]
theorem hexaDigests (d : List UInt8) (s : ByteArray) (z : Int) (w : World) (hd : d.length = 32) (hs : s.size ≤ maxLen) (hz : -9223372036854775808 ≤ z ∧ z ≤ 9223372036854775807) :
    Calls Try.prog 7 #[.agg (b8s d).toArray, .string s, .int .i64 z] w fun e w' => e = .returned (.bool true) ∧ Fr No w w' := by
  have hd2 := hexs_length d
  have dl : (b8s d).length = 32 := by rw [b8s_length]; exact hd
  have ssz := strOf_size (hexs d)
  refine enter (N := 83) Try.func7 rfl rfl (by simp) ?_
  refine cseq <| creg <| ?_
  refine nx (x_box rfl fun g1 w1 hg1 hf1 hb1 => ?_)
  rw [cells_agg] at hb1
  have hlt := hb1.lt
  refine nq (y_assign rfl) <| nend <| qthen <| cseq <| creg <| nq (y_ldN rfl ag28 sz28 dl hb1.cells0) <| ?_
  refine nx (x_call rfl Try.call15 (name d _ hd) ?_)
  rintro e_ w2 ⟨rfl, hf2⟩
  refine ⟨_, rfl, ?_⟩
  refine nq (y_assign rfl) <| nend <| qsub (sub_cons (t := 7) rfl <| sub_cons (t := 6) rfl <| sub_cons (t := 3) rfl <| sub_cons (t := 0) rfl <| sub_cons (t := 1) rfl <| sub_cons (t := 2) rfl <| sub_nil) <| qthen <| cseq <| creg <| nq (y_move rfl) <| ?_
  refine nx (x_call rfl Try.call20 (hdigest _ w2 (by omega)) ?_)
  rintro e_ w3 ⟨rfl, hf3⟩
  refine ⟨_, rfl, ?_⟩
  rw [digestOf_hexs d hd]
  refine nq (y_move rfl) <| nq (y_extract rfl rfl) <| nq (y_extract rfl rfl) <| ?_
  refine nx (x_alloc ti28 fun g4 w4 hg4 hf4 hb4 => ?_)
  rw [zeros_eq] at hb4
  have z32 : (b8s (List.replicate 32 (0 : UInt8))).length = 32 := by rw [b8s_length]; simp
  have f14 : Fr No w1 w4 := (hf2.trans0 hf3).trans0 hf4
  have s23 := (hf2.trans0 hf3).size
  have s1 := hf1.size
  refine nx0 (x_stD rfl rfl sz28 hd hb4 z32 fun w5 hf5 hb5 hs5 => ?_)
  have f15 : Fr No w1 w5 := f14.new hf5 (fun i hi => by omega)
  have b15 := hb1.fr0 f15
  refine nq (y_assign rfl) <| nend <| qsub (sub_cons (t := 9) rfl <| sub_cons (t := 8) rfl <| sub_cons (t := 7) rfl <| sub_cons (t := 6) rfl <| sub_cons (t := 3) rfl <| sub_cons (t := 0) rfl <| sub_cons (t := 1) rfl <| sub_cons (t := 2) rfl <| sub_nil) <| qthen <| cseq <| cseq <| creg <| nq (y_move rfl) <| nq (y_ldN rfl ag28 sz28 dl b15.cells0) <| ?_
  refine nx (x_call rfl Try.call21 (rname d _ hd) ?_)
  rintro e_ w6 ⟨rfl, hf6⟩
  refine ⟨_, rfl, ?_⟩
  refine nq (yF (y_sne rfl rfl) (decide_eq_false (fun h => h rfl))) <| nq (y_move rfl) <| ng rfl rfl rfl (y_move rfl) <| ng rfl rfl rfl (yF (y_neq rfl rfl) (decide_eq_false (fun h => h rfl))) <| nq (y_pickF rfl rfl) <| nq (y_move rfl) <| ng rfl rfl rfl (y_ldN rfl ag28 sz28 dl ((hb5.fr0 hf6).cells0)) <| ng rfl rfl rfl (y_ldN rfl ag28 sz28 dl ((b15.fr0 hf6).cells0)) <| ng rfl rfl rfl (yF (y_neD28 rfl rfl hd hd) (decide_eq_false (fun h => h rfl))) <| nq (y_pickF rfl rfl) <| nend <| qsub (sub_cons (t := 36) rfl <| sub_cons (t := 9) rfl <| sub_cons (t := 8) rfl <| sub_cons (t := 7) rfl <| sub_cons (t := 6) rfl <| sub_cons (t := 3) rfl <| sub_cons (t := 0) rfl <| sub_cons (t := 1) rfl <| sub_cons (t := 2) rfl <| sub_nil) <| qthen <| ?_
  refine ciff rfl (rfl) ?_
  refine cskip <| qthen <| cseq <| creg <| nq (y_ldN rfl ag28 sz28 dl ((b15.fr0 hf6).cells0)) <| ?_
  refine nx (x_call rfl Try.call23 (bytes d _ hd) ?_)
  rintro e_ w7 ⟨v7, rfl, hv7, hf7⟩
  refine ⟨_, rfl, ?_⟩
  obtain ⟨A7, c7, rfl, hc7⟩ := hv7.slice
  have r7 := (Own.rd hv7).2.2
  refine nq (y_move rfl) <| ?_
  refine nx (x_call rfl Try.call11 (around_c z 5 _ hz.1 hz.2 (by omega)) ?_)
  rintro e_ w8 ⟨rfl, rfl⟩
  refine ⟨_, rfl, ?_⟩
  have har := around_lt z 5 (by omega)
  generalize hq : around z 5 = q at har
  obtain ⟨k, rfl⟩ : ∃ k : Nat, q = k := ⟨q.toNat, by omega⟩
  refine nq (yV (y_add rfl rfl (w64 (by omega) (by omega))) ((show Value.int .i64 (30 + (k : Int)) = .int .i64 ((30 + k : Nat) : Int) by congr 1))) <| ?_
  refine nx (x_call rfl Try.call22 (fill_c A7 32 c7 d (30 + k) _ r7 (by omega) (by omega)) ?_)
  rintro e_ w9 ⟨v9, rfl, hv9, hf9⟩
  refine ⟨_, rfl, ?_⟩
  obtain ⟨A9, c9, rfl, hc9⟩ := hv9.slice
  have r9 := (Own.rd hv9).2.2
  refine nx (x_call rfl Try.call17 (rtext A9 _ c9 _ _ r9 (by omega)) ?_)
  rintro e_ w10 ⟨rfl, hf10⟩
  refine ⟨_, rfl, ?_⟩
  have f10 : Fr No w1 w10 := ((f15.trans0 hf6).trans0 hf7).trans0 (hf9.trans0 hf10)
  refine nq (y_assign rfl) <| nend <| qsub (sub_cons (t := 10) rfl <| sub_cons (t := 36) rfl <| sub_cons (t := 9) rfl <| sub_cons (t := 8) rfl <| sub_cons (t := 7) rfl <| sub_cons (t := 6) rfl <| sub_cons (t := 3) rfl <| sub_cons (t := 0) rfl <| sub_cons (t := 1) rfl <| sub_cons (t := 2) rfl <| sub_nil) <| qthen <| cseq <| creg <| nq (y_move rfl) <| ?_
  refine nx (x_call rfl Try.call18 (short_c (bytesOf s) 70 _) ?_)
  rintro e_ w11 ⟨rfl, rfl⟩
  refine ⟨_, rfl, ?_⟩
  have ssz := strOf_size (hexs d)
  have sz1 : (⟨#[120]⟩ : ByteArray).size = 1 := rfl
  have sz2 : (⟨#[48]⟩ : ByteArray).size = 1 := rfl
  refine nq (y_move rfl) <| nq (y_move rfl) <| nq (yV (y_sadd rfl rfl ((by omega))) (congrArg Value.string (show (⟨#[120]⟩ : ByteArray) ++ strOf (hexs d) = strOf (120 :: hexs d) by rw [show (⟨#[120]⟩ : ByteArray) = strOf [120] from rfl, strOf_append]; rfl))) <| nq (y_move rfl) <| nq (yV (y_sadd rfl rfl ((by omega))) (congrArg Value.string (show strOf (hexs d) ++ (⟨#[48]⟩ : ByteArray) = strOf (hexs d ++ [48]) by rw [show (⟨#[48]⟩ : ByteArray) = strOf [48] from rfl, strOf_append]))) <| ?_
  refine nx (x_bsl Try.underlying39 ti9 rfl rfl rfl (by simp [Value.cells, B8]) (by decide) (by decide) fun g12 w12 hg12 hf12 hb12 => ?_)
  have f12 : Fr No w w12 := hf1.trans0 (f10.trans0 hf12)
  refine nq (y_assign rfl) <| nend <| qsub (sub_cons (t := 11) rfl <| sub_cons (t := 10) rfl <| sub_cons (t := 36) rfl <| sub_cons (t := 9) rfl <| sub_cons (t := 8) rfl <| sub_cons (t := 7) rfl <| sub_cons (t := 6) rfl <| sub_cons (t := 3) rfl <| sub_cons (t := 0) rfl <| sub_cons (t := 1) rfl <| sub_cons (t := 2) rfl <| sub_nil) <| qthen <| cseq <| cseq <| creg <| nq (y_assign rfl) <| nend <| qthen <| cblock <| ?_
  obtain ⟨ss, hgs⟩ : ∃ ss, [(bytesOf s).take 70, hexs (fill d (30 + k)), 120 :: hexs d, hexs d ++ [48]] = ss := ⟨_, rfl⟩
  have hss : ∀ x ∈ ss, x.length ≤ 140737488351232 := by
    subst hgs
    intro x hx
    have hfl := hexs_length (fill d (30 + k))
    rw [fill_length] at hfl
    simp only [List.mem_cons, List.not_mem_nil, or_false] at hx
    rcases hx with rfl | rfl | rfl | rfl <;> first | omega | (simp; done) | (simp; omega)
  have hb : Own w12 w.heap.size 9 1 (.slice (some ⟨g12, 0, none⟩) 4 4) 4 (strs ss) := by
    subst hgs
    exact Own.made hb12 (by have := (hf1.trans0 f10).size; omega) (Nat.le_refl _) (by decide) rfl
  have hl4 : ss.length = 4 := by subst hgs; rfl
  refine cloop1 (fun j => 4 - j) (fun j => [(11, .slice (some ⟨g12, 0, none⟩) 4 4), (12, .int .i64 (j : Nat))]) (fun j w' => j ≤ 4 ∧ Own w' w.heap.size 9 1 (.slice (some ⟨g12, 0, none⟩) 4 4) 4 (strs ss) ∧ Fr No w w') 0 (⟨Nat.zero_le _, hb, f12⟩) (sub_cons (t := 11) rfl <| sub_cons (t := 12) rfl <| sub_nil) (fun j w13 ⟨hj, ho, hf⟩ => ?_)
  refine cseq <| cseq <| creg <| nq (y_move rfl) <| nq (y_move rfl) <| nq (y_lenS rfl Try.underlying39) <| nq (y_lss rfl rfl) <| nend <| qsub (sub_cons (t := 55) rfl <| sub_cons (t := 11) rfl <| sub_cons (t := 12) rfl <| sub_nil) <| qthen <| ?_
  refine cif rfl (fun h => ?_) (fun h => ?_)
  · have hjn : j < ss.length := by omega
    have hget : (strs ss)[j]? = some (.string (strOf (ss.getD j []))) := by
      simp only [strs, List.getElem?_map, List.getElem?_eq_getElem hjn, List.getD, Option.map_some, Option.getD_some]
    have hlen : (ss.getD j []).length ≤ 140737488351232 := by
      rw [List.getD, List.getElem?_eq_getElem hjn]
      exact hss _ (List.getElem_mem hjn)
    generalize ss.getD j [] = sj at hget hlen
    have ro := (Own.rd ho).2.2
    have dgl := digestOf_length sj
    refine cskip <| qthen <| cseq <| cblock <| cseq <| creg <| nq (y_move rfl) <| nq (y_move rfl) <| nq (y_idxS1 rfl rfl Try.underlying39 sz9 ro.2.1 rfl (by omega)) <| nq (y_ld1 rfl ag9 (ro.cell hget)) <| ?_
    refine nx (x_call rfl Try.call20 (hdigest _ _ hlen) ?_)
    rintro e_ w14 ⟨rfl, hf14⟩
    refine ⟨_, rfl, ?_⟩
    have ro14 := ro.fr0 hf14
    have s14 := (hf.trans0 hf14).size
    refine nq (y_move rfl) <| nq (y_extract rfl rfl) <| nq (y_extract rfl rfl) <| ?_
    refine nx (x_alloc ti28 fun g15 w15 hg15 hf15 hb15 => ?_)
    rw [zeros_eq] at hb15
    refine nx0 (x_stD rfl rfl sz28 dgl hb15 z32 fun w16 hf16 hb16 hs16 => ?_)
    have f16 : Fr No w14 w16 := hf15.new hf16 (fun i hi => by omega)
    have ro16 := ro14.fr0 f16
    have s16 := f16.size
    refine nq (y_assign rfl) <| nend <| qsub (sub_cons (t := 14) rfl <| sub_cons (t := 13) rfl <| sub_cons (t := 55) rfl <| sub_cons (t := 11) rfl <| sub_cons (t := 12) rfl <| sub_nil) <| qthen <| cseq <| creg <| nq (y_move rfl) <| nq (y_move rfl) <| nq (y_idxS1 rfl rfl Try.underlying39 sz9 ro16.2.1 rfl (by omega)) <| nq (y_ld1 rfl ag9 (ro16.cell hget)) <| ?_
    refine nx (x_call rfl Try.call24 (rdigest _ _ hlen) ?_)
    rintro e_ w17 ⟨rfl, hf17⟩
    refine ⟨_, rfl, ?_⟩
    have s17 := hf17.size
    refine nq (y_move rfl) <| nq (y_extract rfl rfl) <| nq (y_extract rfl rfl) <| ?_
    refine nx (x_alloc ti28 fun g18 w18 hg18 hf18 hb18 => ?_)
    rw [zeros_eq] at hb18
    refine nx0 (x_stD rfl rfl sz28 dgl hb18 z32 fun w19 hf19 hb19 hs19 => ?_)
    have f19 : Fr No w17 w19 := hf18.new hf19 (fun i hi => by omega)
    have b16 := (hb16.fr0 hf17).fr0 f19
    have dgl' : (b8s (digestOf sj).1).length = 32 := by rw [b8s_length]; exact dgl
    refine nq (y_assign rfl) <| nend <| qsub (sub_cons (t := 16) rfl <| sub_cons (t := 15) rfl <| sub_cons (t := 14) rfl <| sub_cons (t := 13) rfl <| sub_cons (t := 55) rfl <| sub_cons (t := 11) rfl <| sub_cons (t := 12) rfl <| sub_nil) <| qthen <| cseq <| creg <| nq (y_ldN rfl ag28 sz28 dgl' b16.cells0) <| nq (y_ldN rfl ag28 sz28 dgl' hb19.cells0) <| nq (yF (y_neD28 rfl rfl dgl dgl) (decide_eq_false (fun h => h rfl))) <| nq (y_move rfl) <| ng rfl rfl rfl (y_move rfl) <| ng rfl rfl rfl (y_move rfl) <| ng rfl rfl rfl (yF (y_neq rfl rfl) (decide_eq_false (fun h => h rfl))) <| nq (y_pickF rfl rfl) <| nend <| qsub (sub_cons (t := 81) rfl <| sub_cons (t := 16) rfl <| sub_cons (t := 15) rfl <| sub_cons (t := 14) rfl <| sub_cons (t := 13) rfl <| sub_cons (t := 55) rfl <| sub_cons (t := 11) rfl <| sub_cons (t := 12) rfl <| sub_nil) <| qthen <| ?_
    refine ciff rfl (rfl) ?_
    refine cskip <| qblock <| qthen <| creg <| nq (y_move rfl) <| nq (y_add rfl rfl (w64 (by omega) (by omega))) <| nq (y_assign rfl) <| nend <| qsub (sub_cons (t := 12) rfl <| sub_cons (t := 81) rfl <| sub_cons (t := 16) rfl <| sub_cons (t := 15) rfl <| sub_cons (t := 14) rfl <| sub_cons (t := 13) rfl <| sub_cons (t := 55) rfl <| sub_cons (t := 11) rfl <| sub_nil) <| ?_
    refine qloop1 (j + 1) (sub_cons (t := 11) rfl <| sub_cons (t := 12) rfl <| sub_nil) (⟨by omega, (((ho.fr0 hf14).fr0 f16).fr0 hf17).fr0 f19, ((((hf.trans0 hf14).trans0 f16).trans0 hf17).trans0 f19)⟩) (by omega)
  · refine cexit <| qthen_exit <| qthen_exit <| qblock_exit <| qthen <| cseq <| creg <| ?_
    refine nx (x_call rfl Try.call10 (lives1 _) ?_)
    rintro e_ w14 ⟨rfl, hf14⟩
    refine ⟨_, rfl, ?_⟩
    refine nq (y_assign rfl) <| nend <| qsub (sub_cons (t := 6) rfl <| sub_cons (t := 55) rfl <| sub_cons (t := 11) rfl <| sub_cons (t := 12) rfl <| sub_nil) <| qthen <| cret <| ?_
    exact ret1 trivial rfl rfl ⟨rfl, hf.trans0 hf14⟩
end Go.Proofs.Ytkicnomekojafaa
