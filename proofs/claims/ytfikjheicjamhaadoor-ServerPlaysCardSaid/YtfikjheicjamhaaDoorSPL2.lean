/- What the claim leans on, part 2. -/
import Derived.Test.YtfikjheicjamhaaDoorSPL1
import Derived.Test.YtfikjheicjamhaaDoorRows
import Derived.ProofKit
import Derived.LaidMore
import Derived.OpenShut
import Derived.MakeChecks
import Derived.LaidHandle
import Derived.LaidLaws
import Derived.Lib.BytesEntry
import Derived.Laws.BitsAllLaws
import Derived.Test.YtfikjheicjamhaaDoorProg
import Derived.Conc.MuLib
import Derived.KernelRfl
section
/- Contracts: the check sum, of the program and of the reference. -/
set_option linter.unusedVariables false
set_option linter.unusedSimpArgs false
set_option maxRecDepth 20000
namespace Go.Proofs.YtfikjheicjamhaaDoor
open Go.Eng Go.Hx
theorem crcStep (g : Nat) (bt : TypeId) (x : Nat) (hx : x < 4294967296) (w : World) (hb : Blk w g bt [.int .u32 (x : Int)]) :
    Calls Tryd.prog 184 #[.pointer (some ⟨g, 0, none⟩)] w fun e w' => e = .returned (.tuple #[]) ∧ Fr (fun i => i = g) w w' ∧ Blk w' g bt [.int .u32 (cstep x : Nat)] := by
  have hc : w.cell? ⟨g, 0, none⟩ = some (.int .u32 (x : Int)) := hb.cell rfl
  have h3 : (0 : Int) ≤ 2197175160 * ((x % 2 : Nat) : Int) ∧ 2197175160 * ((x % 2 : Nat) : Int) < 4294967296 := by omega
  refine enter (N := 9) Tryd.func184 rfl rfl (by simp) ?_
  refine cseq <| creg <| nq (y_ld1 rfl ag120 hc) <| nq (y_bits (by simp) rfl rfl (and1 x hx)) <| nq (y_assign rfl) <| nend <| qsub (sub_cons (t := 1) rfl <| sub_cons (t := 0) rfl <| sub_nil) <| qthen <| creg <| nq (y_ld1 rfl ag120 hc) <| nq (y_shr (p := 2) rfl rfl (by decide) (by decide) (by decide)) <| nq (y_move rfl) <| nq (y_mul rfl rfl (w32 h3.1 h3.2)) <| nq (y_bits (by simp) rfl rfl (xor_step x hx)) <| ?_
  refine nx0 (x_st1 rfl rfl sz120 rfl hb (by simp) fun w1 hf1 hb1 hs1 => ?_)
  refine nend <| qsub (sub_cons (t := 1) rfl <| sub_cons (t := 0) rfl <| sub_nil) <| ?_
  exact ret0 trivial rfl ⟨rfl, hf1, hb1⟩
theorem crcSteps (x n : Nat) (hx : x < 4294967296) (hn : n ≤ 1000000) (w : World) :
    Calls Tryd.prog 169 #[.int .u32 (x : Int), .int .i64 (n : Int)] w fun e w' => e = .returned (.int .u32 (csteps n x : Nat)) ∧ Fr No w w' := by
  refine enter (N := 14) Tryd.func169 rfl rfl (by simp) ?_
  refine cseq <| creg <| ?_
  refine nx (x_box rfl fun g w1 hg hf1 hb1 => ?_)
  refine nq (y_assign rfl) <| nend <| qthen <| cseq <| creg <| nq (y_mkf rfl rfl) <| nq (y_assign rfl) <| nend <| qsub (sub_cons (t := 5) rfl <| sub_cons (t := 4) rfl <| sub_cons (t := 2) rfl <| sub_cons (t := 0) rfl <| sub_cons (t := 1) rfl <| sub_nil) <| qthen <| cseq <| cseq <| creg <| nq (y_move rfl) <| nq (y_move rfl) <| nend <| qthen <| cblock <| ?_
  refine cloop1 (fun k => n - k) (fun k => [(2, .pointer (some ⟨g, 0, none⟩)), (5, .func (.func 184) #[] #[.pointer (some ⟨g, 0, none⟩)]), (7, .int .i64 (n : Int)), (8, .int .i64 (k : Nat))]) (fun k w' => k ≤ n ∧ Fr No w w' ∧ Blk w' g 120 [.int .u32 (csteps k x : Nat)]) 0 (⟨Nat.zero_le _, hf1, hb1⟩) (sub_cons (t := 2) rfl <| sub_cons (t := 5) rfl <| sub_cons (t := 7) rfl <| sub_cons (t := 8) rfl <| sub_nil) (fun k w2 ⟨hk, hf2, hb2⟩ => ?_)
  refine cseq <| creg <| nq (y_lss rfl rfl) <| nend <| qthen <| cseq <| ?_
  refine cif rfl (fun h => ?_) (fun h => ?_)
  · refine cskip <| qthen <| cseq <| cblock <| creg <| nq (y_move rfl) <| ?_
    refine nx (x_callv rfl rfl Tryd.call184 (first := []) (cap := [_]) (crcStep g _ _ (csteps_lt hx k) _ hb2) ?_)
    rintro e_ w3 ⟨rfl, hf3, hb3⟩
    refine ⟨_, rfl, ?_⟩
    refine nend <| qsub (sub_cons (t := 9) rfl <| sub_cons (t := 2) rfl <| sub_cons (t := 5) rfl <| sub_cons (t := 7) rfl <| sub_cons (t := 8) rfl <| sub_nil) <| qblock <| qthen <| creg <| nq (y_add rfl rfl (w64 (by omega) (by omega))) <| nq (y_move rfl) <| nend <| qsub (sub_cons (t := 8) rfl <| sub_cons (t := 9) rfl <| sub_cons (t := 2) rfl <| sub_cons (t := 5) rfl <| sub_cons (t := 7) rfl <| sub_nil) <| ?_
    refine qloop1 (k + 1) (sub_cons (t := 2) rfl <| sub_cons (t := 5) rfl <| sub_cons (t := 7) rfl <| sub_cons (t := 8) rfl <| sub_nil) (⟨by omega, hf2.new hf3 (fun i hi => by omega), hb3⟩) (by omega)
  · obtain rfl : k = n := by omega
    refine cexit <| qthen_exit <| qthen_exit <| qblock_exit <| qthen <| cseq <| creg <| nq (y_ld1 rfl ag120 ((hb2.cell rfl))) <| nq (y_assign rfl) <| nend <| qsub (sub_cons (t := 4) rfl <| sub_cons (t := 9) rfl <| sub_cons (t := 2) rfl <| sub_cons (t := 5) rfl <| sub_cons (t := 7) rfl <| sub_cons (t := 8) rfl <| sub_nil) <| qthen <| cret <| ?_
    exact ret1 trivial rfl rfl ⟨rfl, hf2⟩
theorem crcMore (A : Option Addr) (n c : Nat) (l : List UInt8) (s : Nat) (hs : s < 4294967296) (w : World) (hr : Rd w 1 A n (b8s l)) (hn : n ≤ 140737488351232) :
    Calls Tryd.prog 146 #[.int .u32 (s : Int), .slice A n c] w fun e w' => e = .returned (.int .u32 (4294967295 - cmore (4294967295 - s) l : Nat)) ∧ Fr No w w' := by
  have hl : l.length = n := by have := hr.1; rw [b8s_length] at this; omega
  refine enter (N := 25) Tryd.func146 rfl rfl (by simp) ?_
  refine cseq <| creg <| nq (y_assign rfl) <| nend <| qthen <| cseq <| creg <| nq (y_move rfl) <| nq (yV (y_inv32 rfl hs) (congrArg (fun n : Nat => Value.int .u32 (n : Int)) (xor_ones hs))) <| nq (y_assign rfl) <| nend <| qsub (sub_cons (t := 5) rfl <| sub_cons (t := 4) rfl <| sub_cons (t := 0) rfl <| sub_cons (t := 1) rfl <| sub_nil) <| qthen <| cseq <| cseq <| creg <| nq (y_move rfl) <| nq (y_lenS rfl Tryd.underlying32) <| nq (y_move rfl) <| nend <| qsub (sub_cons (t := 11) rfl <| sub_cons (t := 10) rfl <| sub_cons (t := 5) rfl <| sub_cons (t := 4) rfl <| sub_cons (t := 0) rfl <| sub_cons (t := 1) rfl <| sub_nil) <| qthen <| cblock <| ?_
  refine cloop1 (fun k => n - k) (fun k => [(1, .slice A n c), (5, .int .u32 (cmore (4294967295 - s) (l.take k) : Nat)), (10, .int .i64 (n : Int)), (11, .int .i64 (k : Nat))]) (fun k w' => k ≤ n ∧ Fr No w w') 0 (⟨Nat.zero_le _, Fr.refl _ _⟩) (sub_cons (t := 1) rfl <| sub_cons (t := 5) rfl <| sub_cons (t := 10) rfl <| sub_cons (t := 11) rfl <| sub_nil) (fun k w2 ⟨hk, hf2⟩ => ?_)
  refine cseq <| creg <| nq (y_lss rfl rfl) <| nend <| qthen <| cseq <| ?_
  refine cif rfl (fun h => ?_) (fun h => ?_)
  · have hkn : k < l.length := by omega
    have hm := cmore_lt (n := 4294967295 - s) (by omega) (l.take k)
    have hbt := (l.getD k 0).toNat_lt
    have r2 := hr.fr0 hf2
    refine cskip <| qthen <| cseq <| cblock <| cseq <| creg <| nq (y_move rfl) <| nq (y_assign rfl) <| nend <| qsub (sub_cons (t := 6) rfl <| sub_cons (t := 12) rfl <| sub_cons (t := 1) rfl <| sub_cons (t := 5) rfl <| sub_cons (t := 10) rfl <| sub_cons (t := 11) rfl <| sub_nil) <| qthen <| creg <| nq (y_move rfl) <| nq (y_move rfl) <| nq (y_move rfl) <| nq (y_idxS1 rfl rfl Tryd.underlying32 sz5 r2.2.1 rfl (by omega)) <| nq (y_ld1 rfl ag5 (r2.cell (b8s_get hkn))) <| nq (y_conv rfl Tryd.underlying5 Tryd.underlying120 ((w32 (by omega) (by omega)))) <| nq (y_bits (by simp) rfl rfl (xor_byte _ hm _)) <| ?_
    refine nx (x_call rfl Tryd.call169 (crcSteps _ 8 (xor_byte_lt hm _) (by decide) _) ?_)
    rintro e_ w3 ⟨rfl, hf3⟩
    refine ⟨_, rfl, ?_⟩
    rw [← cmore_snoc, ← Go.Hx.take_snoc hkn]
    refine nq (y_assign rfl) <| nend <| qsub (sub_cons (t := 5) rfl <| sub_cons (t := 6) rfl <| sub_cons (t := 12) rfl <| sub_cons (t := 1) rfl <| sub_cons (t := 10) rfl <| sub_cons (t := 11) rfl <| sub_nil) <| qblock <| qthen <| creg <| nq (y_add rfl rfl (w64 (by omega) (by omega))) <| nq (y_move rfl) <| nend <| qsub (sub_cons (t := 11) rfl <| sub_cons (t := 5) rfl <| sub_cons (t := 6) rfl <| sub_cons (t := 12) rfl <| sub_cons (t := 1) rfl <| sub_cons (t := 10) rfl <| sub_nil) <| ?_
    refine qloop1 (k + 1) (sub_cons (t := 1) rfl <| sub_cons (t := 5) rfl <| sub_cons (t := 10) rfl <| sub_cons (t := 11) rfl <| sub_nil) (⟨by omega, hf2.trans0 hf3⟩) (by omega)
  · obtain rfl : k = n := by omega
    have hm := cmore_lt (n := 4294967295 - s) (by omega) (l.take k)
    refine cexit <| qthen_exit <| qthen_exit <| qblock_exit <| qthen <| cseq <| creg <| nq (y_move rfl) <| nq (y_inv32 rfl hm) <| nq (y_assign rfl) <| nend <| qsub (sub_cons (t := 4) rfl <| sub_cons (t := 12) rfl <| sub_cons (t := 1) rfl <| sub_cons (t := 5) rfl <| sub_cons (t := 10) rfl <| sub_cons (t := 11) rfl <| sub_nil) <| qthen <| cret <| ?_
    rw [List.take_of_length_le (by omega)] at hm ⊢
    rw [xor_ones hm]
    exact ret1 trivial rfl rfl ⟨rfl, hf2⟩
theorem crcSum_c (A : Option Addr) (n c : Nat) (l : List UInt8) (w : World) (hr : Rd w 1 A n (b8s l)) (hn : n ≤ 140737488351232) :
    Calls Tryd.prog 117 #[.slice A n c] w fun e w' => e = .returned (.int .u32 (crcSum l : Nat)) ∧ Fr No w w' := by
  refine enter (N := 5) Tryd.func117 rfl rfl (by simp) ?_
  refine cseq <| creg <| nq (y_assign rfl) <| nend <| qthen <| cseq <| creg <| nq (y_move rfl) <| ?_
  refine nx (x_call rfl Tryd.call146 (crcMore A n c l 0 (by decide) w hr hn) ?_)
  rintro e_ w1 ⟨rfl, hf1⟩
  refine ⟨_, rfl, ?_⟩
  refine nq (y_assign rfl) <| nend <| qsub (sub_cons (t := 2) rfl <| sub_cons (t := 0) rfl <| sub_nil) <| qthen <| cret <| ?_
  exact ret1 trivial rfl rfl ⟨rfl, hf1⟩
theorem clone (A : Option Addr) (n c : Nat) (l : List UInt8) (w : World) (hr : Rd w 1 A n (b8s l)) (hn : n ≤ 140737488351232) :
    Calls Tryd.prog 108 #[.slice A n c] w fun e w' => ∃ v, e = .returned v ∧ Go.Eng.Own w' w.heap.size 5 1 v n (b8s l) ∧ Fr No w w' := by
  have hl : l.length = n := by have := hr.1; rw [b8s_length] at this; omega
  refine enter (N := 8) Tryd.func108 rfl rfl (by simp) ?_
  refine cseq <| creg <| nq (y_assign rfl) <| nend <| qthen <| cseq <| cseq <| creg <| nq (y_move rfl) <| nq (y_eqSn rfl rfl Tryd.underlying32) <| nend <| qsub (sub_cons (t := 4) rfl <| sub_cons (t := 2) rfl <| sub_cons (t := 0) rfl <| sub_nil) <| qthen <| ?_
  cases A with
  | none =>
    have h0 : n = 0 := by
      rcases Nat.eq_zero_or_pos n with h | h
      · exact h
      · exact absurd rfl (hr.2.1 h)
    subst h0
    obtain rfl : l = [] := List.eq_nil_of_length_eq_zero hl
    refine cift rfl (rfl) ?_
    refine cseq <| creg <| nq (y_assign rfl) <| nend <| qthen <| cret <| qthen_ret <| ?_
    exact ret1 trivial rfl rfl ⟨_, rfl, Own.nil _ _ _ _, Fr.refl _ _⟩
  | some a =>
    refine ciff rfl (rfl) ?_
    refine cskip <| qthen <| cseq <| creg <| ?_
    refine nx (x_bsl0 Tryd.underlying32 ti5 fun g w1 hg hf1 hb1 => ?_)
    refine nq (y_move rfl) <| ?_
    refine nx (x_app rfl rfl Tryd.underlying32 Tryd.underlying32 (by exact .inl rfl) ti5 rfl (Own.made0 hb1 hg) (Src.of_rd (hr.fr0 hf1)) b8s_oneCell (by unfold maxLen; omega) (by omega) hf1.size fun v w2 ho hf2 hv => ?_)
    refine nq (y_assign rfl) <| nend <| qsub (sub_cons (t := 2) rfl <| sub_cons (t := 4) rfl <| sub_cons (t := 0) rfl <| sub_nil) <| qthen <| cret <| ?_
    refine ret1 trivial rfl rfl ⟨v, rfl, ?_, hf1.new hf2 (fun i hi => by have : i = g := hi; omega)⟩
    simpa using ho
theorem crcPut (A : Option Addr) (n c : Nat) (l : List UInt8) (w : World) (hr : Rd w 1 A n (b8s l)) (hn : n ≤ 70368744177664) :
    Calls Tryd.prog 62 #[.slice A n c] w fun e w' => ∃ v, e = .returned v ∧ Go.Eng.Own w' w.heap.size 5 1 v (n + 4) (b8s (putL l)) ∧ Fr No w w' := by
  have hl : l.length = n := by have := hr.1; rw [b8s_length] at this; omega
  refine enter (N := 20) Tryd.func62 rfl rfl (by simp) ?_
  refine cseq <| creg <| nq (y_assign rfl) <| nend <| qthen <| cseq <| creg <| nq (y_move rfl) <| ?_
  refine nx (x_call rfl Tryd.call117 (crcSum_c A n c l w hr (by omega)) ?_)
  rintro e_ w1 ⟨rfl, hf1⟩
  refine ⟨_, rfl, ?_⟩
  refine nq (y_assign rfl) <| nend <| qsub (sub_cons (t := 3) rfl <| sub_cons (t := 2) rfl <| sub_cons (t := 0) rfl <| sub_nil) <| qthen <| cseq <| creg <| nq (y_move rfl) <| ?_
  refine nx (x_call rfl Tryd.call108 (clone A n c l w1 (hr.fr0 hf1) (by omega)) ?_)
  rintro e_ w2 ⟨v, rfl, hv, hf2⟩
  refine ⟨_, rfl, ?_⟩
  have hlt := crcSum_lt l
  have hv := hv.wide (b := w.heap.size) hf1.size
  refine nq (y_assign rfl) <| nend <| qsub (sub_cons (t := 4) rfl <| sub_cons (t := 3) rfl <| sub_cons (t := 2) rfl <| sub_cons (t := 0) rfl <| sub_nil) <| qthen <| cseq <| cseq <| creg <| nq (y_move rfl) <| nend <| qthen <| cblock <| ?_
  refine cloop2 (fun k _ => 4 - k) (fun k v => [(3, .int .u32 (shr8 k (crcSum l) : Nat)), (4, v), (9, .int .i64 (k : Nat))]) (fun k v w' => k ≤ 4 ∧ Go.Eng.Own w' w.heap.size 5 1 v (n + k) (b8s (l ++ lek k (crcSum l))) ∧ Fr No w w') 0 v (⟨Nat.zero_le _, by simpa [lek] using hv, hf1.trans0 hf2⟩) (sub_cons (t := 3) rfl <| sub_cons (t := 4) rfl <| sub_cons (t := 9) rfl <| sub_nil) (fun k v w3 ⟨hk, ho, hf⟩ => ?_)
  refine cseq <| creg <| nq (y_lss rfl rfl) <| nend <| qthen <| cseq <| ?_
  refine cif rfl (fun h => ?_) (fun h => ?_)
  · have hs8 := shr8_lt hlt k
    refine cskip <| qthen <| cseq <| cblock <| cseq <| creg <| nq (y_move rfl) <| nq (y_move rfl) <| nq (y_conv rfl Tryd.underlying120 Tryd.underlying5 ((u8mod _))) <| ?_
    refine nx (x_bsl Tryd.underlying32 ti5 rfl rfl rfl (by simp [Value.cells, B8]) (by decide) (by decide) fun g w4 hg hf4 hb4 => ?_)
    refine nx (x_app rfl rfl Tryd.underlying32 Tryd.underlying32 (by exact .inl rfl) ti5 rfl (ho.fr0 hf4) (Src.of_blk hb4 rfl) (b8s_one (l := [_])) (by unfold maxLen; omega) (by omega) (hf.trans0 hf4).size fun v5 w5 ho5 hf5 hv5 => ?_)
    refine nq (y_assign rfl) <| nend <| qsub (sub_cons (t := 4) rfl <| sub_cons (t := 10) rfl <| sub_cons (t := 3) rfl <| sub_cons (t := 9) rfl <| sub_nil) <| qthen <| creg <| nq (y_move rfl) <| nq (y_shr (p := 256) rfl rfl (by decide) (by decide) (by decide)) <| nq (y_assign rfl) <| nend <| qsub (sub_cons (t := 3) rfl <| sub_cons (t := 4) rfl <| sub_cons (t := 10) rfl <| sub_cons (t := 9) rfl <| sub_nil) <| qblock <| qthen <| creg <| nq (y_add rfl rfl (w64 (by omega) (by omega))) <| nq (y_move rfl) <| nend <| qsub (sub_cons (t := 9) rfl <| sub_cons (t := 3) rfl <| sub_cons (t := 4) rfl <| sub_cons (t := 10) rfl <| sub_nil) <| ?_
    refine qloop2 (k + 1) v5 (sub_cons (t := 3) rfl <| sub_cons (t := 4) rfl <| sub_cons (t := 9) rfl <| sub_nil) (⟨by omega, by rw [lek_succ, ← List.append_assoc, b8s_append]; exact ho5, (hf.trans0 hf4).new hf5 (fun i hi => (ho.from hi).1)⟩) (by omega)
  · obtain rfl : k = 4 := by omega
    refine cexit <| qthen_exit <| qthen_exit <| qblock_exit <| qthen <| cseq <| creg <| nq (y_move rfl) <| nq (y_assign rfl) <| nend <| qsub (sub_cons (t := 2) rfl <| sub_cons (t := 10) rfl <| sub_cons (t := 3) rfl <| sub_cons (t := 4) rfl <| sub_cons (t := 9) rfl <| sub_nil) <| qthen <| cret <| ?_
    rw [lek_four] at ho
    exact ret1 trivial rfl rfl ⟨v, rfl, ho, hf⟩
theorem rcrcMore (A : Option Addr) (n c : Nat) (l : List UInt8) (s : Nat) (hs : s < 4294967296) (w : World) (hr : Rd w 1 A n (b8s l)) (hn : n ≤ 140737488351232) :
    Calls Tryd.prog 66 #[.int .u32 (s : Int), .slice A n c] w fun e w' => e = .returned (.int .u32 (4294967295 - cmore (4294967295 - s) l : Nat)) ∧ w = w' := by
  have hl : l.length = n := by have := hr.1; rw [b8s_length] at this; omega
  refine enter (N := 37) Tryd.func66 rfl rfl (by simp) ?_
  refine cseq <| creg <| nq (y_assign rfl) <| nend <| qthen <| cseq <| creg <| nq (y_move rfl) <| nq (y_sub rfl rfl ((show IntKind.u32.wrap (4294967295 - (s : Int)) = ((4294967295 - s : Nat) : Int) by rw [w32 (by omega) (by omega)]; omega))) <| nq (y_assign rfl) <| nend <| qsub (sub_cons (t := 5) rfl <| sub_cons (t := 4) rfl <| sub_cons (t := 0) rfl <| sub_cons (t := 1) rfl <| sub_nil) <| qthen <| cseq <| cseq <| creg <| nq (y_assign rfl) <| nend <| qthen <| cblock <| ?_
  refine cloop1 (fun k => n - k) (fun k => [(1, .slice A n c), (5, .int .u32 (cmore (4294967295 - s) (l.take k) : Nat)), (6, .int .i64 (k : Nat))]) (fun k w' => k ≤ n ∧ w = w') 0 (⟨Nat.zero_le _, rfl⟩) (sub_cons (t := 1) rfl <| sub_cons (t := 5) rfl <| sub_cons (t := 6) rfl <| sub_nil) (fun k w2 ⟨hk, hw⟩ => ?_)
  obtain rfl := hw
  refine cseq <| cseq <| creg <| nq (y_move rfl) <| nq (y_move rfl) <| nq (y_lenS rfl Tryd.underlying32) <| nq (y_lss rfl rfl) <| nend <| qsub (sub_cons (t := 13) rfl <| sub_cons (t := 1) rfl <| sub_cons (t := 5) rfl <| sub_cons (t := 6) rfl <| sub_nil) <| qthen <| ?_
  refine cif rfl (fun h => ?_) (fun h => ?_)
  · have hkn : k < l.length := by omega
    have hm := cmore_lt (n := 4294967295 - s) (by omega) (l.take k)
    have hbt := (l.getD k 0).toNat_lt
    have hx := xor_byte_lt hm (l.getD k 0)
    refine cskip <| qthen <| cseq <| cblock <| cseq <| creg <| nq (y_move rfl) <| nq (y_move rfl) <| nq (y_move rfl) <| nq (y_idxS1 rfl rfl Tryd.underlying32 sz5 hr.2.1 rfl (by omega)) <| nq (y_ld1 rfl ag5 (hr.cell (b8s_get hkn))) <| nq (y_conv rfl Tryd.underlying5 Tryd.underlying120 ((w32 (by omega) (by omega)))) <| nq (y_bits (by simp) rfl rfl (xor_byte _ hm _)) <| nq (y_assign rfl) <| nend <| qsub (sub_cons (t := 5) rfl <| sub_cons (t := 13) rfl <| sub_cons (t := 1) rfl <| sub_cons (t := 6) rfl <| sub_nil) <| qthen <| cseq <| creg <| nq (y_assign rfl) <| nend <| qthen <| cblock <| ?_
    generalize hX : cmore (4294967295 - s) (l.take k) ^^^ (l.getD k 0).toNat = X at hx
    refine cloop1 (fun q => 8 - q) (fun q => [(1, .slice A n c), (5, .int .u32 (csteps q X : Nat)), (6, .int .i64 (k : Nat)), (7, .int .i64 (q : Nat))]) (fun q w' => q ≤ 8 ∧ w = w') 0 (⟨Nat.zero_le _, rfl⟩) (sub_cons (t := 1) rfl <| sub_cons (t := 5) rfl <| sub_cons (t := 6) rfl <| sub_cons (t := 7) rfl <| sub_nil) (fun q w3 ⟨hq, hw⟩ => ?_)
    obtain rfl := hw
    have hc := csteps_lt hx q
    refine cseq <| cseq <| creg <| nq (y_move rfl) <| nq (y_lss rfl rfl) <| nend <| qsub (sub_cons (t := 24) rfl <| sub_cons (t := 1) rfl <| sub_cons (t := 5) rfl <| sub_cons (t := 6) rfl <| sub_cons (t := 7) rfl <| sub_nil) <| qthen <| ?_
    refine cif rfl (fun h2 => ?_) (fun h2 => ?_)
    · refine cskip <| qthen <| cseq <| cblock <| cseq <| creg <| nq (y_move rfl) <| nq (y_rem rfl rfl (by omega) (by omega)) <| nq (y_eql rfl rfl) <| nend <| qsub (sub_cons (t := 29) rfl <| sub_cons (t := 24) rfl <| sub_cons (t := 1) rfl <| sub_cons (t := 5) rfl <| sub_cons (t := 6) rfl <| sub_cons (t := 7) rfl <| sub_nil) <| qthen <| ?_
      refine cif rfl (fun h3 => ?_) (fun h3 => ?_)
      · refine creg <| nq (y_move rfl) <| nq (y_quo rfl rfl (by omega) (by omega) (w32 (by omega) (by omega))) <| nq (y_bits (by simp) rfl rfl (xor_poly _ hc)) <| nq (y_assign rfl) <| nend <| qsub (sub_cons (t := 5) rfl <| sub_cons (t := 29) rfl <| sub_cons (t := 24) rfl <| sub_cons (t := 1) rfl <| sub_cons (t := 6) rfl <| sub_cons (t := 7) rfl <| sub_nil) <| qblock <| qthen <| creg <| nq (y_move rfl) <| nq (y_add rfl rfl (w64 (by omega) (by omega))) <| nq (y_assign rfl) <| nend <| qsub (sub_cons (t := 7) rfl <| sub_cons (t := 5) rfl <| sub_cons (t := 29) rfl <| sub_cons (t := 24) rfl <| sub_cons (t := 1) rfl <| sub_cons (t := 6) rfl <| sub_nil) <| ?_
        rw [show csteps q X / 2 ^^^ 2197175160 = csteps (q + 1) X by rw [csteps, cstep, if_pos (by omega)]]
        refine qloop1 (q + 1) (sub_cons (t := 1) rfl <| sub_cons (t := 5) rfl <| sub_cons (t := 6) rfl <| sub_cons (t := 7) rfl <| sub_nil) (⟨by omega, rfl⟩) (by omega)
      · refine creg <| nq (y_move rfl) <| nq (y_quo rfl rfl (by omega) (by omega) (w32 (by omega) (by omega))) <| nq (y_assign rfl) <| nend <| qsub (sub_cons (t := 5) rfl <| sub_cons (t := 29) rfl <| sub_cons (t := 24) rfl <| sub_cons (t := 1) rfl <| sub_cons (t := 6) rfl <| sub_cons (t := 7) rfl <| sub_nil) <| qblock <| qthen <| creg <| nq (y_move rfl) <| nq (y_add rfl rfl (w64 (by omega) (by omega))) <| nq (y_assign rfl) <| nend <| qsub (sub_cons (t := 7) rfl <| sub_cons (t := 5) rfl <| sub_cons (t := 29) rfl <| sub_cons (t := 24) rfl <| sub_cons (t := 1) rfl <| sub_cons (t := 6) rfl <| sub_nil) <| ?_
        rw [show (csteps q X : Int) / 2 = ((csteps (q + 1) X : Nat) : Int) by rw [csteps, cstep, if_neg (by omega)]; omega]
        refine qloop1 (q + 1) (sub_cons (t := 1) rfl <| sub_cons (t := 5) rfl <| sub_cons (t := 6) rfl <| sub_cons (t := 7) rfl <| sub_nil) (⟨by omega, rfl⟩) (by omega)
    · obtain rfl : q = 8 := by omega
      refine cexit <| qthen_exit <| qthen_exit <| qblock_exit <| qblock <| qthen <| creg <| nq (y_move rfl) <| nq (y_add rfl rfl (w64 (by omega) (by omega))) <| nq (y_assign rfl) <| nend <| qsub (sub_cons (t := 6) rfl <| sub_cons (t := 24) rfl <| sub_cons (t := 1) rfl <| sub_cons (t := 5) rfl <| sub_cons (t := 7) rfl <| sub_nil) <| ?_
      rw [← hX, ← cmore_snoc, ← Go.Hx.take_snoc hkn]
      refine qloop1 (k + 1) (sub_cons (t := 1) rfl <| sub_cons (t := 5) rfl <| sub_cons (t := 6) rfl <| sub_nil) (⟨by omega, rfl⟩) (by omega)
  · obtain rfl : k = n := by omega
    have hm := cmore_lt (n := 4294967295 - s) (by omega) (l.take k)
    refine cexit <| qthen_exit <| qthen_exit <| qblock_exit <| qthen <| cseq <| creg <| nq (y_move rfl) <| nq (y_sub rfl rfl ((show IntKind.u32.wrap (4294967295 - ((cmore (4294967295 - s) (l.take k) : Nat) : Int)) = ((4294967295 - cmore (4294967295 - s) (l.take k) : Nat) : Int) by rw [w32 (by omega) (by omega)]; omega))) <| nq (y_assign rfl) <| nend <| qsub (sub_cons (t := 4) rfl <| sub_cons (t := 13) rfl <| sub_cons (t := 1) rfl <| sub_cons (t := 5) rfl <| sub_cons (t := 6) rfl <| sub_nil) <| qthen <| cret <| ?_
    rw [List.take_of_length_le (by omega)]
    exact ret1 trivial rfl rfl ⟨rfl, rfl⟩
theorem rcrcPut (A : Option Addr) (n c : Nat) (l : List UInt8) (w : World) (hr : Rd w 1 A n (b8s l)) (hn : n ≤ 70368744177664) :
    Calls Tryd.prog 22 #[.slice A n c] w fun e w' => ∃ v, e = .returned v ∧ Go.Eng.Own w' w.heap.size 5 1 v (n + 4) (b8s (putL l)) ∧ Fr No w w' := by
  have hl : l.length = n := by have := hr.1; rw [b8s_length] at this; omega
  refine enter (N := 24) Tryd.func22 rfl rfl (by simp) ?_
  refine cseq <| creg <| nq (y_assign rfl) <| nend <| qthen <| cseq <| creg <| nq (y_move rfl) <| ?_
  refine nx (x_call rfl Tryd.call66 (rcrcMore A n c l 0 (by decide) w hr (by omega)) ?_)
  rintro e_ w1 ⟨rfl, rfl⟩
  refine ⟨_, rfl, ?_⟩
  refine nq (y_assign rfl) <| nend <| qsub (sub_cons (t := 3) rfl <| sub_cons (t := 2) rfl <| sub_cons (t := 0) rfl <| sub_nil) <| qthen <| cseq <| creg <| nq (y_assign rfl) <| nend <| qthen <| cseq <| creg <| nq (y_move rfl) <| nq (y_move rfl) <| ?_
  refine nx (x_app rfl rfl Tryd.underlying32 Tryd.underlying32 (by exact .inl rfl) ti5 rfl (Own.nil w w.heap.size _ 1) (Src.of_rd hr) b8s_oneCell (by unfold maxLen; omega) (by omega) (Nat.le_refl _) fun v w2 hv hf2 hvv => ?_)
  have hlt := crcSum_lt l
  have f2 : Fr No w w2 := hf2.mono (fun _ _ e => e.elim)
  refine nq (y_assign rfl) <| nend <| qsub (sub_cons (t := 4) rfl <| sub_cons (t := 3) rfl <| sub_cons (t := 2) rfl <| sub_cons (t := 0) rfl <| sub_nil) <| qthen <| cseq <| cseq <| creg <| nq (y_assign rfl) <| nend <| qthen <| cblock <| ?_
  refine cloop2 (fun k _ => 4 - k) (fun k v => [(3, .int .u32 (shr8 k (crcSum l) : Nat)), (4, v), (5, .int .i64 (k : Nat))]) (fun k v w' => k ≤ 4 ∧ Go.Eng.Own w' w.heap.size 5 1 v (n + k) (b8s (l ++ lek k (crcSum l))) ∧ Fr No w w') 0 v (⟨Nat.zero_le _, by simpa [lek] using hv, f2⟩) (sub_cons (t := 3) rfl <| sub_cons (t := 4) rfl <| sub_cons (t := 5) rfl <| sub_nil) (fun k v w3 ⟨hk, ho, hf⟩ => ?_)
  refine cseq <| cseq <| creg <| nq (y_move rfl) <| nq (y_lss rfl rfl) <| nend <| qsub (sub_cons (t := 12) rfl <| sub_cons (t := 3) rfl <| sub_cons (t := 4) rfl <| sub_cons (t := 5) rfl <| sub_nil) <| qthen <| ?_
  refine cif rfl (fun h => ?_) (fun h => ?_)
  · have hs8 := shr8_lt hlt k
    refine cskip <| qthen <| cseq <| cblock <| cseq <| creg <| nq (y_move rfl) <| nq (y_move rfl) <| nq (y_rem rfl rfl (by omega) (by omega)) <| nq (y_conv rfl Tryd.underlying120 Tryd.underlying5 ((show IntKind.u8.wrap (((shr8 k (crcSum l) : Nat) : Int) % 256) = ((UInt8.ofNat (shr8 k (crcSum l))).toNat : Int) by simp [IntKind.wrap, IntKind.signed, IntKind.bits]))) <| ?_
    refine nx (x_bsl Tryd.underlying32 ti5 rfl rfl rfl (by simp [Value.cells, B8]) (by decide) (by decide) fun g w4 hg hf4 hb4 => ?_)
    refine nx (x_app rfl rfl Tryd.underlying32 Tryd.underlying32 (by exact .inl rfl) ti5 rfl (ho.fr0 hf4) (Src.of_blk hb4 rfl) (b8s_one (l := [_])) (by unfold maxLen; omega) (by omega) (hf.trans0 hf4).size fun v5 w5 ho5 hf5 hv5 => ?_)
    refine nq (y_assign rfl) <| nend <| qsub (sub_cons (t := 4) rfl <| sub_cons (t := 12) rfl <| sub_cons (t := 3) rfl <| sub_cons (t := 5) rfl <| sub_nil) <| qthen <| creg <| nq (y_move rfl) <| nq (y_quo rfl rfl (by omega) (by omega) (w32 (by omega) (by omega))) <| nq (y_assign rfl) <| nend <| qsub (sub_cons (t := 3) rfl <| sub_cons (t := 4) rfl <| sub_cons (t := 12) rfl <| sub_cons (t := 5) rfl <| sub_nil) <| qblock <| qthen <| creg <| nq (y_move rfl) <| nq (y_add rfl rfl (w64 (by omega) (by omega))) <| nq (y_assign rfl) <| nend <| qsub (sub_cons (t := 5) rfl <| sub_cons (t := 3) rfl <| sub_cons (t := 4) rfl <| sub_cons (t := 12) rfl <| sub_nil) <| ?_
    refine qloop2 (k + 1) v5 (sub_cons (t := 3) rfl <| sub_cons (t := 4) rfl <| sub_cons (t := 5) rfl <| sub_nil) (⟨by omega, by rw [lek_succ, ← List.append_assoc, b8s_append]; exact ho5, (hf.trans0 hf4).new hf5 (fun i hi => (ho.from hi).1)⟩) (by omega)
  · obtain rfl : k = 4 := by omega
    refine cexit <| qthen_exit <| qthen_exit <| qblock_exit <| qthen <| cseq <| creg <| nq (y_move rfl) <| nq (y_assign rfl) <| nend <| qsub (sub_cons (t := 2) rfl <| sub_cons (t := 12) rfl <| sub_cons (t := 3) rfl <| sub_cons (t := 4) rfl <| sub_cons (t := 5) rfl <| sub_nil) <| qthen <| cret <| ?_
    rw [lek_four] at ho
    exact ret1 trivial rfl rfl ⟨v, rfl, ho, hf⟩
end Go.Proofs.YtfikjheicjamhaaDoor
end
section
/- Contracts: bytes.Equal, crc.Take, the reference's Take, strings.CutPrefix. -/
set_option linter.unusedVariables false
set_option linter.unusedSimpArgs false
set_option maxRecDepth 20000
namespace Go.Proofs.YtfikjheicjamhaaDoor
open Go.Eng Go.Hx
theorem bytesEqual (A : Option Addr) (n c : Nat) (l : List UInt8) (A' : Option Addr) (n' c' : Nat) (l' : List UInt8) (w : World) (hr : Rd w 1 A n (b8s l)) (hr' : Rd w 1 A' n' (b8s l')) :
    Calls Tryd.prog 115 #[.slice A n c, .slice A' n' c'] w fun e w' => e = .returned (.bool (decide (l = l'))) ∧ w = w' := by
  refine enter (N := 10) Tryd.func115 rfl rfl (by simp) ?_
  refine cseq <| creg <| nq (y_assign rfl) <| nend <| qthen <| cseq <| creg <| nq (y_move rfl) <| nq (y_b2s rfl Tryd.underlying32 Tryd.underlying5 Tryd.underlying9 hr) <| nq (y_move rfl) <| nq (y_b2s rfl Tryd.underlying32 Tryd.underlying5 Tryd.underlying9 hr') <| nq (y_seq rfl rfl) <| nq (y_assign rfl) <| nend <| qsub (sub_cons (t := 4) rfl <| sub_cons (t := 0) rfl <| sub_cons (t := 1) rfl <| sub_nil) <| qthen <| cret <| ?_
  refine ret1 trivial rfl rfl ⟨?_, rfl⟩
  simp only [strOf_inj]
def takeE (l : List UInt8) : Int := if l.length < 4 then 2 else if putL (l.take (l.length - 4)) = l then 0 else 7
theorem Rd.takeB {w : World} {A : Option Addr} {n : Nat} {l : List UInt8} (h : Rd w 1 A n (b8s l)) {k : Nat} (hk : k ≤ n) : Rd w 1 A k (b8s (l.take k)) := by
  have := Rd.take h hk
  rwa [Nat.mul_one, ← b8s_take] at this
theorem rTake (A : Option Addr) (n c : Nat) (l : List UInt8) (w : World) (hr : Rd w 1 A n (b8s l)) (hc : n ≤ c) (hn : n ≤ 70368744177664) :
    Calls Tryd.prog 70 #[.slice A n c] w fun e w' => (∃ v, e = .returned (.tuple #[v, .int .i64 (takeE l)]) ∧ (takeE l = 0 → v = .slice A (n - 4) c ∧ Rd w 1 A (n - 4) (b8s (l.take (n - 4))))) ∧ Fr No w w' := by
  have hl : l.length = n := by have := hr.1; rw [b8s_length] at this; omega
  refine enter (N := 22) Tryd.func70 rfl rfl (by simp) ?_
  refine cseq <| creg <| nq (y_assign rfl) <| nq (y_assign rfl) <| nend <| qthen <| cseq <| cseq <| creg <| nq (y_move rfl) <| nq (y_lenS rfl Tryd.underlying32) <| nq (y_lss rfl rfl) <| nend <| qsub (sub_cons (t := 6) rfl <| sub_cons (t := 3) rfl <| sub_cons (t := 2) rfl <| sub_cons (t := 0) rfl <| sub_nil) <| qthen <| ?_
  refine cif rfl (fun h => ?_) (fun h => ?_)
  · refine cseq <| creg <| nq (y_assign rfl) <| nq (y_assign rfl) <| nend <| qthen <| cret <| qthen_ret <| ?_
    have e : takeE l = 2 := by rw [takeE, if_pos (by omega)]
    rw [e]
    exact ret2 trivial rfl rfl rfl ⟨⟨_, rfl, fun h => absurd h (by decide)⟩, Fr.refl _ _⟩
  · have rt := Rd.takeB hr (show n - 4 ≤ n by omega)
    refine cskip <| qthen <| cseq <| cseq <| ?_
    refine cdrw [(0, false), (1, false), (2, false), (3, false), (4, false), (7, false), (8, false), (5, true), (6, true), (9, false)] (by kernel_rfl) (by kernel_rfl) rfl (fun w' => Fr No w w') (Fr.drew _) (fun w1 hf1 hS1 => ?_)
    refine sq (fun w_ hS_ => y_move rfl) <| sq (fun w_ hS_ => y_move rfl) <| sq (fun w_ hS_ => y_lenS rfl Tryd.underlying32) <| sq (fun w_ hS_ => y_sub rfl rfl (w64 (by omega) (by omega))) <| sq (fun w_ hS_ => y_slTo rfl rfl Tryd.underlying32 sz5 (show ((n - 4 : Nat) : Int) = (n : Int) - 4 by omega) ((by omega))) <| sq (fun w_ hS_ => y_move rfl) <| sq (fun w_ hS_ => y_b2s rfl Tryd.underlying32 Tryd.underlying5 Tryd.underlying9 (hr.fr0 hS_)) <| ?_
    refine sx (x_call rfl Tryd.call22 (rcrcPut A (n - 4) c _ _ (rt.fr0 hS1) (by omega)) ?_)
    rintro e_ w2 ⟨v2, rfl, ho2, hf2⟩
    refine ⟨_, rfl, ?_⟩
    refine ⟨hS1.trans0 hf2, ?_⟩
    have hS2 := hS1.trans0 hf2
    obtain ⟨A2, c2, rfl, hc2⟩ := ho2.slice
    refine sy (hS2) (y_b2s rfl Tryd.underlying32 Tryd.underlying5 Tryd.underlying9 ((Own.rd ho2).2.2)) <| sq (fun w_ hS_ => y_sne rfl rfl) <| send <| qsub (sub_cons (t := 16) rfl <| sub_cons (t := 6) rfl <| sub_cons (t := 3) rfl <| sub_cons (t := 2) rfl <| sub_cons (t := 0) rfl <| sub_nil) <| qthen <| ?_
    refine cif rfl (fun h2 => ?_) (fun h2 => ?_)
    · have h2 : ¬ putL (l.take (n - 4)) = l := fun e => h2 (by rw [e])
      refine cseq <| creg <| nq (y_assign rfl) <| nq (y_assign rfl) <| nend <| qthen <| cret <| qthen_ret <| ?_
      have e : takeE l = 7 := by rw [takeE, if_neg (by omega), hl, if_neg h2]
      rw [e]
      exact ret2 trivial rfl rfl rfl ⟨⟨_, rfl, fun h => absurd h (by decide)⟩, hS2⟩
    · have h3 := strOf_inj.1 (Decidable.not_not.1 h2)
      have e : takeE l = 0 := by rw [takeE, if_neg (by omega), hl, if_pos h3]
      refine cskip <| qthen <| cseq <| creg <| nq (y_move rfl) <| nq (y_move rfl) <| nq (y_lenS rfl Tryd.underlying32) <| nq (y_sub rfl rfl (w64 (by omega) (by omega))) <| nq (y_slTo rfl rfl Tryd.underlying32 sz5 (show ((n - 4 : Nat) : Int) = (n : Int) - 4 by omega) ((by omega))) <| nq (y_assign rfl) <| nq (y_assign rfl) <| nend <| qsub (sub_cons (t := 3) rfl <| sub_cons (t := 2) rfl <| sub_cons (t := 16) rfl <| sub_cons (t := 6) rfl <| sub_cons (t := 0) rfl <| sub_nil) <| qthen <| cret <| ?_
      rw [e]
      exact ret2 trivial rfl rfl rfl ⟨⟨_, rfl, fun _ => ⟨rfl, rt⟩⟩, hS2⟩
end Go.Proofs.YtfikjheicjamhaaDoor
end
section
/- Contracts over things in memory, from contracts over worlds: bytes, sums, digests. -/
set_option linter.unusedVariables false
set_option linter.unusedSimpArgs false
set_option maxRecDepth 20000
namespace Go.Proofs.YtfikjheicjamhaaDoor
open Go.Eng Go.Hx
theorem bytesEqualC {A A1 : Option Addr} {n c n1 c1 : Nat} {l l1 : List UInt8} : Con Tryd.prog 115 [.slice A n c, .slice A1 n1 c1] [] [RRd 1 A n (b8s l), RRd 1 A1 n1 (b8s l1)] (fun v_ X_ S_ => v_ = (.bool (decide (l = l1))) ∧ X_ = [] ∧ S_ = []) := by
  exact con_pure fun m => Calls.mono (bytesEqual A n c l A1 n1 c1 l1 _ (m.rd 0 rfl) (m.rd 1 rfl)) (fun e w' ⟨h, hw⟩ => ⟨_, h, ⟨rfl, rfl, rfl⟩, hw ▸ Fr.refl _ _⟩)
theorem cloneC {A : Option Addr} {n c : Nat} {l : List UInt8} (hn : n ≤ 140737488351232) : Con Tryd.prog 108 [.slice A n c] [] [RRd 1 A n (b8s l)] (fun v_ X_ S_ => ∃ v, v_ = v ∧ X_ = [ROwn 5 1 v n (b8s l)] ∧ S_ = []) := by
  exact con_own1 fun m => Calls.mono (clone A n c l _ (m.rd 0 rfl) hn) (fun e w' ⟨v, h, ho, hf⟩ => ⟨v, v, _, _, _, _, h, ⟨v, rfl, rfl, rfl⟩, ho, hf⟩)
theorem crcPutC {A : Option Addr} {n c : Nat} {l : List UInt8} (hn : n ≤ 70368744177664) : Con Tryd.prog 62 [.slice A n c] [] [RRd 1 A n (b8s l)] (fun v_ X_ S_ => ∃ v, v_ = v ∧ X_ = [ROwn 5 1 v (n + 4) (b8s (putL l))] ∧ S_ = []) := by
  exact con_own1 fun m => Calls.mono (crcPut A n c l _ (m.rd 0 rfl) hn) (fun e w' ⟨v, h, ho, hf⟩ => ⟨v, v, _, _, _, _, h, ⟨v, rfl, rfl, rfl⟩, ho, hf⟩)
def takeB (l : List UInt8) : List UInt8 := if takeE l = 0 then l.take (l.length - 4) else []
theorem takeB_len {l : List UInt8} (h : takeE l = 0) : (takeB l).length = l.length - 4 := by rw [takeB, if_pos h, List.length_take]; omega
theorem takeE_2 {l : List UInt8} (h : l.length < 4) : takeE l = 2 ∧ takeB l = [] := by rw [takeB, takeE, if_pos h]; exact ⟨rfl, rfl⟩
theorem takeE_7 {l : List UInt8} (h : ¬ l.length < 4) (h2 : ¬ putL (l.take (l.length - 4)) = l) : takeE l = 7 ∧ takeB l = [] := by rw [takeB, takeE, if_neg h, if_neg h2]; exact ⟨rfl, rfl⟩
theorem takeE_0 {l : List UInt8} (h : ¬ l.length < 4) (h2 : putL (l.take (l.length - 4)) = l) : takeE l = 0 ∧ takeB l = l.take (l.length - 4) := by rw [takeB, takeE, if_neg h, if_pos h2]; exact ⟨rfl, rfl⟩
theorem crcTakeC {A : Option Addr} {n c : Nat} {l : List UInt8} (hc : n ≤ c) (hn : n ≤ 70368744177664) : Con Tryd.prog 67 [.slice A n c] [] [RRd 1 A n (b8s l)] (fun v_ X_ S_ => ∃ v, v_ = (.tuple #[v, .int .i64 (takeE l)]) ∧ X_ = [ROwn 5 1 v (takeB l).length (b8s (takeB l))] ∧ S_ = []) := by
  refine henter (N := 21) Tryd.func67 rfl rfl (by simp) fun b => ?_
  refine hfactC (fun m => rdB (m.rd 0 rfl)) ?_
  rintro ⟨hl_r, hA_r⟩
  refine hseq <| hreg <| hy (fun _ => y_assign rfl) <| hy (fun _ => y_assign rfl) <| hend <| hthen <| hseq <| hreg <| hy (fun _ => y_move rfl) <| hy (fun _ => y_lenS rfl Tryd.underlying32) <| hy (fun _ => y_sub rfl rfl (w64 (by omega) (by omega))) <| hy (fun _ => y_assign rfl) <| hend <| hsub (ρ' := [(4, _), (3, _), (2, _), (0, _)]) ⟨rfl, rfl, rfl, rfl, trivial⟩ <| hthen <| hseq <| hseq <| hreg <| hy (fun _ => y_move rfl) <| hy (fun _ => y_lss rfl rfl) <| hend <| hsub (ρ' := [(9, _), (4, _), (3, _), (2, _), (0, _)]) ⟨rfl, rfl, rfl, rfl, rfl, trivial⟩ <| hthen <| ?_
  refine hif rfl (fun h => ?_) (fun h => ?_)
  · obtain ⟨e1, e2⟩ := takeE_2 (show l.length < 4 by omega)
    rw [e1, e2]
    refine hseq <| hreg <| hy (fun _ => y_assign rfl) <| hy (fun _ => y_assign rfl) <| hend <| hthen <| hret <| hthen_ret <| ?_
    refine hmemQ (fun w m => m.addX (r' := ROwn 5 1 (.slice none 0 0) 0 []) (.refl _ _) (Own.nil _ _ _ _) (fun k hk => hk.elim)) ?_
    exact hret2 trivial rfl rfl rfl [0] rfl [] rfl ⟨_, rfl, rfl, rfl⟩
  · refine hmemC (fun w m => m.asV 0 rfl (View.take (k := n - 4) (by omega))) ?_
    refine hfactC (fun m => rdB (m.rd 0 rfl)) ?_
    rintro ⟨hl_r2, hA_r2⟩
    refine hcskip <| hthen <| hseq <| hseq <| hreg <| hy (fun _ => y_move rfl) <| hy (fun _ => y_move rfl) <| hy (fun _ => y_slTo rfl rfl Tryd.underlying32 sz5 (show ((n - 4 : Nat) : Int) = (n : Int) - 4 by omega) (by omega)) <| ?_
    refine hx (xh_call rfl Tryd.call62 (crcPutC (by omega)) [] rfl [0] rfl ?_)
    rintro _ _ _ ⟨v, rfl, rfl, rfl⟩
    refine hfactL (fun m => (m.own 0 rfl).slice) ?_
    rintro ⟨A_x, c_x, rfl, hc_x⟩
    refine hfactL (fun m => (m.ord 0 rfl).2.1) fun hA_x => ?_
    refine hy (fun _ => y_move rfl) <| ?_
    refine hx (xh_calll rfl Tryd.call115 (bytesEqualC) [] rfl (.x 0 rfl .own (.s 1 rfl .nil)) ?_)
    rintro _ _ _ ⟨rfl, rfl, rfl⟩
    refine ⟨rfl, ?_⟩
    refine hy (fun _ => (y_notp rfl)) <| hend <| hsub (ρ' := [(16, _), (9, _), (4, _), (3, _), (2, _), (0, _)]) ⟨rfl, rfl, rfl, rfl, rfl, rfl, trivial⟩ <| hmemQ (X' := [_]) (S' := [_, _]) (fun _ m => m) <| hthen <| ?_
    refine hif rfl (fun h2 => ?_) (fun h2 => ?_)
    · obtain ⟨e1, e2⟩ := takeE_7 (l := l) (by omega) (by rw [hl_r]; exact h2)
      rw [e1, e2]
      refine hseq <| hreg <| hy (fun _ => y_assign rfl) <| hy (fun _ => y_assign rfl) <| hend <| hthen <| hret <| hthen_ret <| ?_
      refine hmemQ (fun w m => m.addX (r' := ROwn 5 1 (.slice none 0 0) 0 []) (.refl _ _) (Own.nil _ _ _ _) (fun k hk => hk.elim)) ?_
      exact hret2 trivial rfl rfl rfl [0] rfl [] rfl ⟨_, rfl, rfl, rfl⟩
    · obtain ⟨e1, e2⟩ := takeE_0 (l := l) (by omega) (by rw [hl_r]; exact Decidable.not_not.1 h2)
      rw [e1, e2, hl_r]
      refine hcskip <| hthen <| hseq <| hreg <| hy (fun _ => y_move rfl) <| hy (fun _ => y_move rfl) <| hy (fun _ => y_slTo rfl rfl Tryd.underlying32 sz5 (show ((n - 4 : Nat) : Int) = (n : Int) - 4 by omega) (by omega)) <| ?_
      refine hx (xh_call rfl Tryd.call108 (cloneC (by omega)) [] rfl [0] rfl ?_)
      rintro _ _ _ ⟨v2, rfl, rfl, rfl⟩
      refine hfactL (fun m => (m.own 0 rfl).slice) ?_
      rintro ⟨A_x2, c_x2, rfl, hc_x2⟩
      refine hfactL (fun m => (m.ord 0 rfl).2.1) fun hA_x2 => ?_
      refine hy (fun _ => y_assign rfl) <| hy (fun _ => y_assign rfl) <| hend <| hsub (ρ' := [(3, _), (2, _), (16, _), (9, _), (4, _), (0, _)]) ⟨rfl, rfl, rfl, rfl, rfl, rfl, trivial⟩ <| hmemQ (X' := [_, _]) (S' := [_, _]) (fun _ m => m) <| hthen <| hret <| ?_
      exact hret2 trivial rfl rfl rfl [0] rfl [] rfl ⟨_, rfl, (by rw [List.length_take, hl_r, Nat.min_eq_left (by omega)]), rfl⟩
end Go.Proofs.YtfikjheicjamhaaDoor
end
section
/- Contracts: the program's digest of bytes (layer 2). -/
set_option linter.unusedVariables false
set_option linter.unusedSimpArgs false
set_option maxRecDepth 20000
namespace Go.Proofs.YtfikjheicjamhaaDoor
open Go.Eng Go.Hx
/-- the table of the program -/
def RRoots : Res := RRd 1 (some ⟨0, 0, none⟩) 64 (wds rootsL)
theorem u64neg {n : Nat} (h0 : 0 < n) (hn : n < 32) : IntKind.u64.wrap (-(n : Int)) = ((18446744073709551616 - n : Nat) : Int) := by
  simp [IntKind.wrap, IntKind.signed, IntKind.bits]
  omega
theorem u64and31 {n : Nat} (h0 : 0 < n) (hn : n < 32) : bits .and .u64 ((18446744073709551616 - n : Nat) : Int) 31 = ((32 - n : Nat) : Int) := by
  have h := u64_and_nat (18446744073709551616 - n) 31 (by omega) (by decide)
  rw [show ((31 : Nat) : Int) = 31 from rfl] at h
  rw [h, show (31 : Nat) = 2 ^ 5 - 1 from rfl, Nat.and_two_pow_sub_one_eq_mod]
  congr 1
  show (18446744073709551616 - n) % 32 = 32 - n
  omega
theorem rotC {x : UInt32} {n : Nat} (h0 : 0 < n) (hn : n < 32) : Con Tryd.prog 188 [Wd x, .int .i64 (-(n : Int))] [] [] (fun v_ X_ S_ => v_ = (Wd (rotr n x)) ∧ X_ = [] ∧ S_ = []) := by
  refine henter (N := 17) Tryd.func188 rfl rfl (by simp) fun b => ?_
  have hs : IntKind.u64.wrap (32 - ((32 - n : Nat) : Int)) = (n : Int) := by
    rw [show (32 : Int) - ((32 - n : Nat) : Int) = (n : Int) by omega]
    simp [IntKind.wrap, IntKind.signed, IntKind.bits]
    omega
  refine hseq <| hreg <| hy (fun _ => y_assign rfl) <| hend <| hthen <| hseq <| hreg <| hy (fun _ => y_move rfl) <| hy (fun _ => y_conv rfl Tryd.underlying3 Tryd.underlying174 (u64neg h0 hn)) <| hy (fun _ => y_bits (by simp) rfl rfl (u64and31 h0 hn)) <| hy (fun _ => y_assign rfl) <| hend <| hsub (ρ' := [(5, _), (4, _), (0, _), (1, _)]) ⟨rfl, rfl, rfl, rfl, trivial⟩ <| hthen <| hseq <| hreg <| hy (fun _ => y_move rfl) <| hy (fun _ => y_move rfl) <| hy (fun _ => (y_wshl (k := 32 - n) (by omega) rfl rfl)) <| hy (fun _ => y_move rfl) <| hy (fun _ => y_move rfl) <| hy (fun _ => y_sub rfl rfl hs) <| hy (fun _ => (y_wshr (k := n) hn rfl rfl)) <| hy (fun _ => yV (y_wor rfl rfl) ((show Wd (UInt32.ofNat (x.toNat * 2 ^ (32 - n)) ||| UInt32.ofNat (x.toNat / 2 ^ n)) = Wd (rotr n x) by rw [rotl_or h0 hn]))) <| hy (fun _ => y_assign rfl) <| hend <| hsub (ρ' := [(4, _), (5, _), (0, _), (1, _)]) ⟨rfl, rfl, rfl, rfl, trivial⟩ <| hthen <| hret <| ?_
  exact hret1 trivial rfl rfl [] rfl [] rfl ⟨rfl, rfl, rfl⟩
theorem turnedC {x : UInt32} {n1 n2 n3 : Nat} (h1 : 0 < n1 ∧ n1 < 32) (h2 : 0 < n2 ∧ n2 < 32) (h3 : 0 < n3 ∧ n3 < 32) : Con Tryd.prog 173 [Wd x, .int .i64 (n1 : Int), .int .i64 (n2 : Int), .int .i64 (n3 : Int)] [] [] (fun v_ X_ S_ => v_ = (Wd (turns n1 n2 n3 x)) ∧ X_ = [] ∧ S_ = []) := by
  refine henter (N := 23) Tryd.func173 rfl rfl (by simp) fun b => ?_
  refine hseq <| hreg <| hy (fun _ => y_assign rfl) <| hend <| hthen <| hseq <| hreg <| hy (fun _ => y_move rfl) <| hy (fun _ => y_move rfl) <| hy (fun _ => y_neg rfl (w64 (by omega) (by omega))) <| ?_
  refine hx (xh_call rfl Tryd.call188 (rotC h1.1 h1.2 (n := n1)) [] rfl [] rfl ?_)
  rintro _ _ _ ⟨rfl, rfl, rfl⟩
  refine hy (fun _ => y_move rfl) <| hy (fun _ => y_move rfl) <| hy (fun _ => y_neg rfl (w64 (by omega) (by omega))) <| ?_
  refine hx (xh_call rfl Tryd.call188 (rotC h2.1 h2.2 (n := n2)) [] rfl [] rfl ?_)
  rintro _ _ _ ⟨rfl, rfl, rfl⟩
  refine hy (fun _ => y_wxor rfl rfl) <| hy (fun _ => y_move rfl) <| hy (fun _ => y_move rfl) <| hy (fun _ => y_neg rfl (w64 (by omega) (by omega))) <| ?_
  refine hx (xh_call rfl Tryd.call188 (rotC h3.1 h3.2 (n := n3)) [] rfl [] rfl ?_)
  rintro _ _ _ ⟨rfl, rfl, rfl⟩
  refine hy (fun _ => y_wxor rfl rfl) <| hy (fun _ => y_assign rfl) <| hend <| hsub (ρ' := [(8, _), (0, _), (1, _), (2, _), (3, _)]) ⟨rfl, rfl, rfl, rfl, rfl, trivial⟩ <| hmemQ (X' := []) (S' := []) (fun _ m => m) <| hthen <| hret <| ?_
  exact hret1 trivial rfl rfl [] rfl [] rfl ⟨rfl, rfl, rfl⟩
theorem fill_get {a : List UInt32} {i k n : Nat} (ha : a.length = i) (hk : k < i) : (wds (a ++ List.replicate n 0))[k]? = some (Wd (a.getD k 0)) := by
  rw [wds_get (by simp; omega)]
  simp [List.getD, List.getElem?_append_left (show k < a.length by omega)]
theorem mid_get {a r : List UInt32} {i : Nat} {x : UInt32} (ha : a.length = i) : (wds (a ++ x :: r))[i]? = some (Wd x) := by
  subst ha
  simp [wds]
theorem mid_set {a r : List UInt32} {i : Nat} {x y : UInt32} (ha : a.length = i) : (wds (a ++ x :: r)).set i (Wd y) = wds (a ++ y :: r) := by
  subst ha
  simp [wds, List.set_append]
theorem mid_end {a r : List UInt32} {y : UInt32} : a ++ y :: r = (a ++ [y]) ++ r := by simp
theorem wordsC {A : Option Addr} {c : Nat} {l : List UInt8} (hc : 64 ≤ c) : Con Tryd.prog 172 [.slice A 64 c] [] [RRd 1 A 64 (b8s l)] (fun v_ X_ S_ => v_ = (.agg (wds (wl l 64)).toArray) ∧ X_ = [] ∧ S_ = []) := by
  refine henter (N := 75) Tryd.func172 rfl rfl (by simp) fun b => ?_
  refine hfactC (fun m => rdB (m.rd 0 rfl)) ?_
  rintro ⟨hl_r, hA_r⟩
  have hl : l.length = 64 := hl_r
  refine hseq <| hreg <| ?_
  refine hx (xh_alloc ti254 (fun g2 => ?_))
  refine hend <| hmemQ (X' := [_]) (S' := [_]) (fun _ m => m) <| hthen <| hseq <| hreg <| ?_
  refine hx (xh_alloc ti254 (fun g3 => ?_))
  refine hmemL (fun w m => m.eqX 0 rfl (show _ = RBlk g3 254 (wds (wl l 0 ++ List.replicate (64 - 0) 0)) from rfl)) ?_
  refine hend <| hmemQ (X' := [_, _]) (S' := [_]) (fun _ m => m) <| hthen <| hseq <| hseq <| hreg <| hy (fun _ => y_move rfl) <| hend <| hthen <| hblock <| ?_
  refine hloop1 (fun i => 64 - i) (fun i => [(9, .int .i64 (i : Nat))]) (fun i => [RBlk g3 254 (wds (wl l i ++ List.replicate (64 - i) 0))]) (fun i => []) (fun i => i ≤ 64) 0 [(3, _), (2, _), (0, _)] ⟨rfl, rfl, rfl, trivial⟩ [0] rfl [] rfl (Nat.zero_le _) ⟨rfl, trivial⟩ (fun i hI => ?_)
  have hwl := wl_length l i
  refine hseq <| hreg <| hy (fun _ => y_lss rfl rfl) <| hend <| hthen <| hseq <| ?_
  refine hif rfl (fun h => ?_) (fun h => ?_)
  · have hr64 : (List.replicate (64 - i) (0 : UInt32)) = 0 :: List.replicate (63 - i) 0 := by rw [show 64 - i = (63 - i) + 1 by omega, List.replicate_succ]
    have hr63 : (64 - (i + 1)) = 63 - i := by omega
    refine hcskip <| hthen <| hseq <| hblock <| hseq <| hreg <| hy (fun _ => y_move rfl) <| hy (fun _ => y_assign rfl) <| hend <| hsub (ρ' := [(4, _), (10, _), (9, _), (3, _), (2, _), (0, _)]) ⟨rfl, rfl, rfl, rfl, rfl, rfl, trivial⟩ <| hthen <| hseq <| hseq <| hreg <| hy (fun _ => y_move rfl) <| hy (fun _ => y_lss rfl rfl) <| hend <| hsub (ρ' := [(13, _), (4, _), (10, _), (9, _), (3, _), (2, _), (0, _)]) ⟨rfl, rfl, rfl, rfl, rfl, rfl, rfl, trivial⟩ <| hthen <| ?_
    refine hif rfl (fun h16 => ?_) (fun h16 => ?_)
    · have hws : wl l (i + 1) = wl l i ++ [word4 l (4 * i)] := by rw [wl, if_pos (by omega)]
      refine hmemC (fun w m => m.asV 0 rfl (View.sub (k := 4 * i) (m := 4) hc (by omega))) ?_
      refine hfactC (fun m => rdB (m.rd 0 rfl)) ?_
      rintro ⟨hl_r4, hA_r4⟩
      refine hseq <| hseq <| hreg <| hy (fun _ => y_move rfl) <| hy (fun _ => y_move rfl) <| hy (fun _ => y_mul rfl rfl (w64 (by omega) (by omega))) <| hy (fun _ => y_move rfl) <| hy (fun _ => y_mul rfl rfl (w64 (by omega) (by omega))) <| hy (fun _ => y_add rfl rfl (w64 (by omega) (by omega))) <| hy (fun _ => yV (y_slBoth rfl rfl rfl Tryd.underlying32 sz5 (show ((4 * i : Nat) : Int) = _ by omega) (show ((4 * i + 4 : Nat) : Int) = _ by omega) (by omega) (by omega)) ((show Value.slice (if c = 4 * i then A else A.map (·.add (4 * i * 1))) (4 * i + 4 - 4 * i) (c - 4 * i) = .slice (if c = 4 * i then A else A.map (·.add (4 * i * 1))) 4 (c - 4 * i) by rw [Nat.add_sub_cancel_left]))) <| hy (fun _ => y_lenS rfl Tryd.underlying32) <| hy (fun _ => y_move rfl) <| hend <| hsub (ρ' := [(22, _), (21, _), (20, _), (13, _), (4, _), (10, _), (9, _), (3, _), (2, _), (0, _)]) ⟨rfl, rfl, rfl, rfl, rfl, rfl, rfl, rfl, rfl, rfl, trivial⟩ <| hthen <| hblock <| ?_
      refine hmemC (fun w m => m.eqX 0 rfl (show _ = RBlk g3 254 (wds (wl l i ++ UInt32.ofNat (wp l (4 * i) 0) :: List.replicate (63 - i) 0)) from by rw [hr64]; rfl)) ?_
      refine hloop1 (fun j => 4 - j) (fun j => [(22, .int .i64 (j : Nat))]) (fun j => [RBlk g3 254 (wds (wl l i ++ UInt32.ofNat (wp l (4 * i) j) :: List.replicate (63 - i) 0))]) (fun j => []) (fun j => j ≤ 4) 0 [(21, _), (20, _), (13, _), (4, _), (10, _), (9, _), (3, _), (2, _), (0, _)] ⟨rfl, rfl, rfl, rfl, rfl, rfl, rfl, rfl, rfl, trivial⟩ [0] rfl [] rfl (Nat.zero_le _) ⟨rfl, trivial⟩ (fun j hj4 => ?_)
      refine hseq <| hreg <| hy (fun _ => y_lss rfl rfl) <| hend <| hthen <| hseq <| ?_
      refine hif rfl (fun hj => ?_) (fun hj => ?_)
      · have hgl : ((l.drop (4 * i)).take 4).getD j 0 = l.getD (4 * i + j) 0 := by
          simp [List.getD, List.getElem?_take, List.getElem?_drop, show j < 4 by omega]
        refine hcskip <| hthen <| hseq <| hblock <| hseq <| hreg <| hy (fun _ => y_idxS1 rfl rfl Tryd.underlying32 sz5 hA_r4 rfl (by omega)) <| hy (fun m => y_ld1 rfl ag5 ((m.rd 0 rfl).cell (b8s_get (by omega)))) <| hy (fun _ => y_assign rfl) <| hend <| hsub (ρ' := [(6, _), (23, _), (22, _), (21, _), (20, _), (13, _), (4, _), (10, _), (9, _), (3, _), (2, _), (0, _)]) ⟨rfl, rfl, rfl, rfl, rfl, rfl, rfl, rfl, rfl, rfl, rfl, rfl, trivial⟩ <| hthen <| hreg <| hy (fun _ => y_move rfl) <| hy (fun _ => y_move rfl) <| hy (fun _ => y_idxA1 rfl rfl Tryd.underlying254 sz120 rfl (by omega)) <| hy (fun m => y_ld1 rfl ag120 ((m.blk 0 rfl).cells0 i _ (mid_get hwl))) <| hy (fun _ => y_wshlD (k := 8) (b := 256) (by decide) rfl rfl rfl) <| hy (fun _ => y_move rfl) <| hy (fun _ => y_w8 rfl Tryd.underlying5 Tryd.underlying120) <| hy (fun _ => yV (y_wor rfl rfl) ((show Wd ((UInt32.ofNat (wp l (4 * i) j) * 256) ||| (((l.drop (4 * i)).take 4).getD j 0).toUInt32) = Wd (UInt32.ofNat (wp l (4 * i) (j + 1))) by rw [hgl, wp_step (by omega)]))) <| hy (fun _ => y_idxA1 rfl rfl Tryd.underlying254 sz120 rfl (by omega)) <| ?_
        refine hx0 (xh_st1a 0 rfl rfl rfl sz120 rfl (by rw [wds_length]; simp only [List.length_append, List.length_cons, List.length_replicate, hwl]; omega) ?_)
        refine hend <| hsub (ρ' := [(6, _), (23, _), (22, _), (21, _), (20, _), (13, _), (4, _), (10, _), (9, _), (3, _), (2, _), (0, _)]) ⟨rfl, rfl, rfl, rfl, rfl, rfl, rfl, rfl, rfl, rfl, rfl, rfl, trivial⟩ <| hmemQ (X' := [_, _]) (S' := [_, _]) (fun _ m => m) <| hqblock <| hthen <| hreg <| hy (fun _ => y_add rfl rfl (w64 (by omega) (by omega))) <| hy (fun _ => y_move rfl) <| hend <| hsub (ρ' := [(22, _), (6, _), (23, _), (21, _), (20, _), (13, _), (4, _), (10, _), (9, _), (3, _), (2, _), (0, _)]) ⟨rfl, rfl, rfl, rfl, rfl, rfl, rfl, rfl, rfl, rfl, rfl, rfl, trivial⟩ <| ?_
        refine hmemQ (fun w m => m.eqX 0 rfl (show _ = RBlk g3 254 (wds (wl l i ++ UInt32.ofNat (wp l (4 * i) (j + 1)) :: List.replicate (63 - i) 0)) from by rw [Nat.zero_add, mid_set hwl])) ?_
        refine hnext1 (j + 1) ⟨rfl, rfl, rfl, rfl, rfl, rfl, rfl, rfl, rfl, rfl, trivial⟩ [0, 0] rfl [0, 1] rfl (by omega) (by omega)
      · obtain rfl : j = 4 := by omega
        refine hexit <| hthen_exit <| hthen_exit <| hqblock_exit <| hthen <| hexit <| hthen_exit <| hqblock_exit <| hthen <| hreg <| hy (fun _ => y_add rfl rfl (w64 (by omega) (by omega))) <| hy (fun _ => y_move rfl) <| hend <| hsub (ρ' := [(9, _), (23, _), (22, _), (21, _), (20, _), (13, _), (4, _), (10, _), (3, _), (2, _), (0, _)]) ⟨rfl, rfl, rfl, rfl, rfl, rfl, rfl, rfl, rfl, rfl, rfl, trivial⟩ <| ?_
        refine hmemQ (fun w m => m.eqX 0 rfl (show _ = RBlk g3 254 (wds (wl l (i + 1) ++ List.replicate (64 - (i + 1)) 0)) from by rw [wp_four, mid_end, hws, hr63])) ?_
        refine hnext1 (i + 1) ⟨rfl, rfl, rfl, rfl, trivial⟩ [0, 0] rfl [1] rfl (by omega) (by omega)
    · have hws : wl l (i + 1) = wl l i ++ [wnext (wl l i) i] := by rw [wl, if_neg (by omega)]
      refine hcskip <| hthen <| hseq <| hdrw [] [(0, some 0), (1, some 0), (2, some 0), (3, some 0), (4, some 0), (5, some 0), (6, some 0), (7, some 0), (8, some 0), (9, some 0)] (by kernel_rfl) (by kernel_rfl) rfl 99 <| htyU (y_move rfl) <| htyU (y_sub rfl rfl (w64 (by omega) (by omega))) <| htyU (y_idxA1 rfl rfl Tryd.underlying254 sz120 (show ((i - 15 : Nat) : Int) = _ by omega) (by omega)) <| hty (fun m => y_ld1 rfl ag120 ((m.blk 0 rfl).cells0 (i - 15) _ (fill_get hwl (by omega)))) <| htyU (y_move rfl) <| htyU (y_sub rfl rfl (w64 (by omega) (by omega))) <| htyU (y_idxA1 rfl rfl Tryd.underlying254 sz120 (show ((i - 2 : Nat) : Int) = _ by omega) (by omega)) <| hty (fun m => y_ld1 rfl ag120 ((m.blk 0 rfl).cells0 (i - 2) _ (fill_get hwl (by omega)))) <| htyU (y_assign rfl) <| htyU (y_assign rfl) <| htend <| hsub (ρ' := [(8, _), (7, _), (13, _), (4, _), (10, _), (9, _), (3, _), (2, _), (0, _)]) ⟨rfl, rfl, rfl, rfl, rfl, rfl, rfl, rfl, rfl, trivial⟩ <| hthen <| hdrw [6, 8, 20, 22, 29] [(0, some 4), (1, some 4), (2, some 4), (3, some 4), (4, some 4), (5, some 0), (7, some 1), (10, some 4), (11, some 4), (14, some 4), (15, some 4), (16, some 4), (17, some 4), (19, some 2), (21, some 3), (24, some 4), (25, some 4), (6, none), (8, none), (9, some 4), (12, some 4), (13, some 4), (18, some 4), (20, none), (22, none), (23, some 4), (26, some 4), (27, some 4), (28, some 4), (29, none)] (by kernel_rfl) (by kernel_rfl) rfl 4 <| htyU (y_move rfl) <| htyU (y_move rfl) <| htyU (y_sub rfl rfl (w64 (by omega) (by omega))) <| htyU (y_idxA1 rfl rfl Tryd.underlying254 sz120 (show ((i - 16 : Nat) : Int) = _ by omega) (by omega)) <| hty (fun m => y_ld1 rfl ag120 ((m.blk 0 rfl).cells0 (i - 16) _ (fill_get hwl (by omega)))) <| htyU (y_move rfl) <| htyU (y_move rfl) <| htyU (y_move rfl) <| htyU (y_wshrD (k := 3) (b := 8) (by decide) rfl rfl rfl) <| htyU (y_move rfl) <| htyU (y_sub rfl rfl (w64 (by omega) (by omega))) <| htyU (y_idxA1 rfl rfl Tryd.underlying254 sz120 (show ((i - 7 : Nat) : Int) = _ by omega) (by omega)) <| hty (fun m => y_ld1 rfl ag120 ((m.blk 0 rfl).cells0 (i - 7) _ (fill_get hwl (by omega)))) <| htyU (y_move rfl) <| htyU (y_move rfl) <| htyU (y_move rfl) <| htyU (y_wshrD (k := 10) (b := 1024) (by decide) rfl rfl rfl) <| ?_
      refine htx (xh_call rfl Tryd.call188 (rotC (by decide) (by decide) (n := 7)) [] rfl [] rfl ?_)
      rintro _ _ _ ⟨rfl, rfl, rfl⟩
      refine ⟨(fun _ => wk [0, 0] [0] rfl rfl), ?_⟩
      refine htx (xh_call rfl Tryd.call188 (rotC (by decide) (by decide) (n := 18)) [] rfl [] rfl ?_)
      rintro _ _ _ ⟨rfl, rfl, rfl⟩
      refine ⟨(fun _ => wk [0, 0] [0] rfl rfl), ?_⟩
      refine htyU (y_wxor rfl rfl) <| htyU (y_wxor rfl rfl) <| htyU (y_wadd rfl rfl) <| htyU (y_wadd rfl rfl) <| ?_
      refine htx (xh_call rfl Tryd.call188 (rotC (by decide) (by decide) (n := 17)) [] rfl [] rfl ?_)
      rintro _ _ _ ⟨rfl, rfl, rfl⟩
      refine ⟨(fun _ => wk [0, 0] [0] rfl rfl), ?_⟩
      refine htx (xh_call rfl Tryd.call188 (rotC (by decide) (by decide) (n := 19)) [] rfl [] rfl ?_)
      rintro _ _ _ ⟨rfl, rfl, rfl⟩
      refine ⟨(fun _ => wk [0, 0] [0] rfl rfl), ?_⟩
      refine htyU (y_wxor rfl rfl) <| htyU (y_wxor rfl rfl) <| htyU (yV (y_wadd rfl rfl) ((rfl : _ = Wd (wnext (wl l i) i)))) <| htyU (y_idxA1 rfl rfl Tryd.underlying254 sz120 rfl (by omega)) <| ?_
      refine htx0 (xh_st1a 0 rfl rfl rfl sz120 rfl (by rw [wds_length]; simp only [List.length_append, List.length_replicate, hwl]; omega) ⟨(fun h => absurd h (by decide)), ?_⟩)
      refine htend <| hsub (ρ' := [(8, _), (7, _), (13, _), (4, _), (10, _), (9, _), (3, _), (2, _), (0, _)]) ⟨rfl, rfl, rfl, rfl, rfl, rfl, rfl, rfl, rfl, trivial⟩ <| hmemQ (X' := [_, _]) (S' := [_]) (fun _ m => m) <| hqblock <| hthen <| hreg <| hy (fun _ => y_add rfl rfl (w64 (by omega) (by omega))) <| hy (fun _ => y_move rfl) <| hend <| hsub (ρ' := [(9, _), (8, _), (7, _), (13, _), (4, _), (10, _), (3, _), (2, _), (0, _)]) ⟨rfl, rfl, rfl, rfl, rfl, rfl, rfl, rfl, rfl, trivial⟩ <| ?_
      refine hmemQ (fun w m => m.eqX 0 rfl (show _ = RBlk g3 254 (wds (wl l (i + 1) ++ List.replicate (64 - (i + 1)) 0)) from by rw [Nat.zero_add, hr64, mid_set hwl, mid_end, hws, hr63])) ?_
      refine hnext1 (i + 1) ⟨rfl, rfl, rfl, rfl, trivial⟩ [0, 0] rfl [0] rfl (by omega) (by omega)
  · obtain rfl : i = 64 := by omega
    refine hmemC (fun w m => m.eqX 0 rfl (show _ = RBlk g3 254 (wds (wl l 64)) from by rw [Nat.sub_self]; simp)) ?_
    refine hexit <| hthen_exit <| hthen_exit <| hqblock_exit <| hthen <| hseq <| hreg <| hy (fun m => yV (y_ldN rfl ag254 sz254 (by rw [wds_length, wl_length]) ((m.blk 0 rfl).cells0)) ((rfl : _ = Value.agg (wds (wl l 64)).toArray))) <| ?_
    refine hx0 (xh_stA 1 rfl rfl rfl sz254 (by rw [wds_length, wl_length]) wds_one rfl ?_)
    refine hend <| hsub (ρ' := [(10, _), (9, _), (3, _), (2, _), (0, _)]) ⟨rfl, rfl, rfl, rfl, rfl, trivial⟩ <| hmemQ (X' := [_, _]) (S' := [_]) (fun _ m => m) <| hthen <| hret <| ?_
    exact hretN trivial rfl rfl ag254 sz254 (by rw [wds_length, wl_length]) (fun m => (m.blk 0 rfl).cells0) [] rfl [] rfl ⟨rfl, rfl, rfl⟩
theorem hsum_length (v h : List UInt32) (i : Nat) : (hsum v h i).length = v.length := by simp [hsum]
theorem mixC {A : Option Addr} {c : Nat} {l : List UInt8} {h : List UInt32} (hc : 64 ≤ c) (hh : h.length = 8) : Con Tryd.prog 154 [.agg (wds h).toArray, .slice A 64 c] [] [RRd 1 A 64 (b8s l), RRoots] (fun v_ X_ S_ => v_ = (.agg (wds (blockL h l)).toArray) ∧ X_ = [] ∧ S_ = []) := by
  refine henter (N := 99) Tryd.func154 rfl rfl (by simp) fun b => ?_
  refine hfactC (fun m => rdB (m.rd 0 rfl)) ?_
  rintro ⟨hl_r, hA_r⟩
  refine hseq <| hreg <| ?_
  refine hx (xh_box rfl (fun g2 => ?_))
  refine hmemL (fun w m => m.eqX 0 rfl (show _ = RBlk g2 222 (wds h) from congrArg (RBlk _ _) (cells_agg _))) ?_
  refine hx (xh_alloc ti222 (fun g4 => ?_))
  refine hend <| hmemQ (X' := [_, _]) (S' := [_, _]) (fun _ m => m) <| hthen <| hseq <| hreg <| hy (fun _ => y_move rfl) <| ?_
  refine hx (xh_call rfl Tryd.call172 (wordsC (by omega)) [] rfl [0] rfl ?_)
  rintro _ _ _ ⟨rfl, rfl, rfl⟩
  obtain ⟨W, hW⟩ : ∃ W, wl l 64 = W := ⟨_, rfl⟩
  have hw64 : W.length = 64 := by rw [← hW]; exact wl_length l 64
  rw [hW]
  refine hx (xh_alloc ti254 (fun g5 => ?_))
  refine hx0 (xh_stA 0 rfl rfl rfl sz254 (by rw [wds_length, hw64]) wds_one rfl ?_)
  refine hend <| hsub (ρ' := [(5, _), (4, _), (2, _), (0, _), (1, _)]) ⟨rfl, rfl, rfl, rfl, rfl, trivial⟩ <| hmemQ (X' := [_, _, _]) (S' := [_, _]) (fun _ m => m) <| hthen <| hseq <| hreg <| hy (fun m => yV (y_ldN rfl ag222 sz222 (by rw [wds_length, hh]) ((m.blk 2 rfl).cells0)) ((rfl : _ = Value.agg (wds h).toArray))) <| ?_
  refine hx (xh_alloc ti222 (fun g6 => ?_))
  refine hx0 (xh_stA 0 rfl rfl rfl sz222 (by rw [wds_length, hh]) wds_one rfl ?_)
  refine hend <| hsub (ρ' := [(6, _), (5, _), (4, _), (2, _), (0, _), (1, _)]) ⟨rfl, rfl, rfl, rfl, rfl, rfl, trivial⟩ <| hmemQ (X' := [_, _, _, _]) (S' := [_, _]) (fun _ m => m) <| hthen <| hseq <| hseq <| hreg <| hy (fun _ => y_move rfl) <| hend <| hthen <| hblock <| ?_
  refine hloop1 (fun i => 64 - i) (fun i => [(16, .int .i64 (i : Nat))]) (fun i => [RBlk g6 222 (wds (rnds W h i))]) (fun i => []) (fun i => i ≤ 64) 0 [(6, _), (5, _), (4, _), (2, _), (0, _), (1, _)] ⟨rfl, rfl, rfl, rfl, rfl, rfl, trivial⟩ [0] rfl [] rfl (Nat.zero_le _) ⟨rfl, trivial⟩ (fun i hI => ?_)
  have hv := rnds_length (w := W) hh i
  have hro : rootsL.length = 64 := rfl
  refine hseq <| hreg <| hy (fun _ => y_lss rfl rfl) <| hend <| hthen <| hseq <| ?_
  refine hif rfl (fun hlt => ?_) (fun hlt => ?_)
  · generalize hvd : rnds W h i = v at hv ⊢
    refine hcskip <| hthen <| hseq <| hblock <| hseq <| hreg <| hy (fun _ => y_move rfl) <| hy (fun _ => y_assign rfl) <| hend <| hsub (ρ' := [(7, _), (17, _), (16, _), (6, _), (5, _), (4, _), (2, _), (0, _), (1, _)]) ⟨rfl, rfl, rfl, rfl, rfl, rfl, rfl, rfl, rfl, trivial⟩ <| hthen <| hseq <| hdrw [] [(0, some 0), (1, some 0), (2, some 0), (3, some 0), (4, some 0), (5, some 0)] (by kernel_rfl) (by kernel_rfl) rfl 99 <| htyU (y_idxA1 rfl rfl Tryd.underlying222 sz120 (show ((4 : Nat) : Int) = 4 from rfl) (by omega)) <| hty (fun m => y_ld1 rfl ag120 ((m.blk 0 rfl).cells0 4 _ (wds_get (by omega)))) <| htyU (y_idxA1 rfl rfl Tryd.underlying222 sz120 (show ((0 : Nat) : Int) = 0 from rfl) (by omega)) <| hty (fun m => y_ld1 rfl ag120 ((m.blk 0 rfl).cells0 0 _ (wds_get (by omega)))) <| htyU (y_assign rfl) <| htyU (y_assign rfl) <| htend <| hsub (ρ' := [(9, _), (8, _), (7, _), (17, _), (16, _), (6, _), (5, _), (4, _), (2, _), (0, _), (1, _)]) ⟨rfl, rfl, rfl, rfl, rfl, rfl, rfl, rfl, rfl, rfl, rfl, trivial⟩ <| hthen <| hseq <| hdrw [3] [(0, some 1), (1, some 1), (2, some 0), (5, some 1), (6, some 1), (7, some 1), (8, some 1), (9, some 1), (10, some 1), (11, some 1), (12, some 1), (13, some 1), (14, some 1), (16, some 1), (17, some 1), (18, some 1), (20, some 1), (21, some 1), (22, some 1), (3, none), (4, some 1), (15, some 1), (19, some 1), (23, some 1), (24, some 1)] (by kernel_rfl) (by kernel_rfl) rfl 99 <| htyU (y_idxA1 rfl rfl Tryd.underlying222 sz120 (show ((7 : Nat) : Int) = 7 from rfl) (by omega)) <| hty (fun m => y_ld1 rfl ag120 ((m.blk 0 rfl).cells0 7 _ (wds_get (by omega)))) <| htyU (y_move rfl) <| htyU (y_move rfl) <| htyU (y_idxA1 rfl rfl Tryd.underlying222 sz120 (show ((5 : Nat) : Int) = 5 from rfl) (by omega)) <| hty (fun m => y_ld1 rfl ag120 ((m.blk 0 rfl).cells0 5 _ (wds_get (by omega)))) <| htyU (y_wand rfl rfl) <| htyU (y_move rfl) <| htyU (y_wnot rfl) <| htyU (y_idxA1 rfl rfl Tryd.underlying222 sz120 (show ((6 : Nat) : Int) = 6 from rfl) (by omega)) <| hty (fun m => y_ld1 rfl ag120 ((m.blk 0 rfl).cells0 6 _ (wds_get (by omega)))) <| htyU (y_wand rfl rfl) <| htyU (y_wxor rfl rfl) <| htyU (y_move rfl) <| htyU (y_idxA1 rfl rfl Tryd.underlying254 sz120 rfl (by omega)) <| hty (fun m => y_ld1 rfl ag120 ((show Rd _ 1 _ 64 (wds rootsL) from m.sres 1 rfl).cell (j := i) (wds_get (by omega)))) <| htyU (y_move rfl) <| htyU (y_idxA1 rfl rfl Tryd.underlying254 sz120 rfl (by omega)) <| hty (fun m => y_ld1 rfl ag120 ((m.blk 1 rfl).cells0 i _ (wds_get (by omega)))) <| ?_
    refine htx (xh_call rfl Tryd.call173 (turnedC (by decide) (by decide) (by decide) (n1 := 6) (n2 := 11) (n3 := 25)) [] rfl [] rfl ?_)
    rintro _ _ _ ⟨rfl, rfl, rfl⟩
    refine ⟨(fun _ => wk [0, 0, 0, 0] [0, 1] rfl rfl), ?_⟩
    refine htyU (y_wadd rfl rfl) <| htyU (y_wadd rfl rfl) <| htyU (y_wadd rfl rfl) <| ?_
    generalize hk : rootsL.getD i 0 = k
    refine htyU (yV (y_wadd rfl rfl) ((rfl : _ = Wd (rt v k (W.getD i 0))))) <| htyU (y_assign rfl) <| htend <| hsub (ρ' := [(10, _), (9, _), (8, _), (7, _), (17, _), (16, _), (6, _), (5, _), (4, _), (2, _), (0, _), (1, _)]) ⟨rfl, rfl, rfl, rfl, rfl, rfl, rfl, rfl, rfl, rfl, rfl, rfl, trivial⟩ <| hmemQ (X' := [_, _, _, _]) (S' := [_, _]) (fun _ m => m) <| hthen <| hseq <| hdrw [1] [(0, some 0), (2, some 1), (3, some 1), (4, some 1), (5, some 1), (6, some 1), (7, some 1), (8, some 1), (9, some 1), (10, some 1), (11, some 1), (12, some 1), (13, some 1), (14, some 1), (15, some 1), (16, some 1), (1, none), (17, some 1), (18, some 1)] (by kernel_rfl) (by kernel_rfl) rfl 99 <| htyU (y_move rfl) <| htyU (y_move rfl) <| htyU (y_idxA1 rfl rfl Tryd.underlying222 sz120 (show ((1 : Nat) : Int) = 1 from rfl) (by omega)) <| hty (fun m => y_ld1 rfl ag120 ((m.blk 0 rfl).cells0 1 _ (wds_get (by omega)))) <| htyU (y_wand rfl rfl) <| htyU (y_move rfl) <| htyU (y_idxA1 rfl rfl Tryd.underlying222 sz120 (show ((2 : Nat) : Int) = 2 from rfl) (by omega)) <| hty (fun m => y_ld1 rfl ag120 ((m.blk 0 rfl).cells0 2 _ (wds_get (by omega)))) <| htyU (y_wand rfl rfl) <| htyU (y_wxor rfl rfl) <| htyU (y_idxA1 rfl rfl Tryd.underlying222 sz120 (show ((1 : Nat) : Int) = 1 from rfl) (by omega)) <| hty (fun m => y_ld1 rfl ag120 ((m.blk 0 rfl).cells0 1 _ (wds_get (by omega)))) <| htyU (y_idxA1 rfl rfl Tryd.underlying222 sz120 (show ((2 : Nat) : Int) = 2 from rfl) (by omega)) <| hty (fun m => y_ld1 rfl ag120 ((m.blk 0 rfl).cells0 2 _ (wds_get (by omega)))) <| htyU (y_wand rfl rfl) <| htyU (y_wxor rfl rfl) <| ?_
    refine htx (xh_call rfl Tryd.call173 (turnedC (by decide) (by decide) (by decide) (n1 := 2) (n2 := 13) (n3 := 22)) [] rfl [] rfl ?_)
    rintro _ _ _ ⟨rfl, rfl, rfl⟩
    refine ⟨(fun _ => wk [0, 0, 0, 0] [0, 1] rfl rfl), ?_⟩
    refine htyU (yV (y_wadd rfl rfl) ((rfl : _ = Wd (ru v)))) <| htyU (y_assign rfl) <| htend <| hsub (ρ' := [(11, _), (10, _), (9, _), (8, _), (7, _), (17, _), (16, _), (6, _), (5, _), (4, _), (2, _), (0, _), (1, _)]) ⟨rfl, rfl, rfl, rfl, rfl, rfl, rfl, rfl, rfl, rfl, rfl, rfl, rfl, trivial⟩ <| hmemQ (X' := [_, _, _, _]) (S' := [_, _]) (fun _ m => m) <| hthen <| hreg <| hy (fun _ => y_move rfl) <| hy (fun _ => y_move rfl) <| hy (fun _ => y_wadd rfl rfl) <| hy (fun _ => y_idxA1 rfl rfl Tryd.underlying222 sz120 (show ((0 : Nat) : Int) = 0 from rfl) (by omega)) <| hy (fun m => y_ld1 rfl ag120 ((m.blk 0 rfl).cells0 0 _ (wds_get (by omega)))) <| hy (fun _ => y_idxA1 rfl rfl Tryd.underlying222 sz120 (show ((1 : Nat) : Int) = 1 from rfl) (by omega)) <| hy (fun m => y_ld1 rfl ag120 ((m.blk 0 rfl).cells0 1 _ (wds_get (by omega)))) <| hy (fun _ => y_idxA1 rfl rfl Tryd.underlying222 sz120 (show ((2 : Nat) : Int) = 2 from rfl) (by omega)) <| hy (fun m => y_ld1 rfl ag120 ((m.blk 0 rfl).cells0 2 _ (wds_get (by omega)))) <| hy (fun _ => y_idxA1 rfl rfl Tryd.underlying222 sz120 (show ((3 : Nat) : Int) = 3 from rfl) (by omega)) <| hy (fun m => y_ld1 rfl ag120 ((m.blk 0 rfl).cells0 3 _ (wds_get (by omega)))) <| hy (fun _ => y_move rfl) <| hy (fun _ => y_wadd rfl rfl) <| hy (fun _ => y_idxA1 rfl rfl Tryd.underlying222 sz120 (show ((4 : Nat) : Int) = 4 from rfl) (by omega)) <| hy (fun m => y_ld1 rfl ag120 ((m.blk 0 rfl).cells0 4 _ (wds_get (by omega)))) <| hy (fun _ => y_idxA1 rfl rfl Tryd.underlying222 sz120 (show ((5 : Nat) : Int) = 5 from rfl) (by omega)) <| hy (fun m => y_ld1 rfl ag120 ((m.blk 0 rfl).cells0 5 _ (wds_get (by omega)))) <| hy (fun _ => y_idxA1 rfl rfl Tryd.underlying222 sz120 (show ((6 : Nat) : Int) = 6 from rfl) (by omega)) <| hy (fun m => y_ld1 rfl ag120 ((m.blk 0 rfl).cells0 6 _ (wds_get (by omega)))) <| hy (fun _ => yV (y_buildA (n := 8) ti222 (by kernel_rfl) rfl (by kernel_rfl) rfl (by kernel_rfl) (by kernel_rfl) (wds_cells (l := [_, _, _, _, _, _, _, _]))) ((rfl : _ = Value.agg (wds (rnd v k (W.getD i 0))).toArray))) <| ?_
    refine hx0 (xh_stA 0 rfl rfl rfl sz222 rfl wds_one (by rw [wds_length, hv]) ?_)
    refine hend <| hsub (ρ' := [(11, _), (10, _), (9, _), (8, _), (7, _), (17, _), (16, _), (6, _), (5, _), (4, _), (2, _), (0, _), (1, _)]) ⟨rfl, rfl, rfl, rfl, rfl, rfl, rfl, rfl, rfl, rfl, rfl, rfl, rfl, trivial⟩ <| hmemQ (X' := [_, _, _, _]) (S' := [_, _]) (fun _ m => m) <| hqblock <| hthen <| hreg <| hy (fun _ => y_add rfl rfl (w64 (by omega) (by omega))) <| hy (fun _ => y_move rfl) <| hend <| hsub (ρ' := [(16, _), (11, _), (10, _), (9, _), (8, _), (7, _), (17, _), (6, _), (5, _), (4, _), (2, _), (0, _), (1, _)]) ⟨rfl, rfl, rfl, rfl, rfl, rfl, rfl, rfl, rfl, rfl, rfl, rfl, rfl, trivial⟩ <| ?_
    refine hmemQ (fun w m => m.eqX 0 rfl (show _ = RBlk g6 222 (wds (rnds W h (i + 1))) from by rw [← hvd, ← hk]; rfl)) ?_
    refine hnext1 (i + 1) ⟨rfl, rfl, rfl, rfl, rfl, rfl, rfl, trivial⟩ [0, 0, 0, 0] rfl [0, 1] rfl (by omega) (by omega)
  · obtain rfl : i = 64 := by omega
    generalize hvv : rnds W h 64 = v at hv ⊢
    refine hmemC (fun w m => m.eqX 0 rfl (show _ = RBlk g6 222 (wds (hsum v h 0)) from by rw [hsum_zero])) ?_
    refine hexit <| hthen_exit <| hthen_exit <| hqblock_exit <| hthen <| hseq <| hseq <| hreg <| hy (fun _ => y_move rfl) <| hend <| hthen <| hblock <| ?_
    refine hloop1 (fun j => 8 - j) (fun j => [(86, .int .i64 (j : Nat))]) (fun j => [RBlk g6 222 (wds (hsum v h j))]) (fun j => []) (fun j => j ≤ 8) 0 [(17, _), (16, _), (6, _), (5, _), (4, _), (2, _), (0, _), (1, _)] ⟨rfl, rfl, rfl, rfl, rfl, rfl, rfl, rfl, trivial⟩ [0] rfl [] rfl (Nat.zero_le _) ⟨rfl, trivial⟩ (fun j hj8 => ?_)
    have hsl := hsum_length v h j
    refine hseq <| hreg <| hy (fun _ => y_lss rfl rfl) <| hend <| hthen <| hseq <| ?_
    refine hif rfl (fun hj => ?_) (fun hj => ?_)
    · refine hcskip <| hthen <| hseq <| hblock <| hseq <| hreg <| hy (fun _ => y_move rfl) <| hy (fun _ => y_assign rfl) <| hend <| hsub (ρ' := [(12, _), (87, _), (86, _), (17, _), (16, _), (6, _), (5, _), (4, _), (2, _), (0, _), (1, _)]) ⟨rfl, rfl, rfl, rfl, rfl, rfl, rfl, rfl, rfl, rfl, rfl, trivial⟩ <| hthen <| hdrw [8] [(0, some 0), (1, some 0), (2, some 0), (3, some 0), (4, some 0), (5, some 0), (6, some 0), (7, some 0), (8, none)] (by kernel_rfl) (by kernel_rfl) rfl 0 <| htyU (y_move rfl) <| htyU (y_idxA1 rfl rfl Tryd.underlying222 sz120 rfl (by omega)) <| hty (fun m => y_ld1 rfl ag120 ((m.blk 0 rfl).cells0 j _ (wds_get (by omega)))) <| htyU (y_move rfl) <| htyU (y_idxA1 rfl rfl Tryd.underlying222 sz120 rfl (by omega)) <| hty (fun m => y_ld1 rfl ag120 ((m.blk 3 rfl).cells0 j _ (wds_get (by omega)))) <| htyU (yV (y_wadd rfl rfl) ((rfl : _ = Wd (v_ (hsum v h j) j + v_ h j)))) <| htyU (y_idxA1 rfl rfl Tryd.underlying222 sz120 rfl (by omega)) <| ?_
      refine htx0 (xh_st1a 0 rfl rfl rfl sz120 rfl (by rw [wds_length]; omega) ⟨(fun h => absurd h (by decide)), ?_⟩)
      refine htend <| hsub (ρ' := [(12, _), (87, _), (86, _), (17, _), (16, _), (6, _), (5, _), (4, _), (2, _), (0, _), (1, _)]) ⟨rfl, rfl, rfl, rfl, rfl, rfl, rfl, rfl, rfl, rfl, rfl, trivial⟩ <| hmemQ (X' := [_, _, _, _]) (S' := [_, _]) (fun _ m => m) <| hqblock <| hthen <| hreg <| hy (fun _ => y_add rfl rfl (w64 (by omega) (by omega))) <| hy (fun _ => y_move rfl) <| hend <| hsub (ρ' := [(86, _), (12, _), (87, _), (17, _), (16, _), (6, _), (5, _), (4, _), (2, _), (0, _), (1, _)]) ⟨rfl, rfl, rfl, rfl, rfl, rfl, rfl, rfl, rfl, rfl, rfl, trivial⟩ <| ?_
      refine hmemQ (fun w m => m.eqX 0 rfl (show _ = RBlk g6 222 (wds (hsum v h (j + 1))) from by rw [Nat.zero_add, wds_set, hsum_succ (by omega)])) ?_
      refine hnext1 (j + 1) ⟨rfl, rfl, rfl, rfl, rfl, rfl, rfl, rfl, rfl, trivial⟩ [0, 0, 0, 0] rfl [0, 1] rfl (by omega) (by omega)
    · obtain rfl : j = 8 := by omega
      have hB : hsum v h 8 = blockL h l := by rw [blockL, hW, hvv]
      rw [hB]
      have hbl := blockL_length hh l
      refine hexit <| hthen_exit <| hthen_exit <| hqblock_exit <| hthen <| hseq <| hreg <| hy (fun m => yV (y_ldN rfl ag222 sz222 (by rw [wds_length, hbl]) ((m.blk 0 rfl).cells0)) ((rfl : _ = Value.agg (wds (blockL h l)).toArray))) <| ?_
      refine hx0 (xh_stA 2 rfl rfl rfl sz222 (by rw [wds_length, hbl]) wds_one rfl ?_)
      refine hend <| hsub (ρ' := [(87, _), (86, _), (17, _), (16, _), (6, _), (5, _), (4, _), (2, _), (0, _), (1, _)]) ⟨rfl, rfl, rfl, rfl, rfl, rfl, rfl, rfl, rfl, rfl, trivial⟩ <| hmemQ (X' := [_, _, _, _]) (S' := [_, _]) (fun _ m => m) <| hthen <| hret <| ?_
      exact hretN trivial rfl rfl ag222 sz222 (by rw [wds_length, hbl]) (fun m => (m.blk 0 rfl).cells0) [] rfl [] rfl ⟨rfl, rfl, rfl⟩
end Go.Proofs.YtfikjheicjamhaaDoor
end
section
/- What the condition 'laid' gives: the program's table of words. -/
set_option linter.unusedVariables false
set_option linter.unusedSimpArgs false
set_option maxRecDepth 100000
namespace Go.Proofs.YtfikjheicjamhaaDoor
open Go.Eng Go.Hx Go.ChangeShapes Go.WideShapes Go.ChangeAt Go.WideMaps Go.WideElems Go.RowKit
theorem gRoots : Tryd.prog.globalNamed "lighterage/sha.roots" = some 0 := by kernel_rfl
theorem tRoots : (Tryd.prog.globals[0]?).map (·.type) = some 254 := by kernel_rfl
theorem roots_list : (Rows.laid_lighterage_sha_roots : DataW Unit) = .agg (rootsL.map fun x => .lit (.int .u32 (x.toNat : Int))) := by kernel_rfl
theorem door_met (os : Os) (args : Array Value) : laidMetH Tryd.prog [("lighterage/sha.roots", Rows.laid_lighterage_sha_roots)] ((World.doorLaid Tryd.prog 400 os).forCall (fun _ _ => 0) ⟨#[], args, []⟩).memory :=
  laidMetH_of_parts3 (fuel := 8) (laidMet_of_run' 8 (by kernel_rfl) (by kernel_rfl)) (by kernel_rfl) (by kernel_rfl)
theorem roots_of_laid {W : World} (h : laidMetH Tryd.prog [("lighterage/sha.roots", Rows.laid_lighterage_sha_roots)] W) : RRoots.holds W := by
  rw [MakeChecks.laidMetH_plain _ _ _ (by kernel_rfl)] at h
  obtain ⟨ps, ⟨g0, t0, cs0, f0, p0, q0, hg0, ht0, hv0, hd0, _, _⟩, _, _⟩ := h
  obtain rfl := Option.some.inj (gRoots.symm.trans hg0)
  obtain rfl := Option.some.inj (tRoots.symm.trans ht0)
  rw [roots_list] at hd0
  obtain ⟨xs, m1, rfl, hx1, hlen, hn, hel⟩ := DataW.trod_array Tryd.underlying254 hd0
  have c3 : Tryd.prog.cellsOf 120 = 1 := by kernel_rfl
  simp only [Prod.mk.injEq, DataW.agg.injEq] at hx1
  refine ⟨by rw [wds_length]; rfl, fun _ => by simp, fun j u hu => ?_⟩
  have hj : j < 64 := by
    obtain ⟨h1, _⟩ := List.getElem?_eq_some_iff.1 hu
    rw [wds_length] at h1
    exact h1
  have h0 := hel j hj
  have hxj : (xs.map (·.1))[j]? = (rootsL.map fun x => DataW.lit (Lit.int .u32 (x.toNat : Int)))[j]? := by rw [← hx1.1]
  obtain ⟨y, hy⟩ : ∃ y, xs[j]? = some y := ⟨_, List.getElem?_eq_getElem (by omega)⟩
  rw [hy] at h0
  obtain ⟨n, e1, e2, _⟩ := DataW.trod_int Tryd.underlying120 h0
  rw [List.getElem?_map, hy, List.getElem?_map] at hxj
  rw [wds, List.getElem?_map] at hu
  cases hr : rootsL[j]? with
  | none => rw [hr] at hu; cases hu
  | some r =>
    rw [hr] at hu hxj
    rw [e2] at hxj
    have hn2 : n = (r.toNat : Int) := by simpa using hxj
    have hu2 : u = .int .u32 (r.toNat : Int) := by simpa using hu.symm
    have h5 := World.var?_cell hg0 hv0 j
    rw [c3, Nat.mul_one] at e1
    have h6 : cs0[j]? = some (.int .u32 n) := by
      have h7 : (List.take 1 (List.drop j cs0.toList))[0]? = some (.int .u32 n) := by rw [e1]; rfl
      rw [List.getElem?_take, if_pos (by decide), List.getElem?_drop, Nat.add_zero] at h7
      simpa using h7
    show W.cell? ((Option.getD (some _) d0).add j) = some u
    rw [hu2, ← hn2, ← h6, ← h5]
    have e : (⟨0, 0, none⟩ : Addr).add j = ⟨0, j, none⟩ := by simp [Addr.add]; omega
    exact congrArg W.cell? e
end Go.Proofs.YtfikjheicjamhaaDoor
end
section
/- Contracts: the program's digest of bytes (layer 2): its state. -/
set_option linter.unusedVariables false
set_option linter.unusedSimpArgs false
set_option maxRecDepth 20000
namespace Go.Proofs.YtfikjheicjamhaaDoor
open Go.Eng Go.Hx
structure ShSt where
  h : List UInt32
  n : Nat
  A : Option Addr
  c : Nat
  rest : List UInt8
def stc (h : List UInt32) (n : Nat) (A : Option Addr) (m c : Nat) : List Value := wds h ++ [.int .i64 (n : Int), .slice A m c]
abbrev RSha (g : Nat) (s : ShSt) : Res := RPack [RBlk g 224 (stc s.h s.n s.A s.rest.length s.c), ROwn 5 1 (.slice s.A s.rest.length s.c) s.rest.length (b8s s.rest)]
/-- what a state has gone through -/
structure ShSt.ok (s : ShSt) (all : List UInt8) : Prop where
  len : s.h.length = 8
  n : s.n = all.length
  mid : ∃ d, d ++ s.rest = all ∧ d.length % 64 = 0 ∧ s.h = foldB h0L d
theorem stc_len {h : List UInt32} {n : Nat} {A : Option Addr} {m c : Nat} (hh : h.length = 8) : (stc h n A m c).length = 10 := by simp [stc, wds, hh]
theorem stc_8 {h : List UInt32} {n : Nat} {A : Option Addr} {m c : Nat} (hh : h.length = 8) : (stc h n A m c)[8]? = some (.int .i64 (n : Int)) := by
  rw [stc, List.getElem?_append_right (by rw [wds_length]; omega), wds_length, hh]; rfl
theorem stc_9 {h : List UInt32} {n : Nat} {A : Option Addr} {m c : Nat} (hh : h.length = 8) : (stc h n A m c)[9]? = some (.slice A m c) := by
  rw [stc, List.getElem?_append_right (by rw [wds_length]; omega), wds_length, hh]; rfl
theorem stc_h {h : List UInt32} {n : Nat} {A : Option Addr} {m c : Nat} {j : Nat} {u : Value} (hu : (wds h)[j]? = some u) : (stc h n A m c)[j]? = some u := by
  rw [stc, List.getElem?_append_left ((List.getElem?_eq_some_iff.1 hu).1)]; exact hu
theorem stc_set8 {h : List UInt32} {n n' : Nat} {A : Option Addr} {m c : Nat} (hh : h.length = 8) : (stc h n A m c).set 8 (.int .i64 (n' : Int)) = stc h n' A m c := by
  rw [stc, List.set_append_right _ _ (by rw [wds_length]; omega), wds_length, hh]; rfl
theorem stc_set9 {h : List UInt32} {n : Nat} {A A' : Option Addr} {m c m' c' : Nat} (hh : h.length = 8) : (stc h n A m c).set 9 (.slice A' m' c') = stc h n A' m' c' := by
  rw [stc, List.set_append_right _ _ (by rw [wds_length]; omega), wds_length, hh]; rfl
theorem stc_spl {h h' : List UInt32} {n : Nat} {A : Option Addr} {m c : Nat} (hh : h.length = 8) (hh' : h'.length = 8) : splice (stc h n A m c) 0 (wds h') = stc h' n A m c := by
  rw [splice, List.take_zero, List.nil_append, Nat.zero_add, wds_length, hh', stc, List.drop_append_of_le_length (by rw [wds_length]; omega), List.drop_of_length_le (by rw [wds_length]; omega)]; rfl
theorem newSC  : Con Tryd.prog 128 [] [] [] (fun v_ X_ S_ => ∃ g, v_ = (.pointer (some ⟨g, 0, none⟩)) ∧ X_ = [RSha g ⟨h0L, 0, none, 0, []⟩] ∧ S_ = []) := by
  refine henter (N := 4) Tryd.func128 rfl rfl (by simp) fun b => ?_
  refine hseq <| hreg <| hy (fun _ => y_assign rfl) <| hend <| hthen <| hseq <| hreg <| hy (fun _ => yV (y_buildA (n := 8) ti222 (by kernel_rfl) rfl (by kernel_rfl) rfl (by kernel_rfl) (by kernel_rfl) (wds_cells (l := [1779033703, 3144134277, 1013904242, 2773480762, 1359893119, 2600822924, 528734635, 1541459225]))) ((rfl : _ = Value.agg (wds h0L).toArray))) <| hy (fun _ => yV (y_build ti224 rfl rfl (by kernel_rfl) (.cons (o := 0) (sz := 8) (by kernel_rfl) rfl rfl (Nat.le_of_ble_eq_true rfl) .nil)) ((rfl : _ = Value.agg (stc h0L 0 none 0 0).toArray))) <| ?_
  refine hx (xh_box rfl (fun g3 => ?_))
  refine hy (fun _ => y_assign rfl) <| hend <| hsub (ρ' := [(0, _)]) ⟨rfl, trivial⟩ <| hmemQ (X' := [_]) (S' := []) (fun _ m => m) <| hthen <| hret <| ?_
  refine hmemQ (fun w m => m.eqX 0 rfl (show _ = RBlk g3 224 (stc h0L 0 none 0 0) from congrArg (RBlk _ _) (cells_agg _))) ?_
  refine hmemQ (fun w m => m.addX (r' := ROwn 5 1 (.slice none 0 0) 0 []) (.refl _ _) (Own.nil _ _ _ _) (fun k hk => hk.elim)) ?_
  refine hmemQ (X' := RSha g3 ⟨h0L, 0, none, 0, []⟩ :: _) (fun w m => (m.perm (takeR_perm [1, 0] _ [_, _] _ rfl)).pack) ?_
  exact hret1 trivial rfl rfl [0] rfl [] rfl ⟨_, rfl, rfl, rfl⟩
theorem ok_new : ShSt.ok ⟨h0L, 0, none, 0, []⟩ [] := ⟨rfl, rfl, [], rfl, rfl, rfl⟩
theorem writeSC {g : Nat} {s : ShSt} {B : Option Addr} {mb mc : Nat} {l : List UInt8} (hh : s.h.length = 8) (hn : s.n + mb ≤ 1000000000000000) (hr : s.rest.length + mb ≤ 140737488355328) : Con Tryd.prog 129 [.pointer (some ⟨g, 0, none⟩), .slice B mb mc] [RSha g s] [RRd 1 B mb (b8s l), RRoots] (fun v_ X_ S_ => ∃ s1, v_ = (.tuple #[]) ∧ X_ = [RSha g s1] ∧ S_ = [] ∧ (s1.rest.length < 64 ∧ ∀ all, s.ok all → s1.ok (all ++ l))) := by
  refine henter (N := 49) Tryd.func129 rfl rfl (by simp) fun b => ?_
  refine hfactC (fun m => rdB (m.rd 0 rfl)) ?_
  rintro ⟨hl_r, hA_r⟩
  have hlm : l.length = mb := hl_r
  have hl0 := stc_len (n := s.n) (A := s.A) (m := s.rest.length) (c := s.c) hh
  refine hmemC (fun w m => (m.perm (takeR_perm [0] _ [_] _ rfl)).unpack) ?_
  refine hseq <| hreg <| hy (fun _ => y_move rfl) <| hy (fun _ => y_nilp rfl) <| hy (fun _ => y_fld rfl fa224_1 (by decide)) <| hy (fun m => y_ld1 rfl ag3 ((m.blk 0 rfl).cells0 8 _ (stc_8 hh))) <| hy (fun _ => y_move rfl) <| hy (fun _ => y_lenS rfl Tryd.underlying32) <| hy (fun _ => y_add rfl rfl (w64 (by omega) (by omega))) <| hy (fun _ => y_nilp rfl) <| hy (fun _ => y_fld rfl fa224_1 (by decide)) <| ?_
  refine hx0 (xh_st1a 0 rfl rfl rfl sz3 rfl (by rw [hl0]; decide) ?_)
  refine hend <| hsub (ρ' := [(0, _), (1, _)]) ⟨rfl, rfl, trivial⟩ <| hmemQ (X' := [_, _]) (S' := [_, _]) (fun _ m => m) <| hthen <| hseq <| hreg <| ?_
  refine hmemL (fun w m => m.eqX 0 rfl (show _ = RBlk g 224 (stc s.h (s.n + mb) s.A s.rest.length s.c) from by rw [Nat.zero_add, ← Int.natCast_add, stc_set8 hh])) ?_
  refine hy (fun _ => y_move rfl) <| hy (fun _ => y_move rfl) <| hy (fun _ => y_nilp rfl) <| hy (fun _ => y_fld rfl fa224_2 (by decide)) <| hy (fun m => y_ld1 rfl ag32 ((m.blk 0 rfl).cells0 9 _ (stc_9 hh))) <| hy (fun _ => y_move rfl) <| ?_
  refine hx (xh_app 1 rfl rfl rfl Tryd.underlying32 Tryd.underlying32 (by exact .inl rfl) ti5 rfl (fun m => Src.of_rd (m.rd 0 rfl)) b8s_one (by unfold maxLen; omega) (by omega) (fun u => ?_))
  refine hfactL (fun m => (m.own 0 rfl).slice) ?_
  rintro ⟨A_d1, c_d1, rfl, hc_d1⟩
  refine hfactL (fun m => (m.ord 0 rfl).2.1) fun hA_d1 => ?_
  refine hmemL (fun w m => m.eqX 0 rfl (show _ = ROwn 5 1 (.slice A_d1 (s.rest ++ l).length c_d1) (s.rest ++ l).length (b8s (s.rest ++ l)) from by rw [List.length_append, hlm]; simp [b8s])) ?_
  have hls := stc_len (n := s.n + mb) (A := s.A) (m := s.rest.length) (c := s.c) hh
  refine hy (fun _ => y_nilp rfl) <| hy (fun _ => y_fld rfl fa224_2 (by decide)) <| ?_
  refine hx0 (xh_st1a 1 rfl rfl rfl sz32 rfl (by rw [hls]; decide) ?_)
  refine hend <| hsub (ρ' := [(0, _), (1, _)]) ⟨rfl, rfl, trivial⟩ <| hmemQ (X' := [_, _]) (S' := [_, _]) (fun _ m => m) <| hthen <| hblock <| ?_
  refine hmemC (fun w m => m.eqX 0 rfl (show _ = RBlk g 224 (stc s.h (s.n + mb) A_d1 (s.rest ++ l).length c_d1) from by rw [Nat.zero_add, stc_set9 hh, List.length_append, hlm])) ?_
  have hlen : (s.rest ++ l).length = s.rest.length + mb := by rw [List.length_append, hlm]
  refine hloop5 (fun h A1 c1 q dn => q.length) (fun h A1 c1 q dn => []) (fun h A1 c1 q dn => [RBlk g 224 (stc h (s.n + mb) A1 q.length c1), ROwn 5 1 (.slice A1 q.length c1) q.length (b8s q)]) (fun h A1 c1 q dn => []) (fun h A1 c1 q dn => h.length = 8 ∧ q.length ≤ c1 ∧ dn ++ q = s.rest ++ l ∧ dn.length % 64 = 0 ∧ ∀ D, D.length % 64 = 0 → s.h = foldB h0L D → h = foldB h0L (D ++ dn)) s.h A_d1 c_d1 (s.rest ++ l) [] [(0, _), (1, _)] ⟨rfl, rfl, trivial⟩ [0, 0] rfl [] rfl (⟨hh, (by omega), rfl, rfl, fun D _ e => by rw [List.append_nil]; exact e⟩) trivial (fun h A1 c1 q dn ⟨h8, hqc, hdq, hd64, hD⟩ => ?_)
  have hls := stc_len (n := s.n + mb) (A := A1) (m := q.length) (c := c1) h8
  refine hseq <| hseq <| hreg <| hy (fun _ => y_move rfl) <| hy (fun _ => y_nilp rfl) <| hy (fun _ => y_fld rfl fa224_2 (by decide)) <| hy (fun m => y_ld1 rfl ag32 ((m.blk 0 rfl).cells0 9 _ (stc_9 h8))) <| hy (fun _ => y_lenS rfl Tryd.underlying32) <| hy (fun _ => y_geq rfl rfl) <| hend <| hsub (ρ' := [(27, _), (0, _), (1, _)]) ⟨rfl, rfl, rfl, trivial⟩ <| hthen <| ?_
  refine hif rfl (fun hge => ?_) (fun hge => ?_)
  · have hq64 : 64 ≤ q.length := by omega
    refine hcskip <| hthen <| hblock <| hseq <| hdrw [10, 13] [(0, some 1), (1, some 0), (2, some 0), (3, some 0), (4, some 0), (5, some 1), (6, some 0), (7, some 0), (8, some 0), (9, some 0), (10, none), (11, some 1), (12, some 1), (13, none)] (by kernel_rfl) (by kernel_rfl) rfl 1 <| htyU (y_move rfl) <| htyU (y_move rfl) <| htyU (y_nilp rfl) <| htyU (y_fld rfl fa224_0 (by decide)) <| hty (fun m => yV (y_ldN rfl ag222 sz222 (by rw [wds_length, h8]) (fun j u hu => (m.blk 0 rfl).cells0 j u (stc_h hu))) ((rfl : _ = Value.agg (wds h).toArray))) <| htyU (y_move rfl) <| htyU (y_nilp rfl) <| htyU (y_fld rfl fa224_2 (by decide)) <| hty (fun m => y_ld1 rfl ag32 ((m.blk 0 rfl).cells0 9 _ (stc_9 h8))) <| htyU (y_slTo rfl rfl Tryd.underlying32 sz5 (show ((64 : Nat) : Int) = 64 from rfl) (by omega)) <| ?_
    refine htx (xh_calll rfl Tryd.call154 (mixC (by omega) h8 (l := (q.take 64))) [] rfl (.x 1 rfl (View.own.trans (View.take hq64)) (.s 1 rfl .nil)) ?_)
    rintro _ _ _ ⟨rfl, rfl, rfl⟩
    refine ⟨rfl, ?_⟩
    refine ⟨(fun _ => wk [0, 0] [0, 1] rfl rfl), ?_⟩
    refine htyU (y_nilp rfl) <| htyU (y_fld rfl fa224_0 (by decide)) <| ?_
    have hb8 := blockL_length h8 (q.take 64)
    refine htx0 (xh_stNa 0 rfl rfl rfl sz222 (by rw [wds_length, hb8]) wds_one (by rw [hls]; decide) ⟨(fun h => absurd h (by decide)), ?_⟩)
    refine htmem (fun w m => m.eqX 0 rfl (show _ = RBlk g 224 (stc (blockL h (q.take 64)) (s.n + mb) A1 q.length c1) from by rw [Nat.zero_add, stc_spl h8 hb8])) ?_
    have hls2 := stc_len (n := s.n + mb) (A := A1) (m := q.length) (c := c1) hb8
    refine htmem (X' := ROwn 5 1 (.slice (if c1 = 64 then A1 else A1.map (·.add (64 * 1))) (q.length - 64) (c1 - 64)) (q.length - 64) ((b8s q).drop (64 * 1)) :: _) (fun w m => (m.perm (takeR_perm [1] _ [_] _ rfl)).viewX (View.ownDrop hq64 hqc)) ?_
    refine htend <| hsub (ρ' := [(27, _), (0, _), (1, _)]) ⟨rfl, rfl, rfl, trivial⟩ <| hmemQ (X' := [_, _]) (S' := [_, _]) (fun _ m => m) <| hthen <| hreg <| hy (fun _ => y_move rfl) <| hy (fun _ => y_move rfl) <| hy (fun _ => y_nilp rfl) <| hy (fun _ => y_fld rfl fa224_2 (by decide)) <| hy (fun m => y_ld1 rfl ag32 ((m.blk 1 rfl).cells0 9 _ (stc_9 hb8))) <| hy (fun _ => y_slFrom rfl rfl Tryd.underlying32 sz5 (show ((64 : Nat) : Int) = 64 from rfl) (by omega)) <| hy (fun _ => y_nilp rfl) <| hy (fun _ => y_fld rfl fa224_2 (by decide)) <| ?_
    refine hx0 (xh_st1a 1 rfl rfl rfl sz32 rfl (by rw [hls2]; decide) ?_)
    refine hend <| hsub (ρ' := [(27, _), (0, _), (1, _)]) ⟨rfl, rfl, rfl, trivial⟩ <| hmemQ (X' := [_, _]) (S' := [_, _]) (fun _ m => m) <| hqblock <| ?_
    have hqd : (q.drop 64).length = q.length - 64 := List.length_drop
    have e9 : (b8s q).drop (64 * 1) = b8s (q.drop 64) := by simp [b8s, List.map_drop]
    generalize hA2 : (if c1 = 64 then A1 else A1.map (·.add (64 * 1))) = A2
    refine hmemQ (fun w m => m.eqX 0 rfl (show _ = RBlk g 224 (stc (blockL h (q.take 64)) (s.n + mb) A2 (q.drop 64).length (c1 - 64)) from by rw [Nat.zero_add, stc_set9 hb8, hqd])) ?_
    refine hmemQ (fun w m => m.eqX 1 rfl (show _ = ROwn 5 1 (.slice A2 (q.drop 64).length (c1 - 64)) (q.drop 64).length (b8s (q.drop 64)) from by rw [hqd, e9])) ?_
    refine hnext5 (blockL h (q.take 64)) A2 (c1 - 64) (q.drop 64) (dn ++ q.take 64) ⟨rfl, rfl, trivial⟩ [1, 0] rfl [0, 1] rfl (⟨hb8, by omega, by rw [List.append_assoc, List.take_append_drop]; exact hdq, by rw [List.length_append, List.length_take]; omega, fun D h1 h2 => by rw [← List.append_assoc, foldB_snoc (by rw [List.length_append]; omega) (by rw [List.length_take]; omega), ← hD D h1 h2]⟩) (by omega)
  · refine hexit <| hthen_exit <| hthen_exit <| hqblock_exit <| ?_
    have hok : ∀ all, s.ok all → ShSt.ok ⟨h, s.n + mb, A1, c1, q⟩ (all ++ l) := fun all ok => by
      obtain ⟨D, e1, e2, e3⟩ := ok.mid
      refine ⟨h8, ?_, D ++ dn, ?_, ?_, hD D e2 e3⟩
      · show s.n + mb = _
        rw [List.length_append, ok.n, hlm]
      · show (D ++ dn) ++ q = _
        rw [List.append_assoc, hdq, ← List.append_assoc, e1]
      · rw [List.length_append]; omega
    refine hmemQ (X' := RSha g ⟨h, s.n + mb, A1, c1, q⟩ :: _) (fun w m => (m.perm (takeR_perm [0, 0] _ [_, _] _ rfl)).pack) ?_
    exact hret0 trivial rfl [0] rfl [] rfl ⟨_, rfl, rfl, rfl, ⟨(by show q.length < 64; omega), hok⟩⟩
theorem stc_new {h : List UInt32} {n : Nat} {A : Option Addr} {m c : Nat} (hh : h.length = 8) {z : List Value} (hz : z.length = 10) : splice (splice (splice z 0 (wds h)) 8 [.int .i64 (n : Int)]) 9 [.slice A m c] = stc h n A m c := by
  have hw : (wds h).length = 8 := by rw [wds_length, hh]
  have e1 : splice z 0 (wds h) = wds h ++ z.drop 8 := by simp [splice, hw]
  match hq : z.drop 8, (show (z.drop 8).length = 2 by rw [List.length_drop, hz]) with
  | [x, y], _ =>
    rw [e1, hq]
    have e2 : splice (wds h ++ [x, y]) 8 [.int .i64 (n : Int)] = wds h ++ [.int .i64 (n : Int), y] := by
      rw [splice, List.take_append_of_le_length (by omega), List.take_of_length_le (by omega), List.drop_append, List.drop_of_length_le (by omega)]
      simp [hw]
    rw [e2, splice, List.take_append, List.take_of_length_le (by omega), List.drop_of_length_le (by simp [hw])]
    simp [hw, stc]
theorem bld_st {P : Program} {pl : Nat → Option (Nat × Nat)} {h : List UInt32} (hh : h.length = 8) {zs : List Value} (hz : zs.length = 10) (p0 : pl 0 = some (0, 8)) (p1 : pl 1 = some (8, 1)) (p2 : pl 2 = some (9, 1)) {n : Nat} {A : Option Addr} {m c : Nat} :
    Bld P pl zs [(0, .agg (wds h).toArray), (1, .int .i64 (n : Int)), (2, .slice A m c)] (stc h n A m c) := by
  have hw : (wds h).length = 8 := by rw [wds_length, hh]
  have l1 : (splice zs 0 (wds h)).length = 10 := by rw [splice_length (by omega), hz]
  have l2 : (splice (splice zs 0 (wds h)) 8 [Value.int .i64 (n : Int)]).length = 10 := by rw [splice_length (by rw [l1]; show 8 + 1 ≤ 10; decide), l1]
  refine .cons (vs := wds h) p0 rfl hw (by omega) (.cons (vs := [.int .i64 (n : Int)]) p1 rfl rfl (by omega) (.cons (vs := [.slice A m c]) p2 rfl rfl (by omega) ?_))
  have e := stc_new (n := n) (A := A) (m := m) (c := c) hh hz
  show Bld P pl (splice (splice (splice zs 0 (wds h)) 8 [.int .i64 (n : Int)]) 9 [.slice A m c]) [] _
  rw [e]
  exact .nil
theorem cloneSC {g : Nat} {s : ShSt} (hh : s.h.length = 8) (hr : s.rest.length ≤ 140737488351232) : Con Tryd.prog 155 [.pointer (some ⟨g, 0, none⟩)] [RSha g s] [] (fun v_ X_ S_ => ∃ g2 s2, v_ = (.pointer (some ⟨g2, 0, none⟩)) ∧ X_ = [RSha g s, RSha g2 s2] ∧ S_ = [] ∧ (s2.h = s.h ∧ s2.n = s.n ∧ s2.rest = s.rest)) := by
  refine henter (N := 18) Tryd.func155 rfl rfl (by simp) fun b => ?_
  refine hmemC (fun w m => (m.perm (takeR_perm [0] _ [_] _ rfl)).unpack) ?_
  have hl0 := stc_len (n := s.n) (A := s.A) (m := s.rest.length) (c := s.c) hh
  refine hseq <| hreg <| hy (fun _ => y_assign rfl) <| hend <| hthen <| hseq <| hdrw [12, 14] [(0, some 2), (1, some 1), (2, some 1), (3, some 1), (4, some 2), (5, some 1), (6, some 1), (7, some 1), (8, some 2), (9, some 2), (10, some 0), (11, some 0), (12, none), (13, some 1), (14, none), (15, some 2)] (by kernel_rfl) (by kernel_rfl) rfl 99 <| htyU (y_move rfl) <| htyU (y_nilp rfl) <| htyU (y_fld rfl fa224_0 (by decide)) <| hty (fun m => yV (y_ldN rfl ag222 sz222 (by rw [wds_length, hh]) (fun j u hu => (m.blk 0 rfl).cells0 j u (stc_h hu))) ((rfl : _ = Value.agg (wds s.h).toArray))) <| htyU (y_move rfl) <| htyU (y_nilp rfl) <| htyU (y_fld rfl fa224_1 (by decide)) <| hty (fun m => y_ld1 rfl ag3 ((m.blk 0 rfl).cells0 8 _ (stc_8 hh))) <| htyU (y_move rfl) <| htyU (y_nilp rfl) <| htyU (y_fld rfl fa224_2 (by decide)) <| hty (fun m => y_ld1 rfl ag32 ((m.blk 0 rfl).cells0 9 _ (stc_9 hh))) <| ?_
  refine htx (xh_calll rfl Tryd.call108 (cloneC (by omega)) [] rfl (.x 1 rfl .own .nil) ?_)
  rintro _ _ _ ⟨v, rfl, rfl, rfl⟩
  refine ⟨rfl, ?_⟩
  refine ⟨(fun _ => wk [1, 1] [] rfl rfl), ?_⟩
  refine htfact (fun m => (m.own 0 rfl).slice) ?_
  rintro ⟨A_x, c_x, rfl, hc_x⟩
  refine htfact (fun m => (m.ord 0 rfl).2.1) fun hA_x => ?_
  refine htyU (y_build ti224 rfl rfl (by kernel_rfl) (bld_st hh rfl (by kernel_rfl) (by kernel_rfl) (by kernel_rfl))) <| ?_
  refine htx (xh_box rfl (fun g17 => ⟨(fun _ => wk [2, 2] [] rfl rfl), ?_⟩))
  refine htyU (y_assign rfl) <| htend <| hsub (ρ' := [(2, _), (0, _)]) ⟨rfl, rfl, trivial⟩ <| hmemQ (X' := [_, _, _, _]) (S' := []) (fun _ m => m) <| hthen <| hret <| ?_
  refine hmemQ (fun w m => m.eqX 0 rfl (show _ = RBlk g17 224 (stc s.h s.n A_x s.rest.length c_x) from congrArg (RBlk _ _) (cells_agg _))) ?_
  refine hmemQ (X' := RSha g s :: _) (fun w m => (m.perm (takeR_perm [2, 2] _ [_, _] _ rfl)).pack) ?_
  refine hmemQ (X' := RSha g17 ⟨s.h, s.n, A_x, c_x, s.rest⟩ :: _) (fun w m => (m.perm (takeR_perm [1, 1] _ [_, _] _ rfl)).pack) ?_
  exact hret1 trivial rfl rfl [1, 0] rfl [] rfl ⟨_, _, rfl, rfl, rfl, ⟨rfl, rfl, rfl⟩⟩
end Go.Proofs.YtfikjheicjamhaaDoor
end
section
/- Contracts: the program's digest of bytes (layer 2): Sum. -/
set_option linter.unusedVariables false
set_option linter.unusedSimpArgs false
set_option maxRecDepth 20000
namespace Go.Proofs.YtfikjheicjamhaaDoor
open Go.Eng Go.Hx
theorem u64mod (n : Nat) (h : n < 18446744073709551616) : IntKind.u64.wrap (n : Int) = (n : Int) := by
  simp [IntKind.wrap, IntKind.signed, IntKind.bits]; omega
theorem be8_snoc {n i : Nat} (hi : i < 8) : (be8 n).take (i + 1) = (be8 n).take i ++ [UInt8.ofNat (n / 256 ^ (7 - i))] := by
  rw [be8, ← List.map_take, ← List.map_take, List.take_range, List.take_range, show min (i + 1) 8 = i + 1 by omega, show min i 8 = i by omega, List.range_succ, List.map_append]; rfl
theorem p56 {i : Nat} (hi : i < 8) : 2 ^ (56 - 8 * i) = 256 ^ (7 - i) := by
  rw [show (256 : Nat) = 2 ^ 8 from rfl, ← Nat.pow_mul]; congr 1; omega
theorem be4_get (h : List UInt32) (j : Nat) (hj : j < h.length) : digOf (h.take (j + 1)) = digOf (h.take j) ++ be4 (h.getD j 0) := by
  rw [List.take_succ_eq_append_getElem hj, digOf, digOf, List.flatMap_append]
  simp [List.getD, List.getElem?_eq_getElem hj]
theorem digOf_take (h : List UInt32) : ∀ j, j ≤ h.length → (digOf (h.take j)).length = 4 * j
  | 0, _ => rfl
  | j + 1, hj => by rw [be4_get h j (by omega), List.length_append, digOf_take h j (by omega)]; show 4 * j + 4 = _; omega
theorem set4 {p r : List UInt8} {k : Nat} {a b c d x y z u : UInt8} (hp : p.length = k) :
    ((((b8s (p ++ x :: y :: z :: u :: r)).set k (B8 a)).set (k + 1) (B8 b)).set (k + 2) (B8 c)).set (k + 3) (B8 d) = b8s (p ++ a :: b :: c :: d :: r) := by
  subst hp
  simp [b8s, List.set_append]
theorem sumSC {g : Nat} {s : ShSt} {all : List UInt8} (ok : s.ok all) (hr : s.rest.length < 64) (ha : all.length ≤ 140737488351232) : Con Tryd.prog 130 [.pointer (some ⟨g, 0, none⟩)] [RSha g s] [RRoots] (fun v_ X_ S_ => v_ = (.agg (b8s (shaL all)).toArray) ∧ X_ = [RSha g s] ∧ S_ = []) := by
  have hh := ok.len
  have hsn := ok.n
  have hl0 := stc_len (n := s.n) (A := s.A) (m := s.rest.length) (c := s.c) hh
  have hz64 : padZ s.n < 64 := Nat.mod_lt _ (by decide)
  have hzp : (s.n + (1 + padZ s.n)) % 64 = 56 := by unfold padZ; omega
  have hzm : ∀ j, j < padZ s.n → (s.n + (1 + j)) % 64 ≠ 56 := fun j hj => by unfold padZ at hj; omega
  refine henter (N := 83) Tryd.func130 rfl rfl (by simp) fun b => ?_
  refine hseq <| hreg <| ?_
  refine hx (xh_alloc ti23 (fun g2 => ?_))
  refine hend <| hmemQ (X' := [_, _]) (S' := [_]) (fun _ m => m) <| hthen <| hseq <| hreg <| hy (fun _ => y_move rfl) <| ?_
  refine hx (xh_call rfl Tryd.call155 (cloneSC (by omega) (by omega)) [1] rfl [] rfl ?_)
  rintro _ _ _ ⟨g22, s2, rfl, rfl, rfl, hp⟩
  refine hy (fun _ => y_assign rfl) <| hend <| hsub (ρ' := [(3, _), (2, _), (0, _)]) ⟨rfl, rfl, rfl, trivial⟩ <| hmemQ (X' := [_, _, _]) (S' := [_]) (fun _ m => m) <| hthen <| hseq <| hreg <| ?_
  refine hx (xh_bsl Tryd.underlying32 ti5 rfl rfl rfl (by simp [Value.cells, B8]) (by decide) (by decide) (fun g12 => ?_))
  have hA_b12 : 0 < 1 → (some (⟨g12, 0, none⟩ : Addr)) ≠ none := fun _ h => by cases h
  refine hy (fun _ => y_assign rfl) <| hend <| hsub (ρ' := [(4, _), (3, _), (2, _), (0, _)]) ⟨rfl, rfl, rfl, rfl, trivial⟩ <| hmemQ (X' := [_, _, _, _]) (S' := [_]) (fun _ m => m) <| hthen <| hseq <| hblock <| ?_
  obtain ⟨c1, c2, c3⟩ := hp
  refine hmemC (fun w m => m.eqX 0 rfl (show _ = ROwn 5 1 (.slice (some ⟨g12, 0, none⟩) 1 1) (1 + 0) (b8s (128 :: List.replicate 0 0)) from rfl)) ?_
  refine hloop3 (fun j A1 cc => padZ s.n - j) (fun j A1 cc => [(4, .slice A1 (1 + j) cc)]) (fun j A1 cc => [ROwn 5 1 (.slice A1 (1 + j) cc) (1 + j) (b8s (128 :: List.replicate j 0)), RSha g s]) (fun j A1 cc => []) (fun j A1 cc => j ≤ padZ s.n) 0 (some ⟨g12, 0, none⟩) 1 [(3, _), (2, _), (0, _)] ⟨rfl, rfl, rfl, trivial⟩ [0, 0] rfl [] rfl (Nat.zero_le _) ⟨rfl, trivial⟩ (fun j A1 cc hjz => ?_)
  refine hmemC (fun w m => (m.perm (takeR_perm [1] _ [_] _ rfl)).unpack) ?_
  refine hseq <| hseq <| hreg <| hy (fun _ => y_move rfl) <| hy (fun _ => y_nilp rfl) <| hy (fun _ => y_fld rfl fa224_1 (by decide)) <| hy (fun m => y_ld1 rfl ag3 ((m.blk 0 rfl).cells0 8 _ (stc_8 hh))) <| hy (fun _ => y_move rfl) <| hy (fun _ => y_lenS rfl Tryd.underlying32) <| hy (fun _ => y_add rfl rfl (w64 (by omega) (by omega))) <| hy (fun _ => y_rem rfl rfl (by omega) (by omega)) <| hy (fun _ => y_neq rfl rfl) <| hend <| hsub (ρ' := [(21, _), (4, _), (3, _), (2, _), (0, _)]) ⟨rfl, rfl, rfl, rfl, rfl, trivial⟩ <| hthen <| ?_
  refine hmemC (X' := RSha g s :: _) (fun w m => (m.perm (takeR_perm [0, 0] _ [_, _] _ rfl)).pack) ?_
  refine hif rfl (fun hne => ?_) (fun hne => ?_)
  · have hj : j < padZ s.n := by
      rcases Nat.lt_or_eq_of_le hjz with h | h
      · exact h
      · rw [← h] at hzp; omega
    refine hcskip <| hthen <| hblock <| hreg <| hy (fun _ => y_move rfl) <| ?_
    refine hx (xh_bsl Tryd.underlying32 ti5 rfl rfl rfl (by simp [Value.cells, B8]) (by decide) (by decide) (fun g23 => ?_))
    have hA_b23 : 0 < 1 → (some (⟨g23, 0, none⟩ : Addr)) ≠ none := fun _ h => by cases h
    refine hmemL (fun w m => m.eqX 0 rfl (show _ = ROwn 5 1 (.slice (some ⟨g23, 0, none⟩) 1 1) 1 (b8s [0]) from rfl)) ?_
    refine hx (xh_app 2 rfl rfl rfl Tryd.underlying32 Tryd.underlying32 (by exact .inl rfl) ti5 rfl (fun m => Src.of_rd (m.ord 0 rfl)) b8s_one (by unfold maxLen; omega) (by omega) (fun u => ?_))
    refine hfactL (fun m => (m.own 0 rfl).slice) ?_
    rintro ⟨A_b12, c_b12, rfl, hc_b12⟩
    refine hfactL (fun m => (m.ord 0 rfl).2.1) fun hA_b12 => ?_
    refine hy (fun _ => y_assign rfl) <| hend <| hsub (ρ' := [(4, _), (21, _), (3, _), (2, _), (0, _)]) ⟨rfl, rfl, rfl, rfl, rfl, trivial⟩ <| hmemQ (X' := [_, _, _, _, _]) (S' := [_]) (fun _ m => m) <| hqblock <| ?_
    refine hmemQ (fun w m => m.eqX 0 rfl (show _ = ROwn 5 1 (.slice A_b12 (1 + (j + 1)) c_b12) (1 + (j + 1)) (b8s (128 :: List.replicate (j + 1) 0)) from by rw [Nat.add_assoc, List.replicate_succ', b8s, b8s, b8s, ← List.map_append]; rfl)) ?_
    refine hnext3 (j + 1) A_b12 c_b12 ⟨rfl, rfl, rfl, rfl, trivial⟩ [0, 1, 1, 1] rfl [0] rfl (by omega) (by omega)
  · have hj : j = padZ s.n := by
      refine Decidable.byContradiction fun hn => ?_
      have := hzm j (by omega)
      omega
    subst hj
    have hsl : IntKind.u64.wrap ((s.n : Int) * 8) = ((8 * s.n : Nat) : Int) := by
      rw [show (s.n : Int) * 8 = ((8 * s.n : Nat) : Int) by omega]
      exact u64mod _ (by omega)
    refine hexit <| hthen_exit <| hthen_exit <| hqblock_exit <| hthen <| hseq <| hreg <| hy (fun _ => y_move rfl) <| hy (fun _ => y_nilp rfl) <| hy (fun _ => y_fld rfl fa224_1 (by decide)) <| hy (fun m => y_ld1 rfl ag3 ((show Blk _ _ _ _ from m.inP 0 rfl 0 rfl).cells0 8 _ (stc_8 hh))) <| hy (fun _ => y_conv rfl Tryd.underlying3 Tryd.underlying226 (u64mod s.n (by omega))) <| hy (fun _ => y_shl (p := 8) rfl rfl (by decide) (by decide) (by decide) hsl) <| hy (fun _ => y_assign rfl) <| hend <| hsub (ρ' := [(5, _), (21, _), (4, _), (3, _), (2, _), (0, _)]) ⟨rfl, rfl, rfl, rfl, rfl, rfl, trivial⟩ <| hthen <| hseq <| hseq <| hreg <| hy (fun _ => y_move rfl) <| hend <| hthen <| hblock <| ?_
    generalize hz : padZ s.n = z at hz64
    refine hmemC (fun w m => m.eqX 1 rfl (show _ = ROwn 5 1 (.slice A1 (1 + z + 0) cc) (1 + z + 0) (b8s (128 :: List.replicate z 0 ++ (be8 (8 * s.n)).take 0)) from by rw [List.take_zero, List.append_nil]; rfl)) ?_
    refine hloop3 (fun i A2 ce => 8 - i) (fun i A2 ce => [(4, .slice A2 (1 + z + i) ce), (31, .int .i64 (i : Nat))]) (fun i A2 ce => [ROwn 5 1 (.slice A2 (1 + z + i) ce) (1 + z + i) (b8s (128 :: List.replicate z 0 ++ (be8 (8 * s.n)).take i))]) (fun i A2 ce => []) (fun i A2 ce => i ≤ 8) 0 A1 cc [(5, _), (21, _), (3, _), (2, _), (0, _)] ⟨rfl, rfl, rfl, rfl, rfl, trivial⟩ [0] rfl [] rfl (Nat.zero_le _) ⟨rfl, rfl, trivial⟩ (fun i A2 ce hi8 => ?_)
    refine hseq <| hreg <| hy (fun _ => y_lss rfl rfl) <| hend <| hthen <| hseq <| ?_
    refine hif rfl (fun hi => ?_) (fun hi => ?_)
    · have hcv : IntKind.u8.wrap (((8 * s.n : Nat) : Int) / ((2 ^ (56 - 8 * i) : Nat) : Int)) = ((UInt8.ofNat (8 * s.n / 256 ^ (7 - i))).toNat : Int) := by
        rw [← Int.natCast_ediv, p56 (by omega)]
        exact u8mod _
      have hsb : (56 : Int) - 8 * (i : Int) = ((56 - 8 * i : Nat) : Int) := by omega
      refine hcskip <| hthen <| hseq <| hblock <| hseq <| hreg <| hy (fun _ => y_move rfl) <| hy (fun _ => y_assign rfl) <| hend <| hsub (ρ' := [(6, _), (32, _), (4, _), (31, _), (5, _), (21, _), (3, _), (2, _), (0, _)]) ⟨rfl, rfl, rfl, rfl, rfl, rfl, rfl, rfl, rfl, trivial⟩ <| hthen <| hreg <| hy (fun _ => y_move rfl) <| hy (fun _ => y_move rfl) <| hy (fun _ => y_move rfl) <| hy (fun _ => y_mul rfl rfl (w64 (by omega) (by omega))) <| hy (fun _ => y_sub rfl rfl (w64 (by omega) (by omega))) <| ?_
      rw [hsb]
      refine hy (fun _ => y_shr rfl rfl (by omega) (by simp [IntKind.bits]; omega) (show (2 : Int) ^ (((56 - 8 * i : Nat) : Int)).toNat = ((2 ^ (56 - 8 * i) : Nat) : Int) by rw [Int.toNat_natCast]; simp)) <| hy (fun _ => y_conv rfl Tryd.underlying226 Tryd.underlying5 hcv) <| ?_
      refine hx (xh_bsl Tryd.underlying32 ti5 rfl rfl rfl (by simp [Value.cells, B8]) (by decide) (by decide) (fun g41 => ?_))
      have hA_b41 : 0 < 1 → (some (⟨g41, 0, none⟩ : Addr)) ≠ none := fun _ h => by cases h
      refine hmemL (fun w m => m.eqX 0 rfl (show _ = ROwn 5 1 (.slice (some ⟨g41, 0, none⟩) 1 1) 1 (b8s [UInt8.ofNat (8 * s.n / 256 ^ (7 - i))]) from rfl)) ?_
      refine hx (xh_app 1 rfl rfl rfl Tryd.underlying32 Tryd.underlying32 (by exact .inl rfl) ti5 rfl (fun m => Src.of_rd (m.ord 0 rfl)) b8s_one (by unfold maxLen; omega) (by omega) (fun u => ?_))
      refine hfactL (fun m => (m.own 0 rfl).slice) ?_
      rintro ⟨A_b12, c_b12, rfl, hc_b12⟩
      refine hfactL (fun m => (m.ord 0 rfl).2.1) fun hA_b12 => ?_
      refine hy (fun _ => y_assign rfl) <| hend <| hsub (ρ' := [(4, _), (6, _), (32, _), (31, _), (5, _), (21, _), (3, _), (2, _), (0, _)]) ⟨rfl, rfl, rfl, rfl, rfl, rfl, rfl, rfl, rfl, trivial⟩ <| hmemQ (X' := [_, _, _, _, _]) (S' := [_]) (fun _ m => m) <| hqblock <| hthen <| hreg <| hy (fun _ => y_add rfl rfl (w64 (by omega) (by omega))) <| hy (fun _ => y_move rfl) <| hend <| hsub (ρ' := [(31, _), (4, _), (6, _), (32, _), (5, _), (21, _), (3, _), (2, _), (0, _)]) ⟨rfl, rfl, rfl, rfl, rfl, rfl, rfl, rfl, rfl, trivial⟩ <| ?_
      refine hmemQ (fun w m => m.eqX 0 rfl (show _ = ROwn 5 1 (.slice A_b12 (1 + z + (i + 1)) c_b12) (1 + z + (i + 1)) (b8s (128 :: List.replicate z 0 ++ (be8 (8 * s.n)).take (i + 1))) from by rw [be8_snoc (by omega), ← List.append_assoc]; simp [b8s, Nat.add_assoc])) ?_
      refine hnext3 (i + 1) A_b12 c_b12 ⟨rfl, rfl, rfl, rfl, rfl, rfl, rfl, trivial⟩ [0, 1, 1, 1] rfl [0] rfl (by omega) (by omega)
    · obtain rfl : i = 8 := by omega
      have hpad : all ++ (128 :: List.replicate z 0 ++ (be8 (8 * s.n)).take 8) = padL all := by
        rw [List.take_of_length_le (by simp [be8]), padL, ← hsn, hz, List.append_assoc]
      refine hexit <| hthen_exit <| hthen_exit <| hqblock_exit <| hthen <| hseq <| hreg <| hy (fun _ => y_move rfl) <| hy (fun _ => y_move rfl) <| ?_
      refine hx (xh_calll rfl Tryd.call129 (writeSC (by rw [c1]; exact hh) (by rw [c2]; omega) (by rw [c3]; omega) (s := s2) (l := (128 :: List.replicate z 0 ++ (be8 (8 * s.n)).take 8))) [2] rfl (.x 0 rfl .own (.s 0 rfl .nil)) ?_)
      rintro _ _ _ ⟨s1, rfl, rfl, rfl, hw⟩
      refine ⟨rfl, ?_⟩
      obtain ⟨hw1, hw2⟩ := hw
      have ok2 : s2.ok all := ⟨by rw [c1]; exact hh, by rw [c2]; exact hsn, by rw [c1, c3]; exact ok.mid⟩
      have ok3 := hw2 all ok2
      rw [hpad] at ok3
      have hh3 := ok3.len
      have hfin : s1.h = foldB h0L (padL all) := by
        obtain ⟨D, e1, e2, e3⟩ := ok3.mid
        have hl := congrArg List.length e1
        rw [List.length_append] at hl
        have hp := padL_length all
        have : s1.rest = [] := List.eq_nil_of_length_eq_zero (by omega)
        rw [this, List.append_nil] at e1
        rw [e3, e1]
      have hsha : digOf s1.h = shaL all := by rw [hfin]; rfl
      have hd32 := digOf_take s1.h
      have hl3 := stc_len (n := s1.n) (A := s1.A) (m := s1.rest.length) (c := s1.c) hh3
      refine hmemL (fun w m => (m.perm (takeR_perm [0] _ [_] _ rfl)).unpack) ?_
      refine hend <| hsub (ρ' := [(32, _), (4, _), (31, _), (5, _), (21, _), (3, _), (2, _), (0, _)]) ⟨rfl, rfl, rfl, rfl, rfl, rfl, rfl, rfl, trivial⟩ <| hmemQ (X' := [_, _, _, _, _]) (S' := [_]) (fun _ m => m) <| hthen <| hseq <| hreg <| ?_
      refine hx (xh_alloc ti23 (fun g7 => ?_))
      refine hmemL (fun w m => m.eqX 0 rfl (show _ = RBlk g7 23 (b8s (digOf (s1.h.take 0) ++ List.replicate (32 - 4 * 0) 0)) from rfl)) ?_
      refine hend <| hmemQ (X' := [_, _, _, _, _, _]) (S' := [_]) (fun _ m => m) <| hthen <| hseq <| hseq <| hreg <| hy (fun _ => y_move rfl) <| hy (fun _ => y_nilp rfl) <| hy (fun _ => y_fld rfl fa224_0 (by decide)) <| hy (fun m => yV (y_ldN rfl ag222 sz222 (by rw [wds_length, hh3]) (fun j u hu => (m.blk 1 rfl).cells0 j u (stc_h hu))) ((rfl : _ = Value.agg (wds s1.h).toArray))) <| hy (fun _ => y_move rfl) <| hend <| hsub (ρ' := [(51, _), (50, _), (7, _), (32, _), (4, _), (31, _), (5, _), (21, _), (3, _), (2, _), (0, _)]) ⟨rfl, rfl, rfl, rfl, rfl, rfl, rfl, rfl, rfl, rfl, rfl, trivial⟩ <| hthen <| hblock <| ?_
      refine hloop1 (fun k => 8 - k) (fun k => [(51, .int .i64 (k : Nat))]) (fun k => [RBlk g7 23 (b8s (digOf (s1.h.take k) ++ List.replicate (32 - 4 * k) 0))]) (fun k => []) (fun k => k ≤ 8) 0 [(50, _), (7, _), (32, _), (4, _), (31, _), (5, _), (21, _), (3, _), (2, _), (0, _)] ⟨rfl, rfl, rfl, rfl, rfl, rfl, rfl, rfl, rfl, rfl, trivial⟩ [0] rfl [] rfl (Nat.zero_le _) ⟨rfl, trivial⟩ (fun k hk8 => ?_)
      refine hseq <| hreg <| hy (fun _ => y_lss rfl rfl) <| hend <| hthen <| hseq <| ?_
      refine hif rfl (fun hk => ?_) (fun hk => ?_)
      · have hdk := hd32 k (by omega)
        have hr4 : List.replicate (32 - 4 * k) (0 : UInt8) = 0 :: 0 :: 0 :: 0 :: List.replicate (32 - 4 * (k + 1)) 0 := by
          rw [show 32 - 4 * k = (32 - 4 * (k + 1)) + 4 by omega]; rfl
        refine hcskip <| hthen <| hseq <| hblock <| hseq <| hreg <| hy (fun _ => y_move rfl) <| hy (fun _ => yV (y_idxV rfl rfl Tryd.underlying222 sz120 ag120 rfl (by omega) (wds_get (by omega))) ((rfl : _ = Wd (s1.h.getD k 0)))) <| hy (fun _ => y_assign rfl) <| hy (fun _ => y_assign rfl) <| hend <| hsub (ρ' := [(9, _), (8, _), (52, _), (51, _), (50, _), (7, _), (32, _), (4, _), (31, _), (5, _), (21, _), (3, _), (2, _), (0, _)]) ⟨rfl, rfl, rfl, rfl, rfl, rfl, rfl, rfl, rfl, rfl, rfl, rfl, rfl, rfl, trivial⟩ <| hthen <| hreg <| hy (fun _ => y_move rfl) <| hy (fun _ => y_mul rfl rfl (w64 (by omega) (by omega))) <| hy (fun _ => y_move rfl) <| hy (fun _ => y_mul rfl rfl (w64 (by omega) (by omega))) <| hy (fun _ => y_add rfl rfl (w64 (by omega) (by omega))) <| hy (fun _ => y_move rfl) <| hy (fun _ => y_mul rfl rfl (w64 (by omega) (by omega))) <| hy (fun _ => y_add rfl rfl (w64 (by omega) (by omega))) <| hy (fun _ => y_move rfl) <| hy (fun _ => y_mul rfl rfl (w64 (by omega) (by omega))) <| hy (fun _ => y_add rfl rfl (w64 (by omega) (by omega))) <| hy (fun _ => y_move rfl) <| hy (fun _ => y_wshrD (k := 24) (b := 16777216) (by decide) rfl rfl rfl) <| hy (fun _ => y_8w rfl Tryd.underlying120 Tryd.underlying5) <| hy (fun _ => y_move rfl) <| hy (fun _ => y_wshrD (k := 16) (b := 65536) (by decide) rfl rfl rfl) <| hy (fun _ => y_8w rfl Tryd.underlying120 Tryd.underlying5) <| hy (fun _ => y_move rfl) <| hy (fun _ => y_wshrD (k := 8) (b := 256) (by decide) rfl rfl rfl) <| hy (fun _ => y_8w rfl Tryd.underlying120 Tryd.underlying5) <| hy (fun _ => y_move rfl) <| hy (fun _ => y_8w rfl Tryd.underlying120 Tryd.underlying5) <| hy (fun _ => y_idxA1 rfl rfl Tryd.underlying23 sz5 (show ((4 * k : Nat) : Int) = _ by omega) (by omega)) <| ?_
        refine hx0 (xh_st1a 0 rfl rfl rfl sz5 rfl (by simp [b8s]; omega) ?_)
        refine hy (fun _ => y_idxA1 rfl rfl Tryd.underlying23 sz5 (show ((4 * k + 1 : Nat) : Int) = _ by omega) (by omega)) <| ?_
        refine hx0 (xh_st1a 0 rfl rfl rfl sz5 rfl (by simp [b8s]; omega) ?_)
        refine hy (fun _ => y_idxA1 rfl rfl Tryd.underlying23 sz5 (show ((4 * k + 2 : Nat) : Int) = _ by omega) (by omega)) <| ?_
        refine hx0 (xh_st1a 0 rfl rfl rfl sz5 rfl (by simp [b8s]; omega) ?_)
        refine hy (fun _ => y_idxA1 rfl rfl Tryd.underlying23 sz5 (show ((4 * k + 3 : Nat) : Int) = _ by omega) (by omega)) <| ?_
        refine hx0 (xh_st1a 0 rfl rfl rfl sz5 rfl (by simp [b8s]; omega) ?_)
        refine hend <| hsub (ρ' := [(9, _), (8, _), (52, _), (51, _), (50, _), (7, _), (32, _), (4, _), (31, _), (5, _), (21, _), (3, _), (2, _), (0, _)]) ⟨rfl, rfl, rfl, rfl, rfl, rfl, rfl, rfl, rfl, rfl, rfl, rfl, rfl, rfl, trivial⟩ <| hmemQ (X' := [_, _, _, _, _, _]) (S' := [_]) (fun _ m => m) <| hqblock <| hthen <| hreg <| hy (fun _ => y_add rfl rfl (w64 (by omega) (by omega))) <| hy (fun _ => y_move rfl) <| hend <| hsub (ρ' := [(51, _), (9, _), (8, _), (52, _), (50, _), (7, _), (32, _), (4, _), (31, _), (5, _), (21, _), (3, _), (2, _), (0, _)]) ⟨rfl, rfl, rfl, rfl, rfl, rfl, rfl, rfl, rfl, rfl, rfl, rfl, rfl, rfl, trivial⟩ <| ?_
        refine hmemQ (fun w m => m.eqX 0 rfl (show _ = RBlk g7 23 (b8s (digOf (s1.h.take (k + 1)) ++ List.replicate (32 - 4 * (k + 1)) 0)) from by rw [hr4, Nat.zero_add, Nat.zero_add, Nat.zero_add, Nat.zero_add, set4 hdk, be4_get _ _ (by omega)]; simp [be4])) ?_
        refine hnext1 (k + 1) ⟨rfl, rfl, rfl, rfl, rfl, rfl, rfl, rfl, rfl, rfl, rfl, trivial⟩ [0, 0, 0, 0, 0, 0] rfl [0] rfl (by omega) (by omega)
      · obtain rfl : k = 8 := by omega
        refine hmemC (fun w m => m.eqX 0 rfl (show _ = RBlk g7 23 (b8s (shaL all)) from by rw [List.take_of_length_le (by omega), hsha]; simp)) ?_
        refine hexit <| hthen_exit <| hthen_exit <| hqblock_exit <| hthen <| hseq <| hreg <| hy (fun m => yV (y_ldN rfl ag23 sz23 (by rw [b8s_length, shaL_length]) ((m.blk 0 rfl).cells0)) ((rfl : _ = Value.agg (b8s (shaL all)).toArray))) <| ?_
        refine hx0 (xh_stA 5 rfl rfl rfl sz23 (by rw [b8s_length, shaL_length]) b8s_one rfl ?_)
        refine hend <| hsub (ρ' := [(52, _), (51, _), (50, _), (7, _), (32, _), (4, _), (31, _), (5, _), (21, _), (3, _), (2, _), (0, _)]) ⟨rfl, rfl, rfl, rfl, rfl, rfl, rfl, rfl, rfl, rfl, rfl, rfl, trivial⟩ <| hmemQ (X' := [_, _, _, _, _, _]) (S' := [_]) (fun _ m => m) <| hthen <| hret <| ?_
        exact hretN trivial rfl rfl ag23 sz23 (by rw [b8s_length, shaL_length]) (fun m => (m.blk 0 rfl).cells0) [5] rfl [] rfl ⟨rfl, rfl, rfl⟩
theorem shaSumC {A : Option Addr} {n c : Nat} {l : List UInt8} (hn : n ≤ 140737488351232) : Con Tryd.prog 82 [.slice A n c] [] [RRd 1 A n (b8s l), RRoots] (fun v_ X_ S_ => v_ = (.agg (b8s (shaL l)).toArray) ∧ X_ = [] ∧ S_ = []) := by
  refine henter (N := 10) Tryd.func82 rfl rfl (by simp) fun b => ?_
  refine hfactC (fun m => rdB (m.rd 0 rfl)) ?_
  rintro ⟨hl_r, hA_r⟩
  have hln : l.length = n := hl_r
  refine hseq <| hreg <| ?_
  refine hx (xh_alloc ti23 (fun g2 => ?_))
  refine hend <| hmemQ (X' := [_]) (S' := [_, _]) (fun _ m => m) <| hthen <| hseq <| hreg <| ?_
  refine hx (xh_call rfl Tryd.call128 (newSC) [] rfl [] rfl ?_)
  rintro _ _ _ ⟨g, rfl, rfl, rfl⟩
  refine hy (fun _ => y_assign rfl) <| hend <| hsub (ρ' := [(3, _), (2, _), (0, _)]) ⟨rfl, rfl, rfl, trivial⟩ <| hmemQ (X' := [_, _]) (S' := [_, _]) (fun _ m => m) <| hthen <| hseq <| hreg <| hy (fun _ => y_move rfl) <| hy (fun _ => y_move rfl) <| ?_
  refine hx (xh_call rfl Tryd.call129 (writeSC rfl (by show 0 + n ≤ _; omega) (by show 0 + n ≤ _; omega) (s := ⟨h0L, 0, none, 0, []⟩)) [0] rfl [0, 1] rfl ?_)
  rintro _ _ _ ⟨s1, rfl, rfl, rfl, hw⟩
  refine hend <| hsub (ρ' := [(3, _), (2, _), (0, _)]) ⟨rfl, rfl, rfl, trivial⟩ <| hmemQ (X' := [_, _]) (S' := [_, _]) (fun _ m => m) <| hthen <| hseq <| hreg <| ?_
  obtain ⟨hw1, hw2⟩ := hw
  have ok1 := hw2 [] ok_new
  rw [List.nil_append] at ok1
  refine hy (fun _ => y_move rfl) <| ?_
  refine hx (xh_call rfl Tryd.call130 (sumSC ok1 hw1 (by omega) (all := l)) [0] rfl [1] rfl ?_)
  rintro _ _ _ ⟨rfl, rfl, rfl⟩
  refine hx0 (xh_stA 1 rfl rfl rfl sz23 (by rw [b8s_length, shaL_length]) b8s_one rfl ?_)
  refine hend <| hsub (ρ' := [(3, _), (2, _), (0, _)]) ⟨rfl, rfl, rfl, trivial⟩ <| hmemQ (X' := [_, _]) (S' := [_, _]) (fun _ m => m) <| hthen <| hret <| ?_
  exact hretN trivial rfl rfl ag23 sz23 (by rw [b8s_length, shaL_length]) (fun m => (m.blk 0 rfl).cells0) [] rfl [] rfl ⟨rfl, rfl, rfl⟩
end Go.Proofs.YtfikjheicjamhaaDoor
end
section
/- Contracts: the document's digest of bytes (layer 2). -/
set_option linter.unusedVariables false
set_option linter.unusedSimpArgs false
set_option maxRecDepth 20000
namespace Go.Proofs.YtfikjheicjamhaaDoor
open Go.Eng Go.Hx
theorem rturnC {x : UInt32} {n : Nat} (hn : n ≤ 32) : Con Tryd.prog 133 [Wd x, .int .i64 (n : Int)] [] [] (fun v_ X_ S_ => v_ = (Wd (rotr n x)) ∧ X_ = [] ∧ S_ = []) := by
  refine henter (N := 18) Tryd.func133 rfl rfl (by simp) fun b => ?_
  refine hseq <| hreg <| hy (fun _ => y_assign rfl) <| hend <| hthen <| hseq <| hseq <| hreg <| hy (fun _ => y_assign rfl) <| hend <| hthen <| hblock <| ?_
  refine hloop2 (fun i y => n - i) (fun i y => [(0, Wd y), (5, .int .i64 (i : Nat))]) (fun i y => []) (fun i y => []) (fun i y => i ≤ n ∧ y = rotr i x) 0 x [(4, _), (1, _)] ⟨rfl, rfl, trivial⟩ [] rfl [] rfl (⟨Nat.zero_le _, (rotr_zero x).symm⟩) ⟨rfl, rfl, trivial⟩ (fun i y ⟨hin, hyv⟩ => ?_)
  refine hseq <| hseq <| hreg <| hy (fun _ => y_move rfl) <| hy (fun _ => y_move rfl) <| hy (fun _ => y_lss rfl rfl) <| hend <| hsub (ρ' := [(8, _), (0, _), (5, _), (4, _), (1, _)]) ⟨rfl, rfl, rfl, rfl, rfl, trivial⟩ <| hthen <| ?_
  refine hif rfl (fun h => ?_) (fun h => ?_)
  · refine hcskip <| hthen <| hseq <| hblock <| hreg <| hy (fun _ => y_move rfl) <| hy (fun _ => y_wquo (b := 2) (by decide) rfl rfl) <| hy (fun _ => y_move rfl) <| hy (fun _ => y_wrem (b := 2) (by decide) rfl rfl) <| hy (fun _ => y_wmul (b := 2147483648) rfl rfl) <| hy (fun _ => yV (y_wadd rfl rfl) ((rfl : _ = Wd (turn1 y)))) <| hy (fun _ => y_assign rfl) <| hend <| hsub (ρ' := [(0, _), (8, _), (5, _), (4, _), (1, _)]) ⟨rfl, rfl, rfl, rfl, rfl, trivial⟩ <| hqblock <| hthen <| hreg <| hy (fun _ => y_move rfl) <| hy (fun _ => y_add rfl rfl (w64 (by omega) (by omega))) <| hy (fun _ => y_assign rfl) <| hend <| hsub (ρ' := [(5, _), (0, _), (8, _), (4, _), (1, _)]) ⟨rfl, rfl, rfl, rfl, rfl, trivial⟩ <| ?_
    refine hnext2 (i + 1) (turn1 y) ⟨rfl, rfl, rfl, rfl, trivial⟩ [] rfl [] rfl (⟨by omega, by rw [hyv, rotr_succ (by omega)]⟩) (by omega)
  · obtain rfl : i = n := by omega
    subst hyv
    refine hexit <| hthen_exit <| hthen_exit <| hqblock_exit <| hthen <| hseq <| hreg <| hy (fun _ => y_move rfl) <| hy (fun _ => y_assign rfl) <| hend <| hsub (ρ' := [(4, _), (8, _), (0, _), (5, _), (1, _)]) ⟨rfl, rfl, rfl, rfl, rfl, trivial⟩ <| hthen <| hret <| ?_
    exact hret1 trivial rfl rfl [] rfl [] rfl ⟨rfl, rfl, rfl⟩
theorem rwordC {A : Option Addr} {n c : Nat} {l : List UInt8} {i : Nat} (hi : i + 4 ≤ n) (hn : n ≤ 1000000000000) : Con Tryd.prog 132 [.slice A n c, .int .i64 (i : Int)] [] [RRd 1 A n (b8s l)] (fun v_ X_ S_ => v_ = (Wd (word4 l i)) ∧ X_ = [] ∧ S_ = []) := by
  refine henter (N := 34) Tryd.func132 rfl rfl (by simp) fun b => ?_
  refine hfactC (fun m => rdB (m.rd 0 rfl)) ?_
  rintro ⟨hl_r, hA_r⟩
  have hl : l.length = n := hl_r
  refine hseq <| hreg <| hy (fun _ => y_assign rfl) <| hend <| hthen <| hseq <| hdrw [] [(0, some 0), (1, some 0), (2, some 0), (3, some 0), (4, some 0), (5, some 0), (6, some 0), (7, some 0), (8, some 0), (9, some 0), (10, some 0), (11, some 0), (12, some 0), (13, some 0), (14, some 0), (15, some 0), (16, some 0), (17, some 0), (18, some 0), (19, some 0), (20, some 0), (21, some 0), (22, some 0), (23, some 0), (24, some 0), (25, some 0), (26, some 0), (27, some 0), (28, some 0), (29, some 0)] (by kernel_rfl) (by kernel_rfl) rfl 99 <| htyU (y_move rfl) <| htyU (y_move rfl) <| htyU (y_idxS1 rfl rfl Tryd.underlying32 sz5 hA_r rfl (by omega)) <| hty (fun m => y_ld1 rfl ag5 ((m.rd 0 rfl).cell (b8s_get (by omega)))) <| htyU (y_w8 rfl Tryd.underlying5 Tryd.underlying120) <| htyU (y_wmul (b := 16777216) rfl rfl) <| htyU (y_move rfl) <| htyU (y_move rfl) <| htyU (y_add rfl rfl (w64 (by omega) (by omega))) <| htyU (y_idxS1 rfl rfl Tryd.underlying32 sz5 hA_r (show ((i + 1 : Nat) : Int) = _ by omega) (by omega)) <| hty (fun m => y_ld1 rfl ag5 ((m.rd 0 rfl).cell (b8s_get (by omega)))) <| htyU (y_w8 rfl Tryd.underlying5 Tryd.underlying120) <| htyU (y_wmul (b := 65536) rfl rfl) <| htyU (y_wadd rfl rfl) <| htyU (y_move rfl) <| htyU (y_move rfl) <| htyU (y_add rfl rfl (w64 (by omega) (by omega))) <| htyU (y_idxS1 rfl rfl Tryd.underlying32 sz5 hA_r (show ((i + 2 : Nat) : Int) = _ by omega) (by omega)) <| hty (fun m => y_ld1 rfl ag5 ((m.rd 0 rfl).cell (b8s_get (by omega)))) <| htyU (y_w8 rfl Tryd.underlying5 Tryd.underlying120) <| htyU (y_wmul (b := 256) rfl rfl) <| htyU (y_wadd rfl rfl) <| htyU (y_move rfl) <| htyU (y_move rfl) <| htyU (y_add rfl rfl (w64 (by omega) (by omega))) <| htyU (y_idxS1 rfl rfl Tryd.underlying32 sz5 hA_r (show ((i + 3 : Nat) : Int) = _ by omega) (by omega)) <| hty (fun m => y_ld1 rfl ag5 ((m.rd 0 rfl).cell (b8s_get (by omega)))) <| htyU (y_w8 rfl Tryd.underlying5 Tryd.underlying120) <| htyU (yV (y_wadd rfl rfl) ((show Wd ((l.getD i 0).toUInt32 * 16777216 + (l.getD (i + 1) 0).toUInt32 * 65536 + (l.getD (i + 2) 0).toUInt32 * 256 + (l.getD (i + 3) 0).toUInt32) = Wd (word4 l i) by rw [word4_sum]))) <| htyU (y_assign rfl) <| htend <| hsub (ρ' := [(4, _), (0, _), (1, _)]) ⟨rfl, rfl, rfl, trivial⟩ <| hthen <| hret <| ?_
  exact hret1 trivial rfl rfl [] rfl [] rfl ⟨rfl, rfl, rfl⟩
theorem rrootsC  : Con Tryd.prog 131 [] [] [] (fun v_ X_ S_ => ∃ v, v_ = v ∧ X_ = [ROwn 120 1 v 64 (wds rootsL)] ∧ S_ = []) := by
  refine henter (N := 2) Tryd.func131 rfl rfl (by simp) fun b => ?_
  refine hseq <| hreg <| hy (fun _ => y_assign rfl) <| hend <| hthen <| hseq <| hreg <| ?_
  refine hx (xh_bsl Tryd.underlying139 ti120 rfl rfl rfl (by decide) (by decide) (by decide) (fun g1 => ?_))
  have hA_b1 : 0 < 64 → (some (⟨g1, 0, none⟩ : Addr)) ≠ none := fun _ h => by cases h
  refine hy (fun _ => y_assign rfl) <| hend <| hsub (ρ' := [(0, _)]) ⟨rfl, trivial⟩ <| hmemQ (X' := [_]) (S' := []) (fun _ m => m) <| hthen <| hret <| ?_
  refine hmemQ (fun w m => m.eqX 0 rfl (show _ = ROwn 120 1 (.slice (some ⟨g1, 0, none⟩) 64 64) 64 (wds rootsL) from rfl)) ?_
  exact hret1 trivial rfl rfl [0] rfl [] rfl ⟨_, rfl, rfl, rfl⟩
theorem rblockC {H : Option Addr} {hc : Nat} {A : Option Addr} {c : Nat} {l : List UInt8} {h : List UInt32} (hcc : 64 ≤ c) (hh : h.length = 8) : Con Tryd.prog 85 [.slice H 8 hc, .slice A 64 c] [] [RRd 1 H 8 (wds h), RRd 1 A 64 (b8s l)] (fun v_ X_ S_ => ∃ u, v_ = u ∧ X_ = [ROwn 120 1 u 8 (wds (blockL h l))] ∧ S_ = []) := by
  refine henter (N := 230) Tryd.func85 rfl rfl (by simp) fun b => ?_
  refine hfactC (fun m => rdX (m.rd 0 rfl)) ?_
  rintro ⟨hl_q, hA_q⟩
  refine hfactC (fun m => rdB (m.rd 1 rfl)) ?_
  rintro ⟨hl_r, hA_r⟩
  have hl : l.length = 64 := hl_r
  refine hseq <| hreg <| hy (fun _ => y_assign rfl) <| hend <| hthen <| hseq <| hreg <| ?_
  refine hx (xh_call rfl Tryd.call131 (rrootsC) [] rfl [] rfl ?_)
  rintro _ _ _ ⟨v, rfl, rfl, rfl⟩
  refine hfactL (fun m => (m.own 0 rfl).slice) ?_
  rintro ⟨A_x, c_x, rfl, hc_x⟩
  refine hfactL (fun m => (m.ord 0 rfl).2.1) fun hA_x => ?_
  refine hy (fun _ => y_assign rfl) <| hend <| hsub (ρ' := [(5, _), (4, _), (0, _), (1, _)]) ⟨rfl, rfl, rfl, rfl, trivial⟩ <| hmemQ (X' := [_]) (S' := [_, _]) (fun _ m => m) <| hthen <| hseq <| hreg <| hy (fun _ => y_assign rfl) <| hend <| hthen <| hseq <| hseq <| hreg <| hy (fun _ => y_assign rfl) <| hend <| hthen <| hblock <| ?_
  refine hmemC (fun w m => m.addX (r' := ROwn 120 1 (.slice none 0 0) 0 []) (.refl _ _) (Own.nil _ _ _ _) (fun k hk => hk.elim)) ?_
  refine hmemC (fun w m => m.eqX 0 rfl (show _ = ROwn 120 1 (.slice none 0 0) 0 (wds (wl l 0)) from rfl)) ?_
  refine hloop3 (fun i A1 c1 => 16 - i) (fun i A1 c1 => [(6, .slice A1 i c1), (7, .int .i64 (i : Nat))]) (fun i A1 c1 => [ROwn 120 1 (.slice A1 i c1) i (wds (wl l i))]) (fun i A1 c1 => []) (fun i A1 c1 => i ≤ 16) 0 none 0 [(5, _), (4, _), (0, _), (1, _)] ⟨rfl, rfl, rfl, rfl, trivial⟩ [0] rfl [] rfl (Nat.zero_le _) ⟨rfl, rfl, trivial⟩ (fun i A1 c1 hI => ?_)
  refine hseq <| hseq <| hreg <| hy (fun _ => y_move rfl) <| hy (fun _ => y_lss rfl rfl) <| hend <| hsub (ρ' := [(21, _), (6, _), (7, _), (5, _), (4, _), (0, _), (1, _)]) ⟨rfl, rfl, rfl, rfl, rfl, rfl, rfl, trivial⟩ <| hthen <| ?_
  refine hif rfl (fun hlt => ?_) (fun hlt => ?_)
  · have hws : wl l (i + 1) = wl l i ++ [word4 l (4 * i)] := by rw [wl, if_pos (by omega)]
    refine hcskip <| hthen <| hseq <| hblock <| hreg <| hy (fun _ => y_move rfl) <| hy (fun _ => y_move rfl) <| hy (fun _ => y_move rfl) <| hy (fun _ => y_mul rfl rfl (w64 (by omega) (by omega))) <| ?_
    rw [show (4 : Int) * (i : Int) = ((4 * i : Nat) : Int) by omega]
    refine hx (xh_call rfl Tryd.call132 (rwordC (by omega) (by omega) (i := 4 * i)) [] rfl [1] rfl ?_)
    rintro _ _ _ ⟨rfl, rfl, rfl⟩
    refine hx (xh_bsl Tryd.underlying139 ti120 rfl rfl rfl (by simp [Value.cells, B8]) (by decide) (by decide) (fun g29 => ?_))
    have hA_b29 : 0 < 1 → (some (⟨g29, 0, none⟩ : Addr)) ≠ none := fun _ h => by cases h
    refine hmemL (fun w m => m.eqX 0 rfl (show _ = ROwn 120 1 (.slice (some ⟨g29, 0, none⟩) 1 1) 1 (wds [word4 l (4 * i)]) from rfl)) ?_
    refine hx (xh_app 1 rfl rfl rfl Tryd.underlying139 Tryd.underlying139 (by exact .inl rfl) ti120 rfl (fun m => Src.of_rd (m.ord 0 rfl)) wds_one (by unfold maxLen; omega) (by omega) (fun u => ?_))
    refine hfactL (fun m => (m.own 0 rfl).slice) ?_
    rintro ⟨A_o, c_o, rfl, hc_o⟩
    refine hfactL (fun m => (m.ord 0 rfl).2.1) fun hA_o => ?_
    refine hmemL (fun w m => m.eqX 0 rfl (show _ = ROwn 120 1 (.slice A_o (i + 1) c_o) (i + 1) (wds (wl l (i + 1))) from by rw [hws, wds_append])) ?_
    refine hy (fun _ => y_assign rfl) <| hend <| hsub (ρ' := [(6, _), (21, _), (7, _), (5, _), (4, _), (0, _), (1, _)]) ⟨rfl, rfl, rfl, rfl, rfl, rfl, rfl, trivial⟩ <| hmemQ (X' := [_, _, _]) (S' := [_, _]) (fun _ m => m) <| hqblock <| hthen <| hreg <| hy (fun _ => y_move rfl) <| hy (fun _ => y_add rfl rfl (w64 (by omega) (by omega))) <| hy (fun _ => y_assign rfl) <| hend <| hsub (ρ' := [(7, _), (6, _), (21, _), (5, _), (4, _), (0, _), (1, _)]) ⟨rfl, rfl, rfl, rfl, rfl, rfl, rfl, trivial⟩ <| ?_
    refine hnext3 (i + 1) A_o c_o ⟨rfl, rfl, rfl, rfl, rfl, rfl, trivial⟩ [0, 1] rfl [0, 1] rfl (by omega) (by omega)
  · obtain rfl : i = 16 := by omega
    refine hexit <| hthen_exit <| hthen_exit <| hqblock_exit <| hthen <| hseq <| hseq <| hreg <| hy (fun _ => y_assign rfl) <| hend <| hthen <| hblock <| ?_
    refine hloop3 (fun i A1 c1 => 64 - i) (fun i A1 c1 => [(6, .slice A1 i c1), (8, .int .i64 (i : Nat))]) (fun i A1 c1 => [ROwn 120 1 (.slice A1 i c1) i (wds (wl l i))]) (fun i A1 c1 => []) (fun i A1 c1 => 16 ≤ i ∧ i ≤ 64) 16 A1 c1 [(21, _), (7, _), (5, _), (4, _), (0, _), (1, _)] ⟨rfl, rfl, rfl, rfl, rfl, rfl, trivial⟩ [0] rfl [] rfl (⟨Nat.le_refl _, by decide⟩) ⟨rfl, rfl, trivial⟩ (fun i A1 c1 ⟨hi16, hi64⟩ => ?_)
    have hwl := wl_length l i
    refine hfactC (fun m => (m.ord 0 rfl).2.1) fun hA_o => ?_
    refine hseq <| hseq <| hreg <| hy (fun _ => y_move rfl) <| hy (fun _ => y_lss rfl rfl) <| hend <| hsub (ρ' := [(32, _), (6, _), (8, _), (21, _), (7, _), (5, _), (4, _), (0, _), (1, _)]) ⟨rfl, rfl, rfl, rfl, rfl, rfl, rfl, rfl, rfl, trivial⟩ <| hthen <| ?_
    refine hif rfl (fun hlt => ?_) (fun hlt => ?_)
    · have hws : wl l (i + 1) = wl l i ++ [wnext (wl l i) i] := by rw [wl, if_neg (by omega)]
      refine hcskip <| hthen <| hseq <| hblock <| hseq <| hdrw [5, 11] [(0, some 0), (1, some 2), (2, some 0), (3, some 0), (4, some 0), (6, some 1), (7, some 1), (8, some 1), (9, some 1), (10, some 1), (13, some 2), (14, some 2), (15, some 2), (16, some 2), (17, some 2), (18, some 2), (5, none), (11, none), (12, some 2), (19, some 2), (20, some 2)] (by kernel_rfl) (by kernel_rfl) rfl 99 <| htyU (y_move rfl) <| htyU (y_move rfl) <| htyU (y_sub rfl rfl (w64 (by omega) (by omega))) <| htyU (y_idxS1 rfl rfl Tryd.underlying139 sz120 hA_o (show ((i - 15 : Nat) : Int) = _ by omega) (by omega)) <| hty (fun m => y_ld1 rfl ag120 ((m.ord 0 rfl).cell (j := i - 15) (wds_get (by omega)))) <| htyU (y_move rfl) <| htyU (y_move rfl) <| htyU (y_sub rfl rfl (w64 (by omega) (by omega))) <| htyU (y_idxS1 rfl rfl Tryd.underlying139 sz120 hA_o (show ((i - 15 : Nat) : Int) = _ by omega) (by omega)) <| hty (fun m => y_ld1 rfl ag120 ((m.ord 0 rfl).cell (j := i - 15) (wds_get (by omega)))) <| htyU (y_move rfl) <| htyU (y_move rfl) <| htyU (y_sub rfl rfl (w64 (by omega) (by omega))) <| htyU (y_idxS1 rfl rfl Tryd.underlying139 sz120 hA_o (show ((i - 15 : Nat) : Int) = _ by omega) (by omega)) <| hty (fun m => y_ld1 rfl ag120 ((m.ord 0 rfl).cell (j := i - 15) (wds_get (by omega)))) <| htyU (y_wquo (b := 8) (by decide) rfl rfl) <| ?_
      refine htx (xh_call rfl Tryd.call133 (rturnC (by omega) (n := 7)) [] rfl [] rfl ?_)
      rintro _ _ _ ⟨rfl, rfl, rfl⟩
      refine ⟨(fun _ => wk [0, 0] [0, 1] rfl rfl), ?_⟩
      refine htx (xh_call rfl Tryd.call133 (rturnC (by omega) (n := 18)) [] rfl [] rfl ?_)
      rintro _ _ _ ⟨rfl, rfl, rfl⟩
      refine ⟨(fun _ => wk [0, 0] [0, 1] rfl rfl), ?_⟩
      refine htyU (y_wxor rfl rfl) <| htyU (y_wxor rfl rfl) <| htyU (y_assign rfl) <| htend <| hsub (ρ' := [(9, _), (32, _), (6, _), (8, _), (21, _), (7, _), (5, _), (4, _), (0, _), (1, _)]) ⟨rfl, rfl, rfl, rfl, rfl, rfl, rfl, rfl, rfl, rfl, trivial⟩ <| hmemQ (X' := [_, _]) (S' := [_, _]) (fun _ m => m) <| hthen <| hseq <| hdrw [5, 11] [(0, some 0), (1, some 2), (2, some 0), (3, some 0), (4, some 0), (6, some 1), (7, some 1), (8, some 1), (9, some 1), (10, some 1), (13, some 2), (14, some 2), (15, some 2), (16, some 2), (17, some 2), (18, some 2), (5, none), (11, none), (12, some 2), (19, some 2), (20, some 2)] (by kernel_rfl) (by kernel_rfl) rfl 99 <| htyU (y_move rfl) <| htyU (y_move rfl) <| htyU (y_sub rfl rfl (w64 (by omega) (by omega))) <| htyU (y_idxS1 rfl rfl Tryd.underlying139 sz120 hA_o (show ((i - 2 : Nat) : Int) = _ by omega) (by omega)) <| hty (fun m => y_ld1 rfl ag120 ((m.ord 0 rfl).cell (j := i - 2) (wds_get (by omega)))) <| htyU (y_move rfl) <| htyU (y_move rfl) <| htyU (y_sub rfl rfl (w64 (by omega) (by omega))) <| htyU (y_idxS1 rfl rfl Tryd.underlying139 sz120 hA_o (show ((i - 2 : Nat) : Int) = _ by omega) (by omega)) <| hty (fun m => y_ld1 rfl ag120 ((m.ord 0 rfl).cell (j := i - 2) (wds_get (by omega)))) <| htyU (y_move rfl) <| htyU (y_move rfl) <| htyU (y_sub rfl rfl (w64 (by omega) (by omega))) <| htyU (y_idxS1 rfl rfl Tryd.underlying139 sz120 hA_o (show ((i - 2 : Nat) : Int) = _ by omega) (by omega)) <| hty (fun m => y_ld1 rfl ag120 ((m.ord 0 rfl).cell (j := i - 2) (wds_get (by omega)))) <| htyU (y_wquo (b := 1024) (by decide) rfl rfl) <| ?_
      refine htx (xh_call rfl Tryd.call133 (rturnC (by omega) (n := 17)) [] rfl [] rfl ?_)
      rintro _ _ _ ⟨rfl, rfl, rfl⟩
      refine ⟨(fun _ => wk [0, 0] [0, 1] rfl rfl), ?_⟩
      refine htx (xh_call rfl Tryd.call133 (rturnC (by omega) (n := 19)) [] rfl [] rfl ?_)
      rintro _ _ _ ⟨rfl, rfl, rfl⟩
      refine ⟨(fun _ => wk [0, 0] [0, 1] rfl rfl), ?_⟩
      refine htyU (y_wxor rfl rfl) <| htyU (y_wxor rfl rfl) <| htyU (y_assign rfl) <| htend <| hsub (ρ' := [(10, _), (9, _), (32, _), (6, _), (8, _), (21, _), (7, _), (5, _), (4, _), (0, _), (1, _)]) ⟨rfl, rfl, rfl, rfl, rfl, rfl, rfl, rfl, rfl, rfl, rfl, trivial⟩ <| hmemQ (X' := [_, _]) (S' := [_, _]) (fun _ m => m) <| hthen <| hdrw [5, 16, 17] [(0, some 2), (1, some 3), (2, some 3), (3, some 3), (4, some 3), (6, some 3), (8, some 3), (9, some 3), (10, some 3), (11, some 3), (12, some 1), (14, some 1), (5, none), (7, some 1), (13, some 1), (15, some 1), (16, none), (17, none), (18, some 3)] (by kernel_rfl) (by kernel_rfl) rfl 2 <| htyU (y_move rfl) <| htyU (y_move rfl) <| htyU (y_move rfl) <| htyU (y_sub rfl rfl (w64 (by omega) (by omega))) <| htyU (y_idxS1 rfl rfl Tryd.underlying139 sz120 hA_o (show ((i - 16 : Nat) : Int) = _ by omega) (by omega)) <| htyU (y_move rfl) <| htyU (y_move rfl) <| htyU (y_move rfl) <| htyU (y_sub rfl rfl (w64 (by omega) (by omega))) <| htyU (y_idxS1 rfl rfl Tryd.underlying139 sz120 hA_o (show ((i - 7 : Nat) : Int) = _ by omega) (by omega)) <| hty (fun m => y_ld1 rfl ag120 ((m.ord 0 rfl).cell (j := i - 7) (wds_get (by omega)))) <| htyU (y_move rfl) <| hts (fun _ => wk [0, 0] [0, 1] rfl rfl) (fun m => y_ld1 rfl ag120 ((m.ord 0 rfl).cell (j := i - 16) (wds_get (by omega)))) <| htyU (y_wadd rfl rfl) <| htyU (y_wadd rfl rfl) <| htyU (yV (y_wadd rfl rfl) ((rfl : _ = Wd (wnext (wl l i) i)))) <| ?_
      refine htx (xh_bsl Tryd.underlying139 ti120 rfl rfl rfl (by exact wds_size (l := [_])) (by decide) (by decide) (fun g91 => ⟨(fun _ => wk [1, 1] [0, 1] rfl rfl), ?_⟩))
      have hA_b91 : 0 < 1 → (some (⟨g91, 0, none⟩ : Addr)) ≠ none := fun _ h => by cases h
      refine htmem (fun w m => m.eqX 0 rfl (show _ = ROwn 120 1 (.slice (some ⟨g91, 0, none⟩) 1 1) 1 (wds [wnext (wl l i) i]) from rfl)) ?_
      refine htx (xh_app 1 rfl rfl rfl Tryd.underlying139 Tryd.underlying139 (by exact .inl rfl) ti120 rfl (fun m => Src.of_rd (m.ord 0 rfl)) wds_one (by unfold maxLen; omega) (by omega) (fun u => ⟨(fun h => absurd h (by decide)), ?_⟩))
      refine htfact (fun m => (m.own 0 rfl).slice) ?_
      rintro ⟨A_o, c_o, rfl, hc_o⟩
      refine htfact (fun m => (m.ord 0 rfl).2.1) fun hA_o => ?_
      refine htmem (fun w m => m.eqX 0 rfl (show _ = ROwn 120 1 (.slice A_o (i + 1) c_o) (i + 1) (wds (wl l (i + 1))) from by rw [hws, wds_append])) ?_
      refine htyU (y_assign rfl) <| htend <| hsub (ρ' := [(6, _), (10, _), (9, _), (32, _), (8, _), (21, _), (7, _), (5, _), (4, _), (0, _), (1, _)]) ⟨rfl, rfl, rfl, rfl, rfl, rfl, rfl, rfl, rfl, rfl, rfl, trivial⟩ <| hmemQ (X' := [_, _, _]) (S' := [_, _]) (fun _ m => m) <| hqblock <| hthen <| hreg <| hy (fun _ => y_move rfl) <| hy (fun _ => y_add rfl rfl (w64 (by omega) (by omega))) <| hy (fun _ => y_assign rfl) <| hend <| hsub (ρ' := [(8, _), (6, _), (10, _), (9, _), (32, _), (21, _), (7, _), (5, _), (4, _), (0, _), (1, _)]) ⟨rfl, rfl, rfl, rfl, rfl, rfl, rfl, rfl, rfl, rfl, rfl, trivial⟩ <| ?_
      refine hnext3 (i + 1) A_o c_o ⟨rfl, rfl, rfl, rfl, rfl, rfl, rfl, rfl, trivial⟩ [0, 1] rfl [0, 1] rfl (⟨by omega, by omega⟩) (by omega)
    · obtain rfl : i = 64 := by omega
      obtain ⟨W, hW⟩ : ∃ W, wl l 64 = W := ⟨_, rfl⟩
      have hw64 : W.length = 64 := by rw [← hW]; exact wl_length l 64
      rw [hW]
      refine hexit <| hthen_exit <| hthen_exit <| hqblock_exit <| hthen <| hseq <| hreg <| hy (fun _ => y_assign rfl) <| hend <| hthen <| hseq <| hreg <| hy (fun _ => y_move rfl) <| hy (fun _ => y_move rfl) <| ?_
      refine hmemL (fun w m => m.addX (r' := ROwn 120 1 (.slice none 0 0) 0 []) (.refl _ _) (Own.nil _ _ _ _) (fun k hk => hk.elim)) ?_
      refine hx (xh_app 0 rfl rfl rfl Tryd.underlying139 Tryd.underlying139 (by exact .inl rfl) ti120 rfl (fun m => Src.of_rd (m.rd 0 rfl)) wds_one (by unfold maxLen; omega) (by omega) (fun u => ?_))
      refine hfactL (fun m => (m.own 0 rfl).slice) ?_
      rintro ⟨A_v, c_v, rfl, hc_v⟩
      refine hfactL (fun m => (m.ord 0 rfl).2.1) fun hA_v => ?_
      refine hmemL (fun w m => m.eqX 0 rfl (show _ = ROwn 120 1 (.slice A_v 8 c_v) 8 (wds (rnds W h 0)) from rfl)) ?_
      refine hy (fun _ => y_assign rfl) <| hend <| hsub (ρ' := [(11, _), (32, _), (6, _), (8, _), (21, _), (7, _), (5, _), (4, _), (0, _), (1, _)]) ⟨rfl, rfl, rfl, rfl, rfl, rfl, rfl, rfl, rfl, rfl, trivial⟩ <| hmemQ (X' := [_, _, _]) (S' := [_, _]) (fun _ m => m) <| hthen <| hseq <| hseq <| hreg <| hy (fun _ => y_assign rfl) <| hend <| hthen <| hblock <| ?_
      refine hloop3 (fun i A2 c2 => 64 - i) (fun i A2 c2 => [(11, .slice A2 8 c2), (12, .int .i64 (i : Nat))]) (fun i A2 c2 => [ROwn 120 1 (.slice A2 8 c2) 8 (wds (rnds W h i))]) (fun i A2 c2 => []) (fun i A2 c2 => i ≤ 64) 0 A_v c_v [(32, _), (6, _), (8, _), (21, _), (7, _), (5, _), (4, _), (0, _), (1, _)] ⟨rfl, rfl, rfl, rfl, rfl, rfl, rfl, rfl, rfl, trivial⟩ [0] rfl [] rfl (Nat.zero_le _) ⟨rfl, rfl, trivial⟩ (fun i A2 c2 hi64 => ?_)
      have hv := rnds_length (w := W) hh i
      have hro : rootsL.length = 64 := rfl
      refine hfactC (fun m => (m.ord 0 rfl).2.1) fun hA_v => ?_
      refine hfactC (fun m => (m.ord 2 rfl).2.1) fun hA_x => ?_
      refine hfactC (fun m => (m.ord 1 rfl).2.1) fun hA_o => ?_
      refine hseq <| hseq <| hreg <| hy (fun _ => y_move rfl) <| hy (fun _ => y_lss rfl rfl) <| hend <| hsub (ρ' := [(97, _), (11, _), (12, _), (32, _), (6, _), (8, _), (21, _), (7, _), (5, _), (4, _), (0, _), (1, _)]) ⟨rfl, rfl, rfl, rfl, rfl, rfl, rfl, rfl, rfl, rfl, rfl, rfl, trivial⟩ <| hthen <| ?_
      refine hif rfl (fun hlt => ?_) (fun hlt => ?_)
      · generalize hvd : rnds W h i = v at hv ⊢
        refine hcskip <| hthen <| hseq <| hblock <| hseq <| hdrw [3, 7, 12] [(0, some 3), (1, some 0), (2, some 0), (4, some 1), (5, some 1), (6, some 1), (9, some 2), (10, some 2), (11, some 2), (3, none), (7, none), (8, some 3), (12, none), (13, some 3), (14, some 3)] (by kernel_rfl) (by kernel_rfl) rfl 99 <| htyU (y_move rfl) <| htyU (y_idxS1 rfl rfl Tryd.underlying139 sz120 hA_v (show ((4 : Nat) : Int) = 4 from rfl) (by omega)) <| hty (fun m => y_ld1 rfl ag120 ((m.ord 0 rfl).cell (j := 4) (wds_get (by omega)))) <| htyU (y_move rfl) <| htyU (y_idxS1 rfl rfl Tryd.underlying139 sz120 hA_v (show ((4 : Nat) : Int) = 4 from rfl) (by omega)) <| hty (fun m => y_ld1 rfl ag120 ((m.ord 0 rfl).cell (j := 4) (wds_get (by omega)))) <| htyU (y_move rfl) <| htyU (y_idxS1 rfl rfl Tryd.underlying139 sz120 hA_v (show ((4 : Nat) : Int) = 4 from rfl) (by omega)) <| hty (fun m => y_ld1 rfl ag120 ((m.ord 0 rfl).cell (j := 4) (wds_get (by omega)))) <| ?_
        refine htx (xh_call rfl Tryd.call133 (rturnC (by omega) (n := 6)) [] rfl [] rfl ?_)
        rintro _ _ _ ⟨rfl, rfl, rfl⟩
        refine ⟨(fun _ => wk [0, 0, 0] [0, 1] rfl rfl), ?_⟩
        refine htx (xh_call rfl Tryd.call133 (rturnC (by omega) (n := 11)) [] rfl [] rfl ?_)
        rintro _ _ _ ⟨rfl, rfl, rfl⟩
        refine ⟨(fun _ => wk [0, 0, 0] [0, 1] rfl rfl), ?_⟩
        refine htyU (y_wxor rfl rfl) <| ?_
        refine htx (xh_call rfl Tryd.call133 (rturnC (by omega) (n := 25)) [] rfl [] rfl ?_)
        rintro _ _ _ ⟨rfl, rfl, rfl⟩
        refine ⟨(fun _ => wk [0, 0, 0] [0, 1] rfl rfl), ?_⟩
        refine htyU (yV (y_wxor rfl rfl) ((rfl : _ = Wd (turns 6 11 25 (v_ v 4))))) <| htyU (y_assign rfl) <| htend <| hsub (ρ' := [(13, _), (97, _), (11, _), (12, _), (32, _), (6, _), (8, _), (21, _), (7, _), (5, _), (4, _), (0, _), (1, _)]) ⟨rfl, rfl, rfl, rfl, rfl, rfl, rfl, rfl, rfl, rfl, rfl, rfl, rfl, trivial⟩ <| hmemQ (X' := [_, _, _]) (S' := [_, _]) (fun _ m => m) <| hthen <| hseq <| hdrw [] [(0, some 0), (1, some 0), (2, some 0), (3, some 0), (4, some 0), (5, some 0), (6, some 0), (7, some 0), (8, some 0), (9, some 0), (10, some 0), (11, some 0), (12, some 0), (13, some 0), (14, some 0), (15, some 0), (16, some 0)] (by kernel_rfl) (by kernel_rfl) rfl 99 <| htyU (y_move rfl) <| htyU (y_idxS1 rfl rfl Tryd.underlying139 sz120 hA_v (show ((4 : Nat) : Int) = 4 from rfl) (by omega)) <| hty (fun m => y_ld1 rfl ag120 ((m.ord 0 rfl).cell (j := 4) (wds_get (by omega)))) <| htyU (y_move rfl) <| htyU (y_idxS1 rfl rfl Tryd.underlying139 sz120 hA_v (show ((5 : Nat) : Int) = 5 from rfl) (by omega)) <| hty (fun m => y_ld1 rfl ag120 ((m.ord 0 rfl).cell (j := 5) (wds_get (by omega)))) <| htyU (y_wand rfl rfl) <| htyU (y_move rfl) <| htyU (y_idxS1 rfl rfl Tryd.underlying139 sz120 hA_v (show ((4 : Nat) : Int) = 4 from rfl) (by omega)) <| hty (fun m => y_ld1 rfl ag120 ((m.ord 0 rfl).cell (j := 4) (wds_get (by omega)))) <| htyU (y_wsub1 rfl rfl) <| htyU (y_move rfl) <| htyU (y_idxS1 rfl rfl Tryd.underlying139 sz120 hA_v (show ((6 : Nat) : Int) = 6 from rfl) (by omega)) <| hty (fun m => y_ld1 rfl ag120 ((m.ord 0 rfl).cell (j := 6) (wds_get (by omega)))) <| htyU (y_wand rfl rfl) <| htyU (y_wxor rfl rfl) <| htyU (y_assign rfl) <| htend <| hsub (ρ' := [(14, _), (13, _), (97, _), (11, _), (12, _), (32, _), (6, _), (8, _), (21, _), (7, _), (5, _), (4, _), (0, _), (1, _)]) ⟨rfl, rfl, rfl, rfl, rfl, rfl, rfl, rfl, rfl, rfl, rfl, rfl, rfl, rfl, trivial⟩ <| hthen <| hseq <| hdrw [] [(0, some 0), (1, some 0), (2, some 0), (3, some 0), (4, some 0), (5, some 0), (6, some 0), (7, some 0), (8, some 0), (9, some 0), (10, some 0), (11, some 0), (12, some 0), (13, some 0), (14, some 0), (15, some 0), (16, some 0), (17, some 0)] (by kernel_rfl) (by kernel_rfl) rfl 99 <| htyU (y_move rfl) <| htyU (y_idxS1 rfl rfl Tryd.underlying139 sz120 hA_v (show ((7 : Nat) : Int) = 7 from rfl) (by omega)) <| hty (fun m => y_ld1 rfl ag120 ((m.ord 0 rfl).cell (j := 7) (wds_get (by omega)))) <| htyU (y_move rfl) <| htyU (y_wadd rfl rfl) <| htyU (y_move rfl) <| htyU (y_wadd rfl rfl) <| htyU (y_move rfl) <| htyU (y_move rfl) <| htyU (y_idxS1 rfl rfl Tryd.underlying139 sz120 hA_x rfl (by omega)) <| hty (fun m => y_ld1 rfl ag120 ((m.ord 2 rfl).cell (j := i) (wds_get (by omega)))) <| ?_
        generalize hk : rootsL.getD i 0 = k
        refine htyU (y_wadd rfl rfl) <| htyU (y_move rfl) <| htyU (y_move rfl) <| htyU (y_idxS1 rfl rfl Tryd.underlying139 sz120 hA_o rfl (by omega)) <| hty (fun m => y_ld1 rfl ag120 ((m.ord 1 rfl).cell (j := i) (wds_get (by omega)))) <| htyU (yV (y_wadd rfl rfl) ((rfl : _ = Wd (rt v k (W.getD i 0))))) <| htyU (y_assign rfl) <| htend <| hsub (ρ' := [(15, _), (14, _), (13, _), (97, _), (11, _), (12, _), (32, _), (6, _), (8, _), (21, _), (7, _), (5, _), (4, _), (0, _), (1, _)]) ⟨rfl, rfl, rfl, rfl, rfl, rfl, rfl, rfl, rfl, rfl, rfl, rfl, rfl, rfl, rfl, trivial⟩ <| hthen <| hseq <| hdrw [3, 7, 12] [(0, some 3), (1, some 0), (2, some 0), (4, some 1), (5, some 1), (6, some 1), (9, some 2), (10, some 2), (11, some 2), (3, none), (7, none), (8, some 3), (12, none), (13, some 3), (14, some 3)] (by kernel_rfl) (by kernel_rfl) rfl 99 <| htyU (y_move rfl) <| htyU (y_idxS1 rfl rfl Tryd.underlying139 sz120 hA_v (show ((0 : Nat) : Int) = 0 from rfl) (by omega)) <| hty (fun m => y_ld1 rfl ag120 ((m.ord 0 rfl).cell (j := 0) (wds_get (by omega)))) <| htyU (y_move rfl) <| htyU (y_idxS1 rfl rfl Tryd.underlying139 sz120 hA_v (show ((0 : Nat) : Int) = 0 from rfl) (by omega)) <| hty (fun m => y_ld1 rfl ag120 ((m.ord 0 rfl).cell (j := 0) (wds_get (by omega)))) <| htyU (y_move rfl) <| htyU (y_idxS1 rfl rfl Tryd.underlying139 sz120 hA_v (show ((0 : Nat) : Int) = 0 from rfl) (by omega)) <| hty (fun m => y_ld1 rfl ag120 ((m.ord 0 rfl).cell (j := 0) (wds_get (by omega)))) <| ?_
        refine htx (xh_call rfl Tryd.call133 (rturnC (by omega) (n := 2)) [] rfl [] rfl ?_)
        rintro _ _ _ ⟨rfl, rfl, rfl⟩
        refine ⟨(fun _ => wk [0, 0, 0] [0, 1] rfl rfl), ?_⟩
        refine htx (xh_call rfl Tryd.call133 (rturnC (by omega) (n := 13)) [] rfl [] rfl ?_)
        rintro _ _ _ ⟨rfl, rfl, rfl⟩
        refine ⟨(fun _ => wk [0, 0, 0] [0, 1] rfl rfl), ?_⟩
        refine htyU (y_wxor rfl rfl) <| ?_
        refine htx (xh_call rfl Tryd.call133 (rturnC (by omega) (n := 22)) [] rfl [] rfl ?_)
        rintro _ _ _ ⟨rfl, rfl, rfl⟩
        refine ⟨(fun _ => wk [0, 0, 0] [0, 1] rfl rfl), ?_⟩
        refine htyU (yV (y_wxor rfl rfl) ((rfl : _ = Wd (turns 2 13 22 (v_ v 0))))) <| htyU (y_assign rfl) <| htend <| hsub (ρ' := [(16, _), (15, _), (14, _), (13, _), (97, _), (11, _), (12, _), (32, _), (6, _), (8, _), (21, _), (7, _), (5, _), (4, _), (0, _), (1, _)]) ⟨rfl, rfl, rfl, rfl, rfl, rfl, rfl, rfl, rfl, rfl, rfl, rfl, rfl, rfl, rfl, rfl, trivial⟩ <| hmemQ (X' := [_, _, _]) (S' := [_, _]) (fun _ m => m) <| hthen <| hseq <| hdrw [] [(0, some 0), (1, some 0), (2, some 0), (3, some 0), (4, some 0), (5, some 0), (6, some 0), (7, some 0), (8, some 0), (9, some 0), (10, some 0), (11, some 0), (12, some 0), (13, some 0), (14, some 0), (15, some 0), (16, some 0), (17, some 0), (18, some 0), (19, some 0), (20, some 0), (21, some 0), (22, some 0), (23, some 0)] (by kernel_rfl) (by kernel_rfl) rfl 99 <| htyU (y_move rfl) <| htyU (y_idxS1 rfl rfl Tryd.underlying139 sz120 hA_v (show ((0 : Nat) : Int) = 0 from rfl) (by omega)) <| hty (fun m => y_ld1 rfl ag120 ((m.ord 0 rfl).cell (j := 0) (wds_get (by omega)))) <| htyU (y_move rfl) <| htyU (y_idxS1 rfl rfl Tryd.underlying139 sz120 hA_v (show ((1 : Nat) : Int) = 1 from rfl) (by omega)) <| hty (fun m => y_ld1 rfl ag120 ((m.ord 0 rfl).cell (j := 1) (wds_get (by omega)))) <| htyU (y_wand rfl rfl) <| htyU (y_move rfl) <| htyU (y_idxS1 rfl rfl Tryd.underlying139 sz120 hA_v (show ((0 : Nat) : Int) = 0 from rfl) (by omega)) <| hty (fun m => y_ld1 rfl ag120 ((m.ord 0 rfl).cell (j := 0) (wds_get (by omega)))) <| htyU (y_move rfl) <| htyU (y_idxS1 rfl rfl Tryd.underlying139 sz120 hA_v (show ((2 : Nat) : Int) = 2 from rfl) (by omega)) <| hty (fun m => y_ld1 rfl ag120 ((m.ord 0 rfl).cell (j := 2) (wds_get (by omega)))) <| htyU (y_wand rfl rfl) <| htyU (y_wxor rfl rfl) <| htyU (y_move rfl) <| htyU (y_idxS1 rfl rfl Tryd.underlying139 sz120 hA_v (show ((1 : Nat) : Int) = 1 from rfl) (by omega)) <| hty (fun m => y_ld1 rfl ag120 ((m.ord 0 rfl).cell (j := 1) (wds_get (by omega)))) <| htyU (y_move rfl) <| htyU (y_idxS1 rfl rfl Tryd.underlying139 sz120 hA_v (show ((2 : Nat) : Int) = 2 from rfl) (by omega)) <| hty (fun m => y_ld1 rfl ag120 ((m.ord 0 rfl).cell (j := 2) (wds_get (by omega)))) <| htyU (y_wand rfl rfl) <| htyU (y_wxor rfl rfl) <| htyU (y_assign rfl) <| htend <| hsub (ρ' := [(17, _), (16, _), (15, _), (14, _), (13, _), (97, _), (11, _), (12, _), (32, _), (6, _), (8, _), (21, _), (7, _), (5, _), (4, _), (0, _), (1, _)]) ⟨rfl, rfl, rfl, rfl, rfl, rfl, rfl, rfl, rfl, rfl, rfl, rfl, rfl, rfl, rfl, rfl, rfl, trivial⟩ <| hthen <| hdrw [28] [(0, some 0), (1, some 0), (2, some 0), (3, some 0), (4, some 0), (5, some 0), (6, some 0), (7, some 0), (8, some 0), (9, some 0), (10, some 0), (11, some 0), (12, some 0), (13, some 0), (14, some 0), (15, some 0), (16, some 0), (17, some 0), (18, some 0), (19, some 0), (20, some 0), (21, some 0), (22, some 0), (23, some 0), (24, some 0), (25, some 0), (26, some 0), (27, some 0), (28, none), (29, some 1)] (by kernel_rfl) (by kernel_rfl) rfl 99 <| htyU (y_move rfl) <| htyU (y_move rfl) <| htyU (y_wadd rfl rfl) <| htyU (y_move rfl) <| htyU (yV (y_wadd rfl rfl) ((show Wd (rt v k (W.getD i 0) + turns 2 13 22 (v_ v 0) + ((v_ v 0 &&& v_ v 1) ^^^ (v_ v 0 &&& v_ v 2) ^^^ (v_ v 1 &&& v_ v 2))) = Wd (rt v k (W.getD i 0) + ru v) by rw [UInt32.add_assoc]; rfl))) <| htyU (y_move rfl) <| htyU (y_idxS1 rfl rfl Tryd.underlying139 sz120 hA_v (show ((0 : Nat) : Int) = 0 from rfl) (by omega)) <| hty (fun m => y_ld1 rfl ag120 ((m.ord 0 rfl).cell (j := 0) (wds_get (by omega)))) <| htyU (y_move rfl) <| htyU (y_idxS1 rfl rfl Tryd.underlying139 sz120 hA_v (show ((1 : Nat) : Int) = 1 from rfl) (by omega)) <| hty (fun m => y_ld1 rfl ag120 ((m.ord 0 rfl).cell (j := 1) (wds_get (by omega)))) <| htyU (y_move rfl) <| htyU (y_idxS1 rfl rfl Tryd.underlying139 sz120 hA_v (show ((2 : Nat) : Int) = 2 from rfl) (by omega)) <| hty (fun m => y_ld1 rfl ag120 ((m.ord 0 rfl).cell (j := 2) (wds_get (by omega)))) <| htyU (y_move rfl) <| htyU (y_idxS1 rfl rfl Tryd.underlying139 sz120 hA_v (show ((3 : Nat) : Int) = 3 from rfl) (by omega)) <| hty (fun m => y_ld1 rfl ag120 ((m.ord 0 rfl).cell (j := 3) (wds_get (by omega)))) <| htyU (y_move rfl) <| htyU (y_wadd rfl rfl) <| htyU (y_move rfl) <| htyU (y_idxS1 rfl rfl Tryd.underlying139 sz120 hA_v (show ((4 : Nat) : Int) = 4 from rfl) (by omega)) <| hty (fun m => y_ld1 rfl ag120 ((m.ord 0 rfl).cell (j := 4) (wds_get (by omega)))) <| htyU (y_move rfl) <| htyU (y_idxS1 rfl rfl Tryd.underlying139 sz120 hA_v (show ((5 : Nat) : Int) = 5 from rfl) (by omega)) <| hty (fun m => y_ld1 rfl ag120 ((m.ord 0 rfl).cell (j := 5) (wds_get (by omega)))) <| htyU (y_move rfl) <| htyU (y_idxS1 rfl rfl Tryd.underlying139 sz120 hA_v (show ((6 : Nat) : Int) = 6 from rfl) (by omega)) <| hty (fun m => y_ld1 rfl ag120 ((m.ord 0 rfl).cell (j := 6) (wds_get (by omega)))) <| ?_
        refine htx (xh_bsl Tryd.underlying139 ti120 rfl rfl rfl (by exact wds_size (l := [_, _, _, _, _, _, _, _])) (by decide) (by decide) (fun g212 => ⟨(fun _ => wk [1, 1, 1] [0, 1] rfl rfl), ?_⟩))
        have hA_b212 : 0 < 8 → (some (⟨g212, 0, none⟩ : Addr)) ≠ none := fun _ h => by cases h
        refine htyU (y_assign rfl) <| htend <| hsub (ρ' := [(11, _), (17, _), (16, _), (15, _), (14, _), (13, _), (97, _), (12, _), (32, _), (6, _), (8, _), (21, _), (7, _), (5, _), (4, _), (0, _), (1, _)]) ⟨rfl, rfl, rfl, rfl, rfl, rfl, rfl, rfl, rfl, rfl, rfl, rfl, rfl, rfl, rfl, rfl, rfl, trivial⟩ <| hmemQ (X' := [_, _, _, _]) (S' := [_, _]) (fun _ m => m) <| hqblock <| hthen <| hreg <| hy (fun _ => y_move rfl) <| hy (fun _ => y_add rfl rfl (w64 (by omega) (by omega))) <| hy (fun _ => y_assign rfl) <| hend <| hsub (ρ' := [(12, _), (11, _), (17, _), (16, _), (15, _), (14, _), (13, _), (97, _), (32, _), (6, _), (8, _), (21, _), (7, _), (5, _), (4, _), (0, _), (1, _)]) ⟨rfl, rfl, rfl, rfl, rfl, rfl, rfl, rfl, rfl, rfl, rfl, rfl, rfl, rfl, rfl, rfl, rfl, trivial⟩ <| ?_
        refine hmemQ (fun w m => m.eqX 0 rfl (show _ = ROwn 120 1 (.slice (some ⟨g212, 0, none⟩) 8 8) 8 (wds (rnds W h (i + 1))) from by rw [rnds, hvd, hk]; rfl)) ?_
        refine hnext3 (i + 1) (some ⟨g212, 0, none⟩) 8 ⟨rfl, rfl, rfl, rfl, rfl, rfl, rfl, rfl, rfl, rfl, rfl, trivial⟩ [0, 1, 1] rfl [0, 1] rfl (by omega) (by omega)
      · obtain rfl : i = 64 := by omega
        generalize hvv : rnds W h 64 = v at hv ⊢
        refine hmemC (fun w m => m.eqX 0 rfl (show _ = ROwn 120 1 (.slice A2 8 c2) 8 (wds (hsum v h 0)) from by rw [hsum_zero])) ?_
        refine hexit <| hthen_exit <| hthen_exit <| hqblock_exit <| hthen <| hseq <| hseq <| hreg <| hy (fun _ => y_assign rfl) <| hend <| hthen <| hblock <| ?_
        refine hloop1 (fun j => 8 - j) (fun j => [(18, .int .i64 (j : Nat))]) (fun j => [ROwn 120 1 (.slice A2 8 c2) 8 (wds (hsum v h j))]) (fun j => []) (fun j => j ≤ 8) 0 [(97, _), (11, _), (12, _), (32, _), (6, _), (8, _), (21, _), (7, _), (5, _), (4, _), (0, _), (1, _)] ⟨rfl, rfl, rfl, rfl, rfl, rfl, rfl, rfl, rfl, rfl, rfl, rfl, trivial⟩ [0] rfl [] rfl (Nat.zero_le _) ⟨rfl, trivial⟩ (fun j hj8 => ?_)
        have hsl : (hsum v h j).length = v.length := by simp [hsum]
        refine hseq <| hseq <| hreg <| hy (fun _ => y_move rfl) <| hy (fun _ => y_lss rfl rfl) <| hend <| hsub (ρ' := [(214, _), (18, _), (97, _), (11, _), (12, _), (32, _), (6, _), (8, _), (21, _), (7, _), (5, _), (4, _), (0, _), (1, _)]) ⟨rfl, rfl, rfl, rfl, rfl, rfl, rfl, rfl, rfl, rfl, rfl, rfl, rfl, rfl, trivial⟩ <| hthen <| ?_
        refine hif rfl (fun hj => ?_) (fun hj => ?_)
        · refine hcskip <| hthen <| hseq <| hblock <| hdrw [12] [(0, some 0), (1, some 0), (2, some 0), (3, some 0), (4, some 0), (5, some 0), (6, some 0), (7, some 0), (8, some 0), (9, some 0), (10, some 0), (11, some 0), (12, none)] (by kernel_rfl) (by kernel_rfl) rfl 0 <| htyU (y_move rfl) <| htyU (y_move rfl) <| htyU (y_move rfl) <| htyU (y_move rfl) <| htyU (y_idxS1 rfl rfl Tryd.underlying139 sz120 hA_v rfl (by omega)) <| hty (fun m => y_ld1 rfl ag120 ((m.ord 0 rfl).cell (j := j) (wds_get (by omega)))) <| htyU (y_move rfl) <| htyU (y_move rfl) <| htyU (y_idxS1 rfl rfl Tryd.underlying139 sz120 hA_q rfl (by omega)) <| hty (fun m => y_ld1 rfl ag120 ((m.rd 0 rfl).cell (j := j) (wds_get (by omega)))) <| htyU (yV (y_wadd rfl rfl) ((rfl : _ = Wd (v_ (hsum v h j) j + v_ h j)))) <| htyU (y_idxS1 rfl rfl Tryd.underlying139 sz120 hA_v rfl (by omega)) <| ?_
          refine htx0 (xh_stO 0 rfl rfl rfl sz120 rfl (by omega) ⟨(fun h => absurd h (by decide)), ?_⟩)
          refine htend <| hsub (ρ' := [(214, _), (18, _), (97, _), (11, _), (12, _), (32, _), (6, _), (8, _), (21, _), (7, _), (5, _), (4, _), (0, _), (1, _)]) ⟨rfl, rfl, rfl, rfl, rfl, rfl, rfl, rfl, rfl, rfl, rfl, rfl, rfl, rfl, trivial⟩ <| hmemQ (X' := [_, _, _]) (S' := [_, _]) (fun _ m => m) <| hqblock <| hthen <| hreg <| hy (fun _ => y_move rfl) <| hy (fun _ => y_add rfl rfl (w64 (by omega) (by omega))) <| hy (fun _ => y_assign rfl) <| hend <| hsub (ρ' := [(18, _), (214, _), (97, _), (11, _), (12, _), (32, _), (6, _), (8, _), (21, _), (7, _), (5, _), (4, _), (0, _), (1, _)]) ⟨rfl, rfl, rfl, rfl, rfl, rfl, rfl, rfl, rfl, rfl, rfl, rfl, rfl, rfl, trivial⟩ <| ?_
          refine hmemQ (fun w m => m.eqX 0 rfl (show _ = ROwn 120 1 (.slice A2 8 c2) 8 (wds (hsum v h (j + 1))) from by rw [wds_set, hsum_succ (by omega)])) ?_
          refine hnext1 (j + 1) ⟨rfl, rfl, rfl, rfl, rfl, rfl, rfl, rfl, rfl, rfl, rfl, rfl, rfl, trivial⟩ [0, 0, 0] rfl [0, 1] rfl (by omega) (by omega)
        · obtain rfl : j = 8 := by omega
          have hB : hsum v h 8 = blockL h l := by rw [blockL, hW, hvv]
          rw [hB]
          refine hexit <| hthen_exit <| hthen_exit <| hqblock_exit <| hthen <| hseq <| hreg <| hy (fun _ => y_move rfl) <| hy (fun _ => y_assign rfl) <| hend <| hsub (ρ' := [(4, _), (214, _), (18, _), (97, _), (11, _), (12, _), (32, _), (6, _), (8, _), (21, _), (7, _), (5, _), (0, _), (1, _)]) ⟨rfl, rfl, rfl, rfl, rfl, rfl, rfl, rfl, rfl, rfl, rfl, rfl, rfl, rfl, trivial⟩ <| hthen <| hret <| ?_
          exact hret1 trivial rfl rfl [0] rfl [] rfl ⟨_, rfl, rfl, rfl⟩
end Go.Proofs.YtfikjheicjamhaaDoor
end
section
/- Contracts: the document's digest of bytes (layer 2): Sum. -/
set_option linter.unusedVariables false
set_option linter.unusedSimpArgs false
set_option maxRecDepth 20000
namespace Go.Proofs.YtfikjheicjamhaaDoor
open Go.Eng Go.Hx
def q256 (n : Nat) : Nat → Nat
  | 0 => n
  | i + 1 => q256 n i / 256
theorem q256_pow (n : Nat) : ∀ i, q256 n i = n / 256 ^ i
  | 0 => by simp [q256]
  | i + 1 => by rw [q256, q256_pow n i, Nat.div_div_eq_div_mul, Nat.pow_succ]
/-- the last so many of eight bytes -/
def be8t (n i : Nat) : List UInt8 := List.replicate (8 - i) 0 ++ (be8 n).drop (8 - i)
theorem be8_len (n : Nat) : (be8 n).length = 8 := by simp [be8]
theorem be8t_len (n i : Nat) (h : i ≤ 8) : (be8t n i).length = 8 := by
  rw [be8t, List.length_append, List.length_replicate, List.length_drop, be8_len]; omega
theorem be8t_step {n i : Nat} (hi : i < 8) : (be8t n i).set (7 - i) (UInt8.ofNat (q256 n i % 256)) = be8t n (i + 1) := by
  have e : UInt8.ofNat (q256 n i % 256) = UInt8.ofNat (n / 256 ^ i) := by
    rw [q256_pow]; apply UInt8.toNat_inj.1; simp
  rw [e]
  obtain ⟨k, hk⟩ : ∃ k, 8 - i = k + 1 := ⟨7 - i, by omega⟩
  have h7 : 7 - i = k := by omega
  have hd : (be8 n).drop k = UInt8.ofNat (n / 256 ^ i) :: (be8 n).drop (k + 1) := by
    rw [List.drop_eq_getElem_cons (by rw [be8_len]; omega)]
    congr 1
    simp only [be8, List.getElem_map, List.getElem_range]
    congr 3; omega
  rw [be8t, be8t, hk, h7, show 8 - (i + 1) = k by omega, hd, List.replicate_succ', List.append_assoc, List.set_append_right _ _ (by simp)]
  simp
theorem rwholeC {A : Option Addr} {n c : Nat} {l : List UInt8} (hn : n ≤ 140737488351232) : Con Tryd.prog 84 [.slice A n c] [] [RRd 1 A n (b8s l)] (fun v_ X_ S_ => ∃ v, v_ = v ∧ X_ = [ROwn 5 1 v (padL l).length (b8s (padL l))] ∧ S_ = []) := by
  have hz64 : padZ n < 64 := Nat.mod_lt _ (by decide)
  have hzp : (n + (1 + padZ n)) % 64 = 56 := by unfold padZ; omega
  have hzm : ∀ j, j < padZ n → (n + (1 + j)) % 64 ≠ 56 := fun j hj => by unfold padZ at hj; omega
  refine henter (N := 39) Tryd.func84 rfl rfl (by simp) fun b => ?_
  refine hfactC (fun m => rdB (m.rd 0 rfl)) ?_
  rintro ⟨hl_r, hA_r⟩
  have hl : l.length = n := hl_r
  refine hseq <| hreg <| hy (fun _ => y_assign rfl) <| hend <| hthen <| hseq <| hreg <| hy (fun _ => y_assign rfl) <| hend <| hthen <| hseq <| hreg <| hy (fun _ => y_move rfl) <| hy (fun _ => y_move rfl) <| ?_
  refine hmemL (fun w m => m.addX (r' := ROwn 5 1 (.slice none 0 0) 0 []) (.refl _ _) (Own.nil _ _ _ _) (fun k hk => hk.elim)) ?_
  refine hx (xh_app 0 rfl rfl rfl Tryd.underlying32 Tryd.underlying32 (by exact .inl rfl) ti5 rfl (fun m => Src.of_rd (m.rd 0 rfl)) b8s_one (by unfold maxLen; omega) (by omega) (fun u => ?_))
  refine hfactL (fun m => (m.own 0 rfl).slice) ?_
  rintro ⟨A_o, c_o, rfl, hc_o⟩
  refine hfactL (fun m => (m.ord 0 rfl).2.1) fun hA_o => ?_
  rw [Nat.zero_add]
  refine hy (fun _ => y_assign rfl) <| hend <| hsub (ρ' := [(3, _), (2, _), (0, _)]) ⟨rfl, rfl, rfl, trivial⟩ <| hmemQ (X' := [_]) (S' := [_]) (fun _ m => m) <| hthen <| hseq <| hreg <| hy (fun _ => y_move rfl) <| ?_
  refine hx (xh_bsl Tryd.underlying32 ti5 rfl rfl rfl (by simp [Value.cells, B8]) (by decide) (by decide) (fun g11 => ?_))
  have hA_b11 : 0 < 1 → (some (⟨g11, 0, none⟩ : Addr)) ≠ none := fun _ h => by cases h
  refine hmemL (fun w m => m.eqX 0 rfl (show _ = ROwn 5 1 (.slice (some ⟨g11, 0, none⟩) 1 1) 1 (b8s [128]) from rfl)) ?_
  refine hx (xh_app 1 rfl rfl rfl Tryd.underlying32 Tryd.underlying32 (by exact .inl rfl) ti5 rfl (fun m => Src.of_rd (m.ord 0 rfl)) b8s_one (by unfold maxLen; omega) (by omega) (fun u2 => ?_))
  refine hfactL (fun m => (m.own 0 rfl).slice) ?_
  rintro ⟨A_o2, c_o2, rfl, hc_o⟩
  refine hfactL (fun m => (m.ord 0 rfl).2.1) fun hA_o => ?_
  refine hmemL (fun w m => m.eqX 0 rfl (show _ = ROwn 5 1 (.slice A_o2 (n + 1 + 0) c_o2) (n + 1 + 0) (b8s (l ++ 128 :: List.replicate 0 0)) from by simp [b8s])) ?_
  refine hy (fun _ => y_assign rfl) <| hend <| hsub (ρ' := [(3, _), (2, _), (0, _)]) ⟨rfl, rfl, rfl, trivial⟩ <| hmemQ (X' := [_, _]) (S' := [_]) (fun _ m => m) <| hthen <| hseq <| hblock <| ?_
  refine hloop3 (fun j A1 cc => padZ n - j) (fun j A1 cc => [(3, .slice A1 (n + 1 + j) cc)]) (fun j A1 cc => [ROwn 5 1 (.slice A1 (n + 1 + j) cc) (n + 1 + j) (b8s (l ++ 128 :: List.replicate j 0))]) (fun j A1 cc => []) (fun j A1 cc => j ≤ padZ n) 0 A_o2 c_o2 [(2, _), (0, _)] ⟨rfl, rfl, trivial⟩ [0] rfl [] rfl (Nat.zero_le _) ⟨rfl, trivial⟩ (fun j A1 cc hjz => ?_)
  refine hseq <| hseq <| hreg <| hy (fun _ => y_move rfl) <| hy (fun _ => y_lenS rfl Tryd.underlying32) <| hy (fun _ => y_rem rfl rfl (by omega) (by omega)) <| hy (fun _ => y_neq rfl rfl) <| hend <| hsub (ρ' := [(16, _), (3, _), (2, _), (0, _)]) ⟨rfl, rfl, rfl, rfl, trivial⟩ <| hthen <| ?_
  refine hif rfl (fun hne => ?_) (fun hne => ?_)
  · have hj : j < padZ n := by
      rcases Nat.lt_or_eq_of_le hjz with h | h
      · exact h
      · rw [← h] at hzp; omega
    refine hcskip <| hthen <| hblock <| hreg <| hy (fun _ => y_move rfl) <| ?_
    refine hx (xh_bsl Tryd.underlying32 ti5 rfl rfl rfl (by simp [Value.cells, B8]) (by decide) (by decide) (fun g18 => ?_))
    have hA_b18 : 0 < 1 → (some (⟨g18, 0, none⟩ : Addr)) ≠ none := fun _ h => by cases h
    refine hmemL (fun w m => m.eqX 0 rfl (show _ = ROwn 5 1 (.slice (some ⟨g18, 0, none⟩) 1 1) 1 (b8s [0]) from rfl)) ?_
    refine hx (xh_app 1 rfl rfl rfl Tryd.underlying32 Tryd.underlying32 (by exact .inl rfl) ti5 rfl (fun m => Src.of_rd (m.ord 0 rfl)) b8s_one (by unfold maxLen; omega) (by omega) (fun u3 => ?_))
    refine hfactL (fun m => (m.own 0 rfl).slice) ?_
    rintro ⟨A_o3, c_o3, rfl, hc_o⟩
    refine hfactL (fun m => (m.ord 0 rfl).2.1) fun hA_o => ?_
    refine hy (fun _ => y_assign rfl) <| hend <| hsub (ρ' := [(3, _), (16, _), (2, _), (0, _)]) ⟨rfl, rfl, rfl, rfl, trivial⟩ <| hmemQ (X' := [_, _, _]) (S' := [_]) (fun _ m => m) <| hqblock <| ?_
    refine hmemQ (fun w m => m.eqX 0 rfl (show _ = ROwn 5 1 (.slice A_o3 (n + 1 + (j + 1)) c_o3) (n + 1 + (j + 1)) (b8s (l ++ 128 :: List.replicate (j + 1) 0)) from by rw [List.replicate_succ']; simp [b8s, Nat.add_assoc])) ?_
    refine hnext3 (j + 1) A_o3 c_o3 ⟨rfl, rfl, rfl, trivial⟩ [0, 1] rfl [0] rfl (by omega) (by omega)
  · have hj : j = padZ n := by
      refine Decidable.byContradiction fun hn => ?_
      have := hzm j (by omega)
      omega
    subst hj
    refine hexit <| hthen_exit <| hthen_exit <| hqblock_exit <| hthen <| hseq <| hreg <| hy (fun _ => y_move rfl) <| hy (fun _ => y_lenS rfl Tryd.underlying32) <| hy (fun _ => yV (y_mul rfl rfl (w64 (by omega) (by omega))) ((show Value.int .i64 (8 * (n : Int)) = .int .i64 ((q256 (8 * n) 0 : Nat) : Int) by rw [q256]; congr 1))) <| hy (fun _ => y_assign rfl) <| hend <| hsub (ρ' := [(4, _), (16, _), (3, _), (2, _), (0, _)]) ⟨rfl, rfl, rfl, rfl, rfl, trivial⟩ <| hthen <| hseq <| hreg <| ?_
    refine hx (xh_mksl (n := 8) Tryd.underlying32 ti5 rfl rfl rfl (by decide) (by decide) (fun g23 => ?_))
    have hA_b23 : ∀ {n : Nat}, 0 < n → (some (⟨g23, 0, none⟩ : Addr)) ≠ none := fun _ h => by cases h
    refine hy (fun _ => y_assign rfl) <| hend <| hsub (ρ' := [(5, _), (4, _), (16, _), (3, _), (2, _), (0, _)]) ⟨rfl, rfl, rfl, rfl, rfl, rfl, trivial⟩ <| hmemQ (X' := [_, _, _]) (S' := [_]) (fun _ m => m) <| hthen <| hseq <| hseq <| hreg <| ?_
    refine hmemL (fun w m => m.eqX 0 rfl (show _ = RBlk g23 5 (b8s (be8t (8 * n) 0)) from by rw [be8t, List.drop_of_length_le (by rw [be8_len]; decide), List.append_nil]; rfl)) ?_
    refine hy (fun _ => y_assign rfl) <| hend <| hthen <| hblock <| ?_
    refine hloop1 (fun i => 8 - i) (fun i => [(4, .int .i64 ((q256 (8 * n) i : Nat) : Int)), (6, .int .i64 (7 - (i : Int)))]) (fun i => [RBlk g23 5 (b8s (be8t (8 * n) i))]) (fun i => []) (fun i => i ≤ 8) 0 [(5, _), (16, _), (3, _), (2, _), (0, _)] ⟨rfl, rfl, rfl, rfl, rfl, trivial⟩ [0] rfl [] rfl (Nat.zero_le _) ⟨rfl, rfl, trivial⟩ (fun i hi8 => ?_)
    have hq : q256 (8 * n) i ≤ 8 * n := by rw [q256_pow]; exact Nat.div_le_self ..
    have hbl := be8t_len (8 * n) i hi8
    refine hseq <| hseq <| hreg <| hy (fun _ => y_move rfl) <| hy (fun _ => y_geq rfl rfl) <| hend <| hsub (ρ' := [(25, _), (4, _), (6, _), (5, _), (16, _), (3, _), (2, _), (0, _)]) ⟨rfl, rfl, rfl, rfl, rfl, rfl, rfl, rfl, trivial⟩ <| hthen <| ?_
    refine hif rfl (fun hi => ?_) (fun hi => ?_)
    · refine hcskip <| hthen <| hseq <| hblock <| hseq <| hreg <| hy (fun _ => y_move rfl) <| hy (fun _ => y_move rfl) <| hy (fun _ => y_move rfl) <| hy (fun _ => y_rem rfl rfl (by omega) (by omega)) <| hy (fun _ => y_conv rfl Tryd.underlying3 Tryd.underlying5 (show IntKind.u8.wrap (((q256 (8 * n) i : Nat) : Int) % 256) = ((UInt8.ofNat (q256 (8 * n) i % 256)).toNat : Int) from u8mod (q256 (8 * n) i % 256))) <| hy (fun _ => y_idxS1 rfl rfl Tryd.underlying32 sz5 hA_b23 (show ((7 - i : Nat) : Int) = _ by omega) (by omega)) <| ?_
      refine hx0 (xh_st1a 0 rfl rfl rfl sz5 rfl (by rw [b8s_length, hbl]; omega) ?_)
      refine hend <| hsub (ρ' := [(25, _), (4, _), (6, _), (5, _), (16, _), (3, _), (2, _), (0, _)]) ⟨rfl, rfl, rfl, rfl, rfl, rfl, rfl, rfl, trivial⟩ <| hmemQ (X' := [_, _, _]) (S' := [_]) (fun _ m => m) <| hthen <| hreg <| hy (fun _ => y_move rfl) <| hy (fun _ => yV (y_quo rfl rfl (by omega) (by omega) (w64 (by omega) (by omega))) ((show Value.int .i64 (((q256 (8 * n) i : Nat) : Int) / 256) = .int .i64 ((q256 (8 * n) (i + 1) : Nat) : Int) from rfl))) <| hy (fun _ => y_assign rfl) <| hend <| hsub (ρ' := [(4, _), (25, _), (6, _), (5, _), (16, _), (3, _), (2, _), (0, _)]) ⟨rfl, rfl, rfl, rfl, rfl, rfl, rfl, rfl, trivial⟩ <| hqblock <| hthen <| hreg <| hy (fun _ => y_move rfl) <| hy (fun _ => yV (y_sub rfl rfl (w64 (by omega) (by omega))) ((show Value.int .i64 (7 - (i : Int) - 1) = .int .i64 (7 - ((i + 1 : Nat) : Int)) from congrArg (Value.int .i64) (by omega)))) <| hy (fun _ => y_assign rfl) <| hend <| hsub (ρ' := [(6, _), (4, _), (25, _), (5, _), (16, _), (3, _), (2, _), (0, _)]) ⟨rfl, rfl, rfl, rfl, rfl, rfl, rfl, rfl, trivial⟩ <| ?_
      refine hmemQ (fun w m => m.eqX 0 rfl (show _ = RBlk g23 5 (b8s (be8t (8 * n) (i + 1))) from by rw [Nat.zero_add, ← be8t_step (by omega), b8s_set]; rfl)) ?_
      refine hnext1 (i + 1) ⟨rfl, rfl, rfl, rfl, rfl, rfl, rfl, trivial⟩ [0, 0, 0] rfl [0] rfl (by omega) (by omega)
    · obtain rfl : i = 8 := by omega
      have hpl : (padL l).length = n + 1 + padZ n + 8 := by
        simp only [padL, List.length_append, List.length_cons, List.length_replicate, be8_len, hl]; omega
      refine hmemC (fun w m => m.eqX 0 rfl (show _ = RBlk g23 5 (b8s (be8 (8 * n))) from by simp [be8t])) ?_
      refine hexit <| hthen_exit <| hthen_exit <| hqblock_exit <| hthen <| hseq <| hreg <| hy (fun _ => y_move rfl) <| hy (fun _ => y_move rfl) <| ?_
      refine hx (xh_app 1 rfl rfl rfl Tryd.underlying32 Tryd.underlying32 (by exact .inl rfl) ti5 rfl (fun m => Src.of_rd (Rd.of_blk (m.blk 0 rfl) (by rw [b8s_length, be8_len]))) b8s_one (by unfold maxLen; omega) (by omega) (fun u3 => ?_))
      refine hfactL (fun m => (m.own 0 rfl).slice) ?_
      rintro ⟨A_o3, c_o3, rfl, hc_o⟩
      refine hfactL (fun m => (m.ord 0 rfl).2.1) fun hA_o => ?_
      refine hmemL (fun w m => m.eqX 0 rfl (show _ = ROwn 5 1 (.slice A_o3 (padL l).length c_o3) (padL l).length (b8s (padL l)) from by rw [hpl, padL, hl]; simp [b8s])) ?_
      refine hy (fun _ => y_assign rfl) <| hend <| hsub (ρ' := [(2, _), (25, _), (4, _), (6, _), (5, _), (16, _), (3, _), (0, _)]) ⟨rfl, rfl, rfl, rfl, rfl, rfl, rfl, rfl, trivial⟩ <| hmemQ (X' := [_, _, _]) (S' := [_]) (fun _ m => m) <| hthen <| hret <| ?_
      exact hret1 trivial rfl rfl [0] rfl [] rfl ⟨_, (by rw [hpl]), rfl, rfl⟩
theorem set_mid8 {p r : List UInt8} {k : Nat} {a x : UInt8} (hp : p.length = k) : (b8s (p ++ x :: r)).set k (B8 a) = b8s (p ++ [a] ++ r) := by
  subst hp
  simp [b8s, List.set_append]
def qw (x : UInt32) : Nat → UInt32
  | 0 => x
  | j + 1 => qw x j / 256
theorem qw_toNat (x : UInt32) : ∀ j, (qw x j).toNat = x.toNat / 256 ^ j
  | 0 => by simp [qw]
  | j + 1 => by
    rw [qw, UInt32.toNat_div, qw_toNat x j, Nat.pow_succ, ← Nat.div_div_eq_div_mul]; rfl
theorem qw_be4 (x : UInt32) {r : Nat} (hr : r < 4) : (be4 x)[r]? = some (UInt8.ofNat (qw x (3 - r) % 256).toNat) := by
  have h256 : (256 : UInt32).toNat = 256 := rfl
  have e : ∀ k, UInt8.ofNat ((qw x k % 256).toNat) = UInt8.ofNat (x.toNat / 256 ^ k) := fun k => by
    rw [UInt32.toNat_mod, qw_toNat, h256]
    apply UInt8.toNat_inj.1; simp
  rw [e]
  match r, hr with
  | 0, _ => simp [be4, UInt32.toNat_div]
  | 1, _ => simp [be4, UInt32.toNat_div]
  | 2, _ => simp [be4, UInt32.toNat_div]
  | 3, _ => simp [be4]
theorem digOf_get : ∀ (h : List UInt32) (q r : Nat), q < h.length → r < 4 → (digOf h)[4 * q + r]? = (be4 (h.getD q 0))[r]?
  | a :: t, 0, r, hq, hr => by
    rw [digOf, List.flatMap_cons, List.getElem?_append_left (by show 4 * 0 + r < 4; omega)]
    simp
  | a :: t, q + 1, r, hq, hr => by
    rw [digOf, List.flatMap_cons, List.getElem?_append_right (by show 4 ≤ _; omega), show 4 * (q + 1) + r - (be4 a).length = 4 * q + r by show 4 * (q + 1) + r - 4 = _; omega]
    have := digOf_get t q r (by simpa using hq) hr
    simpa [digOf] using this
theorem rshaSumC {A : Option Addr} {n c : Nat} {l : List UInt8} (hn : n ≤ 140737488351232) : Con Tryd.prog 29 [.slice A n c] [] [RRd 1 A n (b8s l)] (fun v_ X_ S_ => v_ = (.agg (b8s (shaL l)).toArray) ∧ X_ = [] ∧ S_ = []) := by
  refine henter (N := 49) Tryd.func29 rfl rfl (by simp) fun b => ?_
  refine hfactC (fun m => rdB (m.rd 0 rfl)) ?_
  rintro ⟨hl_r, hA_r⟩
  refine hseq <| hreg <| ?_
  refine hx (xh_alloc ti23 (fun g2 => ?_))
  refine hend <| hmemQ (X' := [_]) (S' := [_]) (fun _ m => m) <| hthen <| hseq <| hreg <| ?_
  refine hx (xh_bsl Tryd.underlying139 ti120 rfl rfl rfl (by decide) (by decide) (by decide) (fun g10 => ?_))
  have hA_b10 : 0 < 8 → (some (⟨g10, 0, none⟩ : Addr)) ≠ none := fun _ h => by cases h
  refine hmemL (fun w m => m.eqX 0 rfl (show _ = ROwn 120 1 (.slice (some ⟨g10, 0, none⟩) 8 8) 8 (wds (foldB h0L ((padL l).take (64 * 0)))) from by rw [Nat.mul_zero, List.take_zero]; rfl)) ?_
  refine hy (fun _ => y_assign rfl) <| hend <| hsub (ρ' := [(3, _), (2, _), (0, _)]) ⟨rfl, rfl, rfl, trivial⟩ <| hmemQ (X' := [_, _]) (S' := [_]) (fun _ m => m) <| hthen <| hseq <| hreg <| hy (fun _ => y_move rfl) <| ?_
  refine hx (xh_call rfl Tryd.call84 (rwholeC (by omega)) [] rfl [0] rfl ?_)
  rintro _ _ _ ⟨v, rfl, rfl, rfl⟩
  refine hfactL (fun m => (m.own 0 rfl).slice) ?_
  rintro ⟨A_x, c_x, rfl, hc_x⟩
  refine hfactL (fun m => (m.ord 0 rfl).2.1) fun hA_x => ?_
  refine hy (fun _ => y_assign rfl) <| hend <| hsub (ρ' := [(4, _), (3, _), (2, _), (0, _)]) ⟨rfl, rfl, rfl, rfl, trivial⟩ <| hmemQ (X' := [_, _, _]) (S' := [_]) (fun _ m => m) <| hthen <| hseq <| hseq <| hreg <| hy (fun _ => y_assign rfl) <| hend <| hthen <| hblock <| ?_
  have hpl := padL_length l
  have hpb : (padL l).length ≤ 140737488352000 := by
    have : l.length = n := hl_r
    have hz : padZ l.length < 64 := Nat.mod_lt _ (by decide)
    simp only [padL, List.length_append, List.length_cons, List.length_replicate, be8_len]; omega
  obtain ⟨K, hK⟩ : ∃ K, (padL l).length = 64 * K := ⟨(padL l).length / 64, by omega⟩
  generalize hP : padL l = P at hpl hpb hK hc_x hA_x ⊢
  refine hmemC (fun w m => (m.perm (takeR_perm [0] _ [_] _ rfl)).freeze) ?_
  refine hmemC (fun w m => m.asV 0 rfl .own) ?_
  refine hfactC (fun m => rdB (m.rd 0 rfl)) ?_
  rintro ⟨hl_xr, hA_xr⟩
  refine hloop3 (fun k H hc => K - k) (fun k H hc => [(3, .slice H 8 hc), (5, .int .i64 ((64 * k : Nat) : Int))]) (fun k H hc => [ROwn 120 1 (.slice H 8 hc) 8 (wds (foldB h0L (P.take (64 * k))))]) (fun k H hc => []) (fun k H hc => k ≤ K) 0 (some ⟨g10, 0, none⟩) 8 [(4, _), (2, _), (0, _)] ⟨rfl, rfl, rfl, trivial⟩ [0] rfl [] rfl (Nat.zero_le _) ⟨rfl, rfl, trivial⟩ (fun k H hc hkK => ?_)
  have hh := foldB_length (h := h0L) (P.take (64 * k)) rfl
  refine hseq <| hseq <| hreg <| hy (fun _ => y_move rfl) <| hy (fun _ => y_move rfl) <| hy (fun _ => y_lenS rfl Tryd.underlying32) <| hy (fun _ => y_lss rfl rfl) <| hend <| hsub (ρ' := [(16, _), (3, _), (5, _), (4, _), (2, _), (0, _)]) ⟨rfl, rfl, rfl, rfl, rfl, rfl, trivial⟩ <| hthen <| ?_
  refine hif rfl (fun hlt => ?_) (fun hlt => ?_)
  · have hk : k < K := by omega
    refine hmemC (fun w m => m.asV 0 rfl (View.sub (k := 64 * k) (m := 64) hc_x (by omega))) ?_
    refine hfactC (fun m => rdB (m.rd 0 rfl)) ?_
    rintro ⟨hl_r64, hA_r64⟩
    refine hcskip <| hthen <| hseq <| hblock <| hreg <| hy (fun _ => y_move rfl) <| hy (fun _ => y_move rfl) <| hy (fun _ => y_move rfl) <| hy (fun _ => y_move rfl) <| hy (fun _ => y_add rfl rfl (w64 (by omega) (by omega))) <| hy (fun _ => yV (y_slBoth rfl rfl rfl Tryd.underlying32 sz5 (show ((64 * k : Nat) : Int) = _ by omega) (show ((64 * k + 64 : Nat) : Int) = _ by omega) (by omega) (by omega)) ((show Value.slice (if c_x = 64 * k then A_x else A_x.map (·.add (64 * k * 1))) (64 * k + 64 - 64 * k) (c_x - 64 * k) = .slice (if c_x = 64 * k then A_x else A_x.map (·.add (64 * k * 1))) 64 (c_x - 64 * k) by rw [Nat.add_sub_cancel_left]))) <| ?_
    refine hx (xh_calll rfl Tryd.call85 (rblockC (by omega) hh (h := (foldB h0L (P.take (64 * k))))) [] rfl (.x 0 rfl .own (.s 0 rfl .nil)) ?_)
    rintro _ _ _ ⟨u, rfl, rfl, rfl⟩
    refine ⟨rfl, ?_⟩
    refine hfactL (fun m => (m.own 0 rfl).slice) ?_
    rintro ⟨A_y, c_y, rfl, hc_y⟩
    refine hfactL (fun m => (m.ord 0 rfl).2.1) fun hA_y => ?_
    refine hy (fun _ => y_assign rfl) <| hend <| hsub (ρ' := [(3, _), (16, _), (5, _), (4, _), (2, _), (0, _)]) ⟨rfl, rfl, rfl, rfl, rfl, rfl, trivial⟩ <| hmemQ (X' := [_, _, _]) (S' := [_, _, _, _]) (fun _ m => m) <| hqblock <| hthen <| hreg <| hy (fun _ => y_move rfl) <| hy (fun _ => yV (y_add rfl rfl (w64 (by omega) (by omega))) ((show Value.int .i64 (((64 * k : Nat) : Int) + 64) = .int .i64 ((64 * (k + 1) : Nat) : Int) from congrArg (Value.int .i64) (by omega)))) <| hy (fun _ => y_assign rfl) <| hend <| hsub (ρ' := [(5, _), (3, _), (16, _), (4, _), (2, _), (0, _)]) ⟨rfl, rfl, rfl, rfl, rfl, rfl, trivial⟩ <| ?_
    have hfs : blockL (foldB h0L (P.take (64 * k))) ((P.drop (64 * k)).take 64) = foldB h0L (P.take (64 * (k + 1))) := by
      rw [← foldB_snoc (by rw [List.length_take]; omega) (by rw [List.length_take, List.length_drop]; omega), ← List.take_add]
      rfl
    rw [hfs]
    refine hnext3 (k + 1) A_y c_y ⟨rfl, rfl, rfl, rfl, rfl, trivial⟩ [0, 1] rfl [1, 2, 3] rfl (by omega) (by omega)
  · obtain rfl : k = K := by omega
    have hfl : foldB h0L (P.take (64 * k)) = foldB h0L P := by rw [List.take_of_length_le (by omega)]
    rw [hfl] at hh ⊢
    have hsha : shaL l = digOf (foldB h0L P) := by rw [shaL, hP]
    have hdl := digOf_length hh
    generalize foldB h0L P = F at hh hsha hdl ⊢
    refine hfactC (fun m => (m.ord 0 rfl).2.1) fun hA_b10 => ?_
    refine hexit <| hthen_exit <| hthen_exit <| hqblock_exit <| hthen <| hseq <| hreg <| ?_
    refine hx (xh_alloc ti23 (fun g6 => ?_))
    refine hend <| hmemQ (X' := [_, _, _]) (S' := [_, _, _]) (fun _ m => m) <| hthen <| hseq <| hseq <| hreg <| hy (fun _ => y_assign rfl) <| hend <| hthen <| hblock <| ?_
    refine hmemC (fun w m => m.eqX 0 rfl (show _ = RBlk g6 23 (b8s ((digOf F).take 0 ++ List.replicate (32 - 0) 0)) from rfl)) ?_
    refine hloop1 (fun i => 32 - i) (fun i => [(7, .int .i64 (i : Nat))]) (fun i => [RBlk g6 23 (b8s ((digOf F).take i ++ List.replicate (32 - i) 0))]) (fun i => []) (fun i => i ≤ 32) 0 [(6, _), (16, _), (3, _), (5, _), (4, _), (2, _), (0, _)] ⟨rfl, rfl, rfl, rfl, rfl, rfl, rfl, trivial⟩ [0] rfl [] rfl (Nat.zero_le _) ⟨rfl, trivial⟩ (fun i hi32 => ?_)
    refine hseq <| hseq <| hreg <| hy (fun _ => y_move rfl) <| hy (fun _ => y_lss rfl rfl) <| hend <| hsub (ρ' := [(27, _), (7, _), (6, _), (16, _), (3, _), (5, _), (4, _), (2, _), (0, _)]) ⟨rfl, rfl, rfl, rfl, rfl, rfl, rfl, rfl, rfl, trivial⟩ <| hthen <| ?_
    refine hif rfl (fun hi => ?_) (fun hi => ?_)
    · refine hcskip <| hthen <| hseq <| hblock <| hseq <| hreg <| hy (fun _ => y_move rfl) <| hy (fun _ => y_move rfl) <| hy (fun _ => y_quo rfl rfl (by omega) (by omega) (w64 (by omega) (by omega))) <| hy (fun _ => y_idxS1 rfl rfl Tryd.underlying139 sz120 hA_b10 (show ((i / 4 : Nat) : Int) = _ by omega) (by omega)) <| hy (fun m => yV (y_ld1 rfl ag120 ((m.ord 1 rfl).cell (j := i / 4) (wds_get (by omega)))) ((rfl : _ = Wd (qw (F.getD (i / 4) 0) 0)))) <| hy (fun _ => y_assign rfl) <| hend <| hsub (ρ' := [(8, _), (27, _), (7, _), (6, _), (16, _), (3, _), (5, _), (4, _), (2, _), (0, _)]) ⟨rfl, rfl, rfl, rfl, rfl, rfl, rfl, rfl, rfl, rfl, trivial⟩ <| hthen <| hseq <| hseq <| hreg <| hy (fun _ => y_move rfl) <| hy (fun _ => yV (y_rem rfl rfl (by omega) (by omega)) ((show Value.int .i64 ((i : Int) % 4) = .int .i64 (((i % 4 + 0 : Nat)) : Int) from congrArg (Value.int .i64) (by omega)))) <| hy (fun _ => y_assign rfl) <| hend <| hsub (ρ' := [(9, _), (8, _), (27, _), (7, _), (6, _), (16, _), (3, _), (5, _), (4, _), (2, _), (0, _)]) ⟨rfl, rfl, rfl, rfl, rfl, rfl, rfl, rfl, rfl, rfl, rfl, trivial⟩ <| hthen <| hblock <| ?_
      refine hloop1 (fun j => 3 - j) (fun j => [(8, Wd (qw (F.getD (i / 4) 0) j)), (9, .int .i64 ((i % 4 + j : Nat) : Int))]) (fun j => []) (fun j => []) (fun j => i % 4 + j ≤ 3) 0 [(27, _), (7, _), (6, _), (16, _), (3, _), (5, _), (4, _), (2, _), (0, _)] ⟨rfl, rfl, rfl, rfl, rfl, rfl, rfl, rfl, rfl, trivial⟩ [] rfl [] rfl ((by omega)) ⟨rfl, rfl, trivial⟩ (fun j hj3 => ?_)
      refine hseq <| hseq <| hreg <| hy (fun _ => y_move rfl) <| hy (fun _ => y_lss rfl rfl) <| hend <| hsub (ρ' := [(38, _), (8, _), (9, _), (27, _), (7, _), (6, _), (16, _), (3, _), (5, _), (4, _), (2, _), (0, _)]) ⟨rfl, rfl, rfl, rfl, rfl, rfl, rfl, rfl, rfl, rfl, rfl, rfl, trivial⟩ <| hthen <| ?_
      refine hif rfl (fun hj => ?_) (fun hj => ?_)
      · refine hcskip <| hthen <| hseq <| hblock <| hreg <| hy (fun _ => y_move rfl) <| hy (fun _ => yV (y_wquo (b := 256) (by decide) rfl rfl) ((rfl : _ = Wd (qw (F.getD (i / 4) 0) (j + 1))))) <| hy (fun _ => y_assign rfl) <| hend <| hsub (ρ' := [(8, _), (38, _), (9, _), (27, _), (7, _), (6, _), (16, _), (3, _), (5, _), (4, _), (2, _), (0, _)]) ⟨rfl, rfl, rfl, rfl, rfl, rfl, rfl, rfl, rfl, rfl, rfl, rfl, trivial⟩ <| hqblock <| hthen <| hreg <| hy (fun _ => y_move rfl) <| hy (fun _ => yV (y_add rfl rfl (w64 (by omega) (by omega))) ((show Value.int .i64 (((i % 4 + j : Nat) : Int) + 1) = .int .i64 ((i % 4 + (j + 1) : Nat) : Int) from congrArg (Value.int .i64) (by omega)))) <| hy (fun _ => y_assign rfl) <| hend <| hsub (ρ' := [(9, _), (8, _), (38, _), (27, _), (7, _), (6, _), (16, _), (3, _), (5, _), (4, _), (2, _), (0, _)]) ⟨rfl, rfl, rfl, rfl, rfl, rfl, rfl, rfl, rfl, rfl, rfl, rfl, trivial⟩ <| ?_
        refine hnext1 (j + 1) ⟨rfl, rfl, rfl, rfl, rfl, rfl, rfl, rfl, rfl, rfl, rfl, trivial⟩ [0, 0, 0] rfl [0, 1, 2] rfl (by omega) (by omega)
      · have hj : j = 3 - i % 4 := by omega
        subst hj
        have hbyte : (digOf F)[i]? = some (UInt8.ofNat (qw (F.getD (i / 4) 0) (3 - i % 4) % 256).toNat) := by
          rw [← qw_be4 _ (by omega), ← digOf_get F (i / 4) (i % 4) (by omega) (by omega)]
          congr 1; omega
        have hri : List.replicate (32 - i) (0 : UInt8) = 0 :: List.replicate (32 - (i + 1)) 0 := by rw [show 32 - i = (32 - (i + 1)) + 1 by omega]; rfl
        have hti : (digOf F).take (i + 1) = (digOf F).take i ++ [UInt8.ofNat (qw (F.getD (i / 4) 0) (3 - i % 4) % 256).toNat] := by
          rw [List.take_add_one, hbyte]; rfl
        refine hexit <| hthen_exit <| hthen_exit <| hqblock_exit <| hthen <| hreg <| hy (fun _ => y_move rfl) <| hy (fun _ => y_move rfl) <| hy (fun _ => y_wrem (b := 256) (by decide) rfl rfl) <| hy (fun _ => y_8w rfl Tryd.underlying120 Tryd.underlying5) <| hy (fun _ => y_idxA1 rfl rfl Tryd.underlying23 sz5 rfl (by omega)) <| ?_
        refine hx0 (xh_st1a 0 rfl rfl rfl sz5 rfl (by rw [b8s_length, List.length_append, List.length_take, List.length_replicate]; omega) ?_)
        refine hend <| hsub (ρ' := [(38, _), (8, _), (9, _), (27, _), (7, _), (6, _), (16, _), (3, _), (5, _), (4, _), (2, _), (0, _)]) ⟨rfl, rfl, rfl, rfl, rfl, rfl, rfl, rfl, rfl, rfl, rfl, rfl, trivial⟩ <| hmemQ (X' := [_, _, _]) (S' := [_, _, _]) (fun _ m => m) <| hqblock <| hthen <| hreg <| hy (fun _ => y_move rfl) <| hy (fun _ => y_add rfl rfl (w64 (by omega) (by omega))) <| hy (fun _ => y_assign rfl) <| hend <| hsub (ρ' := [(7, _), (38, _), (8, _), (9, _), (27, _), (6, _), (16, _), (3, _), (5, _), (4, _), (2, _), (0, _)]) ⟨rfl, rfl, rfl, rfl, rfl, rfl, rfl, rfl, rfl, rfl, rfl, rfl, trivial⟩ <| ?_
        refine hmemQ (fun w m => m.eqX 0 rfl (show _ = RBlk g6 23 (b8s ((digOf F).take (i + 1) ++ List.replicate (32 - (i + 1)) 0)) from by rw [hri, Nat.zero_add, hti]; exact congrArg (RBlk _ _) (set_mid8 (by rw [List.length_take]; omega)))) ?_
        refine hnext1 (i + 1) ⟨rfl, rfl, rfl, rfl, rfl, rfl, rfl, rfl, trivial⟩ [0, 0, 0] rfl [0, 1, 2] rfl (by omega) (by omega)
    · obtain rfl : i = 32 := by omega
      refine hmemC (fun w m => m.eqX 0 rfl (show _ = RBlk g6 23 (b8s (shaL l)) from by rw [List.take_of_length_le (by omega), ← hsha]; simp)) ?_
      refine hexit <| hthen_exit <| hthen_exit <| hqblock_exit <| hthen <| hseq <| hreg <| hy (fun m => yV (y_ldN rfl ag23 sz23 (by rw [b8s_length, shaL_length]) ((m.blk 0 rfl).cells0)) ((rfl : _ = Value.agg (b8s (shaL l)).toArray))) <| ?_
      refine hx0 (xh_stA 2 rfl rfl rfl sz23 (by rw [b8s_length, shaL_length]) b8s_one rfl ?_)
      refine hend <| hsub (ρ' := [(27, _), (7, _), (6, _), (16, _), (3, _), (5, _), (4, _), (2, _), (0, _)]) ⟨rfl, rfl, rfl, rfl, rfl, rfl, rfl, rfl, rfl, trivial⟩ <| hmemQ (X' := [_, _, _]) (S' := [_, _, _]) (fun _ m => m) <| hthen <| hret <| ?_
      exact hretN trivial rfl rfl ag23 sz23 (by rw [b8s_length, shaL_length]) (fun m => (m.blk 0 rfl).cells0) [] rfl [] rfl ⟨rfl, rfl, rfl⟩
end Go.Proofs.YtfikjheicjamhaaDoor
end
section
/- How bytes stand: plain lists; and the entry of bytes.Compare over slices. No program. -/
set_option linter.unusedVariables false
set_option linter.unusedSimpArgs false
namespace Go.Hx
open Go.Eng
abbrev cb := Lib.compareBytes
end Go.Hx
end
section
/- Contracts of small functions on bytes and digests (as in my Hexa texts). -/
set_option linter.unusedVariables false
set_option linter.unusedSimpArgs false
set_option maxRecDepth 20000
namespace Go.Proofs.YtfikjheicjamhaaDoor
open Go.Eng Go.Hx
theorem few (A : Option Addr) (n c : Nat) (l : List UInt8) (m : Nat) (w : World) (hr : Rd w 1 A n (b8s l)) (hc : n ≤ c) (hn : n ≤ 140737488351232) :
    Calls Tryd.prog 21 #[.slice A n c, .int .i64 (m : Int)] w fun e w' => ∃ v, e = .returned v ∧ Go.Eng.Own w' w.heap.size 5 1 v (min n m) (b8s (l.take m)) ∧ Fr No w w' := by
  have hl : l.length = n := by have := hr.1; rw [b8s_length] at this; omega
  have hrd : Rd w 1 A (min n m) (b8s (l.take m)) := by
    have := hr.take (k := min n m) (by omega)
    have e : (b8s l).take (min n m * 1) = b8s (l.take m) := by
      rw [b8s, b8s, ← List.map_take, Nat.mul_one]
      congr 1
      by_cases h : m ≤ n
      · congr 1; omega
      · rw [List.take_of_length_le (by omega), List.take_of_length_le (by omega)]
    rw [e] at this
    exact this
  refine enter (N := 14) Tryd.func21 rfl rfl (by simp) ?_
  refine cseq <| creg <| nq (y_assign rfl) <| nend <| qthen <| cseq <| creg <| nq (y_assign rfl) <| nend <| qthen <| cseq <| creg <| nq (y_move rfl) <| nq (y_move rfl) <| nq (y_move rfl) <| nq (y_lenS rfl Tryd.underlying32) <| nq (y_move rfl) <| nq (y_min rfl rfl) <| nq (y_slTo rfl rfl Tryd.underlying32 sz5 (show ((min n m : Nat) : Int) = _ by omega) ((by omega))) <| ?_
  refine nx (x_app rfl rfl Tryd.underlying32 Tryd.underlying32 (by exact .inl rfl) ti5 rfl (Own.nil w w.heap.size _ 1) (Src.of_rd hrd) b8s_one (by unfold maxLen; omega) (by omega) (by omega) fun v w1 ho hf hv => ?_)
  refine nq (y_assign rfl) <| nend <| qsub (sub_cons (t := 4) rfl <| sub_cons (t := 5) rfl <| sub_cons (t := 0) rfl <| sub_cons (t := 1) rfl <| sub_nil) <| qthen <| cret <| ?_
  refine ret1 trivial rfl rfl ⟨v, rfl, ?_, hf.mono (fun _ _ e => e.elim)⟩
  simpa using ho
def around (n m : Int) : Int := (if n < 0 then -(n + 1) else n) % m
theorem around_lt (n m : Int) (hm : 0 < m) : 0 ≤ around n m ∧ around n m < m := ⟨Int.emod_nonneg _ (by omega), Int.emod_lt_of_pos _ hm⟩
theorem around_c (n m : Int) (w : World) (h1 : -9223372036854775808 ≤ n) (h2 : n ≤ 9223372036854775807) (hm : 0 < m) :
    Calls Tryd.prog 14 #[.int .i64 n, .int .i64 m] w fun e w' => e = .returned (.int .i64 (around n m)) ∧ w = w' := by
  refine enter (N := 13) Tryd.func14 rfl rfl (by simp) ?_
  refine cseq <| creg <| nq (y_assign rfl) <| nend <| qthen <| cseq <| cseq <| creg <| nq (y_move rfl) <| nq (y_lss rfl rfl) <| nend <| qsub (sub_cons (t := 6) rfl <| sub_cons (t := 4) rfl <| sub_cons (t := 0) rfl <| sub_cons (t := 1) rfl <| sub_nil) <| qthen <| ?_
  refine cif rfl (fun h => ?_) (fun h => ?_)
  · refine creg <| nq (y_move rfl) <| nq (y_add rfl rfl (w64 (by omega) (by omega))) <| nq (y_neg rfl (w64 (by omega) (by omega))) <| nq (y_assign rfl) <| nend <| qsub (sub_cons (t := 0) rfl <| sub_cons (t := 6) rfl <| sub_cons (t := 4) rfl <| sub_cons (t := 1) rfl <| sub_nil) <| qthen <| cseq <| creg <| nq (y_move rfl) <| nq (y_move rfl) <| nq (y_rem rfl rfl (by omega) (by omega)) <| nq (y_assign rfl) <| nend <| qsub (sub_cons (t := 4) rfl <| sub_cons (t := 0) rfl <| sub_cons (t := 6) rfl <| sub_cons (t := 1) rfl <| sub_nil) <| qthen <| cret <| ?_
    refine ret1 trivial rfl rfl ⟨?_, rfl⟩
    simp only [around, if_pos h]
  · refine cskip <| qthen <| cseq <| creg <| nq (y_move rfl) <| nq (y_move rfl) <| nq (y_rem rfl rfl (by omega) (by omega)) <| nq (y_assign rfl) <| nend <| qsub (sub_cons (t := 4) rfl <| sub_cons (t := 6) rfl <| sub_cons (t := 0) rfl <| sub_cons (t := 1) rfl <| sub_nil) <| qthen <| cret <| ?_
    refine ret1 trivial rfl rfl ⟨?_, rfl⟩
    simp only [around, if_neg h]
theorem short_c (s : List UInt8) (m : Nat) (w : World) : Calls Tryd.prog 92 #[.string (strOf s), .int .i64 (m : Int)] w fun e w' => e = .returned (.string (strOf (s.take m))) ∧ w = w' := by
  refine enter (N := 13) Tryd.func92 rfl rfl (by simp) ?_
  refine cseq <| creg <| nq (y_assign rfl) <| nend <| qthen <| cseq <| cseq <| creg <| nq (y_move rfl) <| nq (y_lenStr rfl Tryd.underlying9) <| nq (y_move rfl) <| nq (y_gtr rfl rfl) <| nend <| qsub (sub_cons (t := 8) rfl <| sub_cons (t := 4) rfl <| sub_cons (t := 0) rfl <| sub_cons (t := 1) rfl <| sub_nil) <| qthen <| ?_
  refine cif rfl (fun h => ?_) (fun h => ?_)
  · rw [strOf_size] at h
    refine cseq <| creg <| nq (y_move rfl) <| nq (y_move rfl) <| nq (y_strTo rfl rfl Tryd.underlying9 rfl ((by rw [bytesOf_strOf]; omega))) <| nq (y_assign rfl) <| nend <| qsub (sub_cons (t := 4) rfl <| sub_cons (t := 8) rfl <| sub_cons (t := 0) rfl <| sub_cons (t := 1) rfl <| sub_nil) <| qthen <| cret <| qthen_ret <| ?_
    exact ret1 trivial rfl rfl ⟨rfl, rfl⟩
  · rw [strOf_size] at h
    refine cskip <| qthen <| cseq <| creg <| nq (y_move rfl) <| nq (y_assign rfl) <| nend <| qsub (sub_cons (t := 4) rfl <| sub_cons (t := 8) rfl <| sub_cons (t := 0) rfl <| sub_cons (t := 1) rfl <| sub_nil) <| qthen <| cret <| ?_
    refine ret1 trivial rfl rfl ⟨?_, rfl⟩
    rw [List.take_of_length_le (by omega)]
theorem take_drop_set {a b : List UInt8} {j n : Nat} (ha : a.length = n) (hb : b.length = n) (hj : j < n) : (a.take j ++ b.drop j).set j (a.getD j 0) = a.take (j + 1) ++ b.drop (j + 1) := by
  rw [List.set_append, if_neg (by rw [List.length_take]; omega), List.length_take, Nat.min_eq_left (by omega), Nat.sub_self, take_snoc (by omega), List.append_assoc]
  congr 1
  rw [List.drop_eq_getElem_cons (by omega)]
  rfl
theorem zeros_eq : (Value.agg (b8s (List.replicate 32 0)).toArray).cells.toList = b8s (List.replicate 32 0) := rfl
theorem of (A : Option Addr) (c : Nat) (l : List UInt8) (w : World) (hr : Rd w 1 A 32 (b8s l)) :
    Calls Tryd.prog 72 #[.slice A 32 c] w fun e w' => e = .returned (.agg (b8s l).toArray) ∧ Fr No w w' := by
  have hl : l.length = 32 := by have := hr.1; rw [b8s_length] at this; omega
  refine enter (N := 16) Tryd.func72 rfl rfl (by simp) ?_
  refine cseq <| creg <| ?_
  refine nx (x_alloc ti23 fun g1 w1 hg1 hf1 hb1 => ?_)
  refine nend <| qthen <| cseq <| creg <| ?_
  refine nx (x_alloc ti23 fun g2 w2 hg2 hf2 hb2 => ?_)
  rw [zeros_eq] at hb1 hb2
  have hlt := hb1.lt
  refine nend <| qthen <| cseq <| cseq <| creg <| nq (y_assign rfl) <| nend <| qthen <| cblock <| ?_
  refine cloop1 (fun j => 32 - j) (fun j => [(0, .slice A 32 c), (2, .pointer (some ⟨g1, 0, none⟩)), (3, .pointer (some ⟨g2, 0, none⟩)), (4, .int .i64 (j : Nat))]) (fun j w' => j ≤ 32 ∧ Fr No w w' ∧ Blk w' g1 23 (b8s (List.replicate 32 0)) ∧ Blk w' g2 23 (b8s (l.take j ++ (List.replicate 32 0).drop j))) 0 (⟨Nat.zero_le _, hf1.trans0 hf2, hb1.fr0 hf2, hb2⟩) (sub_cons (t := 0) rfl <| sub_cons (t := 2) rfl <| sub_cons (t := 3) rfl <| sub_cons (t := 4) rfl <| sub_nil) (fun j w4 ⟨hj, hf4, i1, i2⟩ => ?_)
  refine cseq <| cseq <| creg <| nq (y_move rfl) <| nq (y_lss rfl rfl) <| nend <| qsub (sub_cons (t := 6) rfl <| sub_cons (t := 0) rfl <| sub_cons (t := 2) rfl <| sub_cons (t := 3) rfl <| sub_cons (t := 4) rfl <| sub_nil) <| qthen <| ?_
  refine cif rfl (fun h => ?_) (fun h => ?_)
  · have ga := b8s_get (l := l) (i := j) (by omega)
    have hlen : (l.take j ++ (List.replicate 32 (0 : UInt8)).drop j).length = 32 := by rw [List.length_append, List.length_take, List.length_drop, List.length_replicate]; omega
    have r4 := hr.fr0 hf4
    refine cskip <| qthen <| cseq <| cblock <| creg <| nq (y_move rfl) <| nq (y_move rfl) <| nq (y_move rfl) <| nq (y_idxS1 rfl rfl Tryd.underlying32 sz5 r4.2.1 rfl (by omega)) <| nq (y_ld1 rfl ag5 (r4.cell ga)) <| nq (y_idxA1 rfl rfl Tryd.underlying23 sz5 rfl (by omega)) <| ?_
    refine nx0 (x_st1a rfl rfl sz5 rfl i2 (by rw [b8s_length]; omega) fun w5 hf5 i2' hs5 => ?_)
    rw [Nat.zero_add, ← b8s_set, take_drop_set hl (List.length_replicate ..) (by omega)] at i2'
    refine nend <| qsub (sub_cons (t := 6) rfl <| sub_cons (t := 0) rfl <| sub_cons (t := 2) rfl <| sub_cons (t := 3) rfl <| sub_cons (t := 4) rfl <| sub_nil) <| qblock <| qthen <| creg <| nq (y_move rfl) <| nq (y_add rfl rfl (w64 (by omega) (by omega))) <| nq (y_assign rfl) <| nend <| qsub (sub_cons (t := 4) rfl <| sub_cons (t := 6) rfl <| sub_cons (t := 0) rfl <| sub_cons (t := 2) rfl <| sub_cons (t := 3) rfl <| sub_nil) <| ?_
    refine qloop1 (j + 1) (sub_cons (t := 0) rfl <| sub_cons (t := 2) rfl <| sub_cons (t := 3) rfl <| sub_cons (t := 4) rfl <| sub_nil) (⟨by omega, hf4.new hf5 (fun i hi => by have := hf1.size; omega), i1.fr hf5 (by omega), i2'⟩) (by omega)
  · obtain rfl : j = 32 := by omega
    have e : l.take 32 ++ (List.replicate 32 (0 : UInt8)).drop 32 = l := by
      rw [List.take_of_length_le (by omega), List.drop_of_length_le (by simp)]; simp
    rw [e] at i2
    refine cexit <| qthen_exit <| qthen_exit <| qblock_exit <| qthen <| cseq <| creg <| nq (y_ldN rfl ag23 sz23 ((by rw [b8s_length]; exact hl)) i2.cells0) <| ?_
    refine nx0 (x_stD rfl rfl sz23 hl i1 (by rw [b8s_length]; simp) fun w5 hf5 i1' hs5 => ?_)
    refine nend <| qsub (sub_cons (t := 6) rfl <| sub_cons (t := 0) rfl <| sub_cons (t := 2) rfl <| sub_cons (t := 3) rfl <| sub_cons (t := 4) rfl <| sub_nil) <| qthen <| cret <| ?_
    exact retN trivial rfl rfl ag23 sz23 (by rw [b8s_length]; exact hl) i1'.cells0 ⟨rfl, hf4.new hf5 (fun i hi => by omega)⟩
theorem bytes (a : List UInt8) (w : World) (ha : a.length = 32) :
    Calls Tryd.prog 105 #[.agg (b8s a).toArray] w fun e w' => ∃ v, e = .returned v ∧ Go.Eng.Own w' w.heap.size 5 1 v 32 (b8s a) ∧ Fr No w w' := by
  refine enter (N := 16) Tryd.func105 rfl rfl (by simp) ?_
  refine cseq <| creg <| ?_
  refine nx (x_box rfl fun g1 w1 hg1 hf1 hb1 => ?_)
  rw [cells_agg] at hb1
  refine nq (y_assign rfl) <| nend <| qthen <| cseq <| creg <| nq (y_assign rfl) <| nend <| qthen <| cseq <| cseq <| creg <| nq (y_assign rfl) <| nend <| qthen <| cblock <| ?_
  refine cloop2 (fun k _ => 32 - k) (fun k v => [(1, .pointer (some ⟨g1, 0, none⟩)), (3, v), (4, .int .i64 (k : Nat))]) (fun k v w' => k ≤ 32 ∧ Go.Eng.Own w' w1.heap.size 5 1 v k (b8s (a.take k)) ∧ Fr No w1 w') 0 (.slice none 0 0) (⟨Nat.zero_le _, Own.nil w1 w1.heap.size _ 1, Fr.refl _ _⟩) (sub_cons (t := 1) rfl <| sub_cons (t := 3) rfl <| sub_cons (t := 4) rfl <| sub_nil) (fun k v w2 ⟨hk, ho, hf⟩ => ?_)
  refine cseq <| cseq <| creg <| nq (y_move rfl) <| nq (y_lss rfl rfl) <| nend <| qsub (sub_cons (t := 6) rfl <| sub_cons (t := 1) rfl <| sub_cons (t := 3) rfl <| sub_cons (t := 4) rfl <| sub_nil) <| qthen <| ?_
  refine cif rfl (fun h => ?_) (fun h => ?_)
  · have ga := b8s_get (l := a) (i := k) (by omega)
    refine cskip <| qthen <| cseq <| cblock <| creg <| nq (y_move rfl) <| nq (y_move rfl) <| nq (y_idxA1 rfl rfl Tryd.underlying23 sz5 rfl (by omega)) <| nq (y_ld1 rfl ag5 ((hb1.fr0 hf).cells0 _ _ ga)) <| ?_
    refine nx (x_bsl Tryd.underlying32 ti5 rfl rfl rfl (by simp [Value.cells, B8]) (by decide) (by decide) fun g w3 hg hf3 hb3 => ?_)
    refine nx (x_app rfl rfl Tryd.underlying32 Tryd.underlying32 (by exact .inl rfl) ti5 rfl (ho.fr0 hf3) (Src.of_blk hb3 rfl) (b8s_one (l := [_])) (by unfold maxLen; omega) (by omega) (hf.trans0 hf3).size fun v4 w4 ho4 hf4 hv4 => ?_)
    refine nq (y_assign rfl) <| nend <| qsub (sub_cons (t := 3) rfl <| sub_cons (t := 6) rfl <| sub_cons (t := 1) rfl <| sub_cons (t := 4) rfl <| sub_nil) <| qblock <| qthen <| creg <| nq (y_move rfl) <| nq (y_add rfl rfl (w64 (by omega) (by omega))) <| nq (y_assign rfl) <| nend <| qsub (sub_cons (t := 4) rfl <| sub_cons (t := 3) rfl <| sub_cons (t := 6) rfl <| sub_cons (t := 1) rfl <| sub_nil) <| ?_
    refine qloop2 (k + 1) v4 (sub_cons (t := 1) rfl <| sub_cons (t := 3) rfl <| sub_cons (t := 4) rfl <| sub_nil) (⟨by omega, by rw [take_snoc (by omega), b8s_append]; exact ho4, (hf.trans0 hf3).new hf4 (fun i hi => (ho.from hi).1)⟩) (by omega)
  · obtain rfl : k = 32 := by omega
    refine cexit <| qthen_exit <| qthen_exit <| qblock_exit <| qthen <| cseq <| creg <| nq (y_move rfl) <| nq (y_assign rfl) <| nend <| qsub (sub_cons (t := 2) rfl <| sub_cons (t := 6) rfl <| sub_cons (t := 1) rfl <| sub_cons (t := 3) rfl <| sub_cons (t := 4) rfl <| sub_nil) <| qthen <| cret <| ?_
    rw [List.take_of_length_le (by omega)] at ho
    exact ret1 trivial rfl rfl ⟨v, rfl, ho.wide hf1.size, hf1.trans0 hf⟩
end Go.Proofs.YtfikjheicjamhaaDoor
end
section
/- Lists of digests in a row: plain lists. No program. -/
set_option linter.unusedVariables false
set_option linter.unusedSimpArgs false
namespace Go.Hx
open Go.Eng
/-- each ahead of the next -/
def Rise : List (List UInt8) → Prop
  | [] => True
  | [_] => True
  | a :: b :: r => cb a b < 0 ∧ Rise (b :: r)
instance : (l : List (List UInt8)) → Decidable (Rise l)
  | [] => isTrue trivial
  | [_] => isTrue trivial
  | a :: b :: r => @instDecidableAnd (cb a b < 0) (Rise (b :: r)) inferInstance (instDecidableRise (b :: r))
end Go.Hx
end
section
/- Contracts: what journals may be, their bytes. -/
set_option linter.unusedVariables false
set_option linter.unusedSimpArgs false
set_option maxRecDepth 20000
namespace Go.Proofs.YtfikjheicjamhaaDoor
open Go.Eng Go.Hx
/-- which journals may be -/
def JMay (ds : List (List UInt8)) : Prop := Rise ds ∧ ds.length ≤ 4096
instance (ds : List (List UInt8)) : Decidable (JMay ds) := inferInstanceAs (Decidable (_ ∧ _))
end Go.Proofs.YtfikjheicjamhaaDoor
end
section
/- Contracts: a journal's bytes. -/
set_option linter.unusedVariables false
set_option linter.unusedSimpArgs false
set_option maxRecDepth 20000
namespace Go.Proofs.YtfikjheicjamhaaDoor
open Go.Eng Go.Hx
theorem number (n : Nat) (w : World) (hn : n < 4294967296) :
    Calls Tryd.prog 63 #[.int .i64 (n : Int)] w fun e w' => ∃ v, e = .returned v ∧ Go.Eng.Own w' w.heap.size 5 1 v 4 (b8s (le4 n)) ∧ Fr No w w' := by
  refine enter (N := 21) Tryd.func63 rfl rfl (by simp) ?_
  refine cseq <| creg <| nq (y_assign rfl) <| nend <| qthen <| cseq <| creg <| nq (y_move rfl) <| nq (y_conv rfl Tryd.underlying3 Tryd.underlying120 ((w32 (by omega) (by omega)))) <| nq (y_assign rfl) <| nend <| qsub (sub_cons (t := 3) rfl <| sub_cons (t := 2) rfl <| sub_cons (t := 0) rfl <| sub_nil) <| qthen <| cseq <| creg <| nq (y_move rfl) <| nq (y_rem rfl rfl (by omega) (by omega)) <| nq (y_conv rfl Tryd.underlying120 Tryd.underlying5 ((show IntKind.u8.wrap ((n : Int) % 256) = ((UInt8.ofNat n).toNat : Int) by simp [IntKind.wrap, IntKind.signed, IntKind.bits]))) <| nq (y_move rfl) <| nq (y_quo rfl rfl (by omega) (by omega) (w32 (by omega) (by omega))) <| nq (y_rem rfl rfl (by omega) (by omega)) <| nq (y_conv rfl Tryd.underlying120 Tryd.underlying5 ((show IntKind.u8.wrap ((n : Int) / 256 % 256) = ((UInt8.ofNat (n / 256)).toNat : Int) by simp [IntKind.wrap, IntKind.signed, IntKind.bits]))) <| nq (y_move rfl) <| nq (y_quo rfl rfl (by omega) (by omega) (w32 (by omega) (by omega))) <| nq (y_rem rfl rfl (by omega) (by omega)) <| nq (y_conv rfl Tryd.underlying120 Tryd.underlying5 ((show IntKind.u8.wrap ((n : Int) / 65536 % 256) = ((UInt8.ofNat (n / 65536)).toNat : Int) by simp [IntKind.wrap, IntKind.signed, IntKind.bits]))) <| nq (y_move rfl) <| nq (y_quo rfl rfl (by omega) (by omega) (w32 (by omega) (by omega))) <| nq (y_conv rfl Tryd.underlying120 Tryd.underlying5 ((show IntKind.u8.wrap ((n : Int) / 16777216) = ((UInt8.ofNat (n / 16777216)).toNat : Int) by simp [IntKind.wrap, IntKind.signed, IntKind.bits]))) <| ?_
  refine nx (x_bsl Tryd.underlying32 ti5 rfl rfl rfl (by simp [Value.cells, B8]) (by decide) (by decide) fun g w1 hg hf1 hb1 => ?_)
  refine nq (y_assign rfl) <| nend <| qsub (sub_cons (t := 2) rfl <| sub_cons (t := 3) rfl <| sub_cons (t := 0) rfl <| sub_nil) <| qthen <| cret <| ?_
  exact ret1 trivial rfl rfl ⟨_, rfl, Own.made hb1 hg (Nat.le_refl _) (by decide) rfl, hf1⟩
end Go.Proofs.YtfikjheicjamhaaDoor
end
section
/- Contracts over things in memory, from contracts over worlds: the reference's small functions. -/
set_option linter.unusedVariables false
set_option linter.unusedSimpArgs false
set_option maxRecDepth 20000
namespace Go.Proofs.YtfikjheicjamhaaDoor
open Go.Eng Go.Hx
theorem fewC {A : Option Addr} {n c : Nat} {l : List UInt8} {m : Nat} (hc : n ≤ c) (hn : n ≤ 140737488351232) : Con Tryd.prog 21 [.slice A n c, .int .i64 (m : Int)] [] [RRd 1 A n (b8s l)] (fun v_ X_ S_ => ∃ v, v_ = v ∧ X_ = [ROwn 5 1 v (min n m) (b8s (l.take m))] ∧ S_ = []) := by
  exact con_own1 fun mm => Calls.mono (few A n c l m _ (mm.rd 0 rfl) hc hn) (fun e w' ⟨v, h, ho, hf⟩ => ⟨v, v, _, _, _, _, h, ⟨v, rfl, rfl, rfl⟩, ho, hf⟩)
theorem aroundC {n m : Int} (h1 : -9223372036854775808 ≤ n) (h2 : n ≤ 9223372036854775807) (hm : 0 < m) : Con Tryd.prog 14 [.int .i64 n, .int .i64 m] [] [] (fun v_ X_ S_ => v_ = (.int .i64 (around n m)) ∧ X_ = [] ∧ S_ = []) := by
  exact con_pure fun mm => Calls.mono (around_c n m _ h1 h2 hm) (fun e w' ⟨h, hw⟩ => ⟨_, h, ⟨rfl, rfl, rfl⟩, hw ▸ Fr.refl _ _⟩)
theorem rcrcPutC {A : Option Addr} {n c : Nat} {l : List UInt8} (hn : n ≤ 70368744177664) : Con Tryd.prog 22 [.slice A n c] [] [RRd 1 A n (b8s l)] (fun v_ X_ S_ => ∃ v, v_ = v ∧ X_ = [ROwn 5 1 v (n + 4) (b8s (putL l))] ∧ S_ = []) := by
  exact con_own1 fun m => Calls.mono (rcrcPut A n c l _ (m.rd 0 rfl) hn) (fun e w' ⟨v, h, ho, hf⟩ => ⟨v, v, _, _, _, _, h, ⟨v, rfl, rfl, rfl⟩, ho, hf⟩)
theorem ofC {A : Option Addr} {n c : Nat} {l : List UInt8} (hn : n = 32) : Con Tryd.prog 72 [.slice A n c] [] [RRd 1 A n (b8s l)] (fun v_ X_ S_ => v_ = (.agg (b8s l).toArray) ∧ X_ = [] ∧ S_ = []) := by
  subst hn
  exact con_pure fun m => Calls.mono (of A c l _ (m.rd 0 rfl)) (fun e w' ⟨h, hf⟩ => ⟨_, h, ⟨rfl, rfl, rfl⟩, hf⟩)
theorem bytesC {a : List UInt8} (ha : a.length = 32) : Con Tryd.prog 105 [.agg (b8s a).toArray] [] [] (fun v_ X_ S_ => ∃ v, v_ = v ∧ X_ = [ROwn 5 1 v 32 (b8s a)] ∧ S_ = []) := by
  exact con_own1 fun m => Calls.mono (bytes a _ ha) (fun e w' ⟨v, h, ho, hf⟩ => ⟨v, v, _, _, _, _, h, ⟨v, rfl, rfl, rfl⟩, ho, hf⟩)
theorem shortC {s : List UInt8} {m : Nat} : Con Tryd.prog 92 [.string (strOf s), .int .i64 (m : Int)] [] [] (fun v_ X_ S_ => v_ = (.string (strOf (s.take m))) ∧ X_ = [] ∧ S_ = []) := by
  exact con_pure fun mm => Calls.mono (short_c s m _) (fun e w' ⟨h, hw⟩ => ⟨_, h, ⟨rfl, rfl, rfl⟩, hw ▸ Fr.refl _ _⟩)
theorem numberC {n : Nat} (hn : n < 4294967296) : Con Tryd.prog 63 [.int .i64 (n : Int)] [] [] (fun v_ X_ S_ => ∃ v, v_ = v ∧ X_ = [ROwn 5 1 v 4 (b8s (le4 n))] ∧ S_ = []) := by
  exact con_own1 fun m => Calls.mono (number n _ hn) (fun e w' ⟨v, h, ho, hf⟩ => ⟨v, v, _, _, _, _, h, ⟨v, rfl, rfl, rfl⟩, ho, hf⟩)
end Go.Proofs.YtfikjheicjamhaaDoor
end
section
/- A journal's bytes, read: plain lists. No program. -/
set_option linter.unusedVariables false
set_option linter.unusedSimpArgs false
namespace Go.Hx
open Go.Eng
def chunks (k : Nat) (l : List UInt8) : List (List UInt8) := (List.range k).map fun i => (l.drop (32 * i)).take 32
/-- the number of four bytes, the lowest one first -/
def num4 (l : List UInt8) : Nat := (l.getD 0 0).toNat + 256 * (l.getD 1 0).toNat + 65536 * (l.getD 2 0).toNat + 16777216 * (l.getD 3 0).toNat
theorem num4_lt (l : List UInt8) : num4 l < 4294967296 := by
  have h0 := (l.getD 0 0).toNat_lt
  have h1 := (l.getD 1 0).toNat_lt
  have h2 := (l.getD 2 0).toNat_lt
  have h3 := (l.getD 3 0).toNat_lt
  unfold num4
  omega
theorem num4_le4 {n : Nat} (h : n < 4294967296) : num4 (le4 n) = n := by
  simp only [le4, num4, List.getD_cons_zero, List.getD_cons_succ, UInt8.toNat_ofNat']
  omega
end Go.Hx
end
section
/- The number of four bytes, read from the highest one down. No program. -/
set_option linter.unusedVariables false
namespace Go.Hx
open Go.Eng
/-- what is read of j bytes, the highest one first -/
def acc (l : List UInt8) : Nat → Nat
  | 0 => 0
  | j + 1 => acc l j * 256 + (l.getD (3 - j) 0).toNat
theorem acc_lt (l : List UInt8) : ∀ j, acc l j < 256 ^ j
  | 0 => by simp [acc]
  | j + 1 => by
    have h1 := acc_lt l j
    have h2 := (l.getD (3 - j) 0).toNat_lt
    rw [acc, Nat.pow_succ]
    omega
theorem acc_le (l : List UInt8) {j : Nat} (h : j ≤ 4) : acc l j < 4294967296 := by
  have h1 := acc_lt l j
  have h2 : 256 ^ j ≤ 256 ^ 4 := Nat.pow_le_pow_right (by decide) h
  have h3 : 256 ^ 4 = 4294967296 := by decide
  omega
theorem acc4 (l : List UInt8) : acc l 4 = num4 l := by
  have e : (3 - 0 = 3) ∧ (3 - 1 = 2) ∧ (3 - 2 = 1) ∧ (3 - 3 = 0) := by decide
  simp only [acc, num4, e.1, e.2.1, e.2.2.1, e.2.2.2]
  omega
theorem or_byte (a b : Nat) (ha : a < 4294967296) (hb : b < 256) : bits .or .i64 (a * 256 : Int) (b : Int) = ((a * 256 + b : Nat) : Int) := by
  have h1 : (a * 256 : Int) = ((a * 256 : Nat) : Int) := by simp
  have h2 : a * 256 ||| b = a * 256 + b := by rw [Nat.mul_comm a 256, show 256 = 2 ^ 8 from rfl, Nat.two_pow_add_eq_or_of_lt (by simpa using hb)]
  have e0 : ∀ n : Nat, n < 18446744073709551616 → (BitVec.ofInt 64 (n : Int)).toNat = n := fun n hn => by
    rw [BitVec.toNat_ofInt]
    simp
    omega
  rw [h1]
  show IntKind.i64.wrap ((BitVec.ofInt 64 ((a * 256 : Nat) : Int) ||| BitVec.ofInt 64 (b : Int)).toNat : Int) = _
  rw [BitVec.toNat_or, e0 _ (by omega), e0 _ (by omega), h2]
  exact w64 (by omega) (by omega)
end Go.Hx
end
section
/- Contracts: what is said (wire, and the document's). -/
set_option linter.unusedVariables false
set_option linter.unusedSimpArgs false
set_option maxRecDepth 20000
namespace Go.Proofs.YtfikjheicjamhaaDoor
open Go.Eng Go.Hx
@[reducible] def mc (k s : Int) (nm : List UInt8) (v : Value) : List Value := .int .i64 k :: .int .i64 s :: (b8s nm ++ [v])
/-- a message's cells -/
theorem mc_len {k s : Int} {nm : List UInt8} {v : Value} (h : nm.length = 32) : (mc k s nm v).length = 35 := by simp [b8s_length, h]
theorem mc_one {k s : Int} {nm : List UInt8} {v : Value} (hv : v.oneCell' = true) : ∀ u ∈ mc k s nm v, u.oneCell' = true := by
  intro u hu
  rcases List.mem_cons.1 hu with rfl | hu
  · rfl
  · rcases List.mem_cons.1 hu with rfl | hu
    · rfl
    · exact j_one hv u hu
theorem mc_get {k s : Int} {nm : List UInt8} {v : Value} (h : nm.length = 32) : (mc k s nm v)[34]? = some v := by
  show (b8s nm ++ [v])[32]? = _
  rw [List.getElem?_append_right (by rw [b8s_length, h]; exact Nat.le_refl _), b8s_length, h]; rfl
theorem mc_set {k s : Int} {nm : List UInt8} {u v : Value} (h : nm.length = 32) : (mc k s nm u).set 34 v = mc k s nm v := by
  show _ :: _ :: (b8s nm ++ [u]).set 32 v = _
  rw [j_set h]
theorem mc_nm {w : World} {g : Nat} {t : TypeId} {k s : Int} {nm : List UInt8} {v : Value} (h : Blk w g t (mc k s nm v)) : ∀ (j : Nat) (u : Value), (b8s nm)[j]? = some u → w.cell? (((⟨g, 0, none⟩ : Addr).add 2).add j) = some u :=
  h.part 2 (fun j u hu => by rw [Nat.add_comm]; show (b8s nm ++ [v])[j]? = _; rw [List.getElem?_append_left (List.getElem?_eq_some_iff.1 hu).1]; exact hu)
theorem mc_v {w : World} {g : Nat} {t : TypeId} {k s : Int} {nm : List UInt8} {v : Value} (h : Blk w g t (mc k s nm v)) (hn : nm.length = 32) : w.cell? ((⟨g, 0, none⟩ : Addr).add 34) = some v := h.cell_add (mc_get hn)
theorem splice_nm {k s : Int} {zi nm : List UInt8} {z : Value} (hz : zi.length = 32) (hn : nm.length = 32) : splice (mc k s zi z) 2 (b8s nm) = mc k s nm z := by
  simp only [splice, List.take_succ_cons, List.take_zero, List.cons_append, List.nil_append, b8s_length, hn, mc]
  congr 2
  show b8s nm ++ (b8s zi ++ [z]).drop 32 = _
  rw [List.drop_append, List.drop_of_length_le (by rw [b8s_length, hz]; omega), b8s_length, hz]
  rfl
theorem bldM {P : Program} {pl : Nat → Option (Nat × Nat)} {zi nm : List UInt8} {z : Value} {k0 k s : Int} (h0 : pl 0 = some (0, 1)) (h2 : pl 2 = some (2, 32)) (hz : zi.length = 32) (hn : nm.length = 32) : Bld P pl (mc k0 s zi z) [(0, .int .i64 k), (2, .agg (b8s nm).toArray)] (mc k s nm z) :=
  .cons h0 rfl rfl (by rw [mc_len hz]; decide) (.cons h2 (cells_agg _) (by rw [b8s_length, hn]) (show 34 ≤ (mc k s zi z).length by rw [mc_len hz]; decide) (by show Bld P pl (splice (mc k s zi z) 2 (b8s nm)) _ _; rw [splice_nm hz hn]; exact .nil))
theorem bldM3 {P : Program} {pl : Nat → Option (Nat × Nat)} {zi nm : List UInt8} {z : Value} {k0 s0 k s : Int} (h0 : pl 0 = some (0, 1)) (h1 : pl 1 = some (1, 1)) (h2 : pl 2 = some (2, 32)) (hz : zi.length = 32) (hn : nm.length = 32) : Bld P pl (mc k0 s0 zi z) [(0, .int .i64 k), (1, .int .i64 s), (2, .agg (b8s nm).toArray)] (mc k s nm z) :=
  .cons h0 rfl rfl (by rw [mc_len hz]; decide) (.cons h1 rfl rfl (show 2 ≤ (mc k s0 zi z).length by rw [mc_len hz]; decide) (.cons h2 (cells_agg _) (by rw [b8s_length, hn]) (show 34 ≤ (mc k s zi z).length by rw [mc_len hz]; decide) (by show Bld P pl (splice (mc k s zi z) 2 (b8s nm)) _ _; rw [splice_nm hz hn]; exact .nil)))
/-- which messages may be -/
def WMay (k s : Int) (n : Nat) : Prop := (1 ≤ k ∧ k ≤ 3 ∧ 0 ≤ s ∧ s ≤ 4294967295) ∧ (n = 0 ∨ (k = 2 ∧ n ≤ 4106))
instance (k s : Int) (n : Nat) : Decidable (WMay k s n) := by unfold WMay; infer_instance
theorem mayC {k s : Int} {nm : List UInt8} {A : Option Addr} {n c : Nat} (hm : nm.length = 32) : Con Tryd.prog 109 [.agg (mc k s nm (.slice A n c)).toArray] [] [] (fun v_ X_ S_ => v_ = (.bool (decide (WMay k s n))) ∧ X_ = [] ∧ S_ = []) := by
  refine henter (N := 36) Tryd.func109 rfl rfl (by simp) fun b => ?_
  refine hseq <| hreg <| ?_
  refine hx (xh_box rfl (fun g1 => ?_))
  refine hmemL (fun w m => m.eqX 0 rfl (show _ = RBlk g1 111 (mc k s nm (.slice A n c)) from congrArg (RBlk _ _) (cells_agg _))) ?_
  by_cases h1 : k < 1
  · refine hy (fun _ => y_assign rfl) <| hend <| hmemQ (X' := [_]) (S' := []) (fun _ m => m) <| hthen <| hseq <| hseq <| hreg <| hy (fun _ => y_fld rfl fa111_0 (by decide)) <| hy (fun m => y_ld1 rfl ag3 (ld_blk (m.blk 0 rfl) rfl)) <| hy (fun _ => yT (y_lss rfl rfl) ((decide_eq_true h1))) <| hy (fun _ => y_move rfl) <| hskip rfl rfl rfl (by decide) <| hskip rfl rfl rfl (by decide) <| hskip rfl rfl rfl (by decide) <| hy (fun _ => y_pickT rfl rfl) <| hy (fun _ => y_move rfl) <| hskip rfl rfl rfl (by decide) <| hskip rfl rfl rfl (by decide) <| hskip rfl rfl rfl (by decide) <| hy (fun _ => y_pickT rfl rfl) <| hy (fun _ => y_move rfl) <| hskip rfl rfl rfl (by decide) <| hskip rfl rfl rfl (by decide) <| hskip rfl rfl rfl (by decide) <| hy (fun _ => y_pickT rfl rfl) <| hend <| hsub (ρ' := [(20, _), (2, _), (1, _), (0, _)]) ⟨rfl, rfl, rfl, rfl, trivial⟩ <| hthen <| ?_
    refine hift rfl (rfl) ?_
    refine hseq <| hreg <| hy (fun _ => y_assign rfl) <| hend <| hthen <| hret <| hthen_ret <| ?_
    exact hret1 trivial rfl rfl [] rfl [] rfl ⟨(congrArg Value.bool (decide_eq_false (fun h => by unfold WMay at h; omega)).symm), rfl, rfl⟩
  · by_cases h2 : 3 < k
    · refine hy (fun _ => y_assign rfl) <| hend <| hthen <| hseq <| hseq <| hreg <| hy (fun _ => y_fld rfl fa111_0 (by decide)) <| hy (fun m => y_ld1 rfl ag3 (ld_blk (m.blk 0 rfl) rfl)) <| hy (fun _ => yF (y_lss rfl rfl) ((decide_eq_false h1))) <| hy (fun _ => y_move rfl) <| hyg (o := _) rfl rfl rfl (fun _ => y_fld rfl fa111_0 (by decide)) <| hyg (o := _) rfl rfl rfl (fun m => y_ld1 rfl ag3 (ld_blk (m.blk 0 rfl) rfl)) <| hyg (o := _) rfl rfl rfl (fun _ => yT (y_gtr rfl rfl) ((decide_eq_true h2))) <| hy (fun _ => y_pickF rfl rfl) <| hy (fun _ => y_move rfl) <| hskip rfl rfl rfl (by decide) <| hskip rfl rfl rfl (by decide) <| hskip rfl rfl rfl (by decide) <| hy (fun _ => y_pickT rfl rfl) <| hy (fun _ => y_move rfl) <| hskip rfl rfl rfl (by decide) <| hskip rfl rfl rfl (by decide) <| hskip rfl rfl rfl (by decide) <| hy (fun _ => y_pickT rfl rfl) <| hend <| hsub (ρ' := [(20, _), (2, _), (1, _), (0, _)]) ⟨rfl, rfl, rfl, rfl, trivial⟩ <| hthen <| ?_
      refine hift rfl (rfl) ?_
      refine hseq <| hreg <| hy (fun _ => y_assign rfl) <| hend <| hthen <| hret <| hthen_ret <| ?_
      exact hret1 trivial rfl rfl [] rfl [] rfl ⟨(congrArg Value.bool (decide_eq_false (fun h => by unfold WMay at h; omega)).symm), rfl, rfl⟩
    · by_cases h3 : s < 0
      · refine hy (fun _ => y_assign rfl) <| hend <| hthen <| hseq <| hseq <| hreg <| hy (fun _ => y_fld rfl fa111_0 (by decide)) <| hy (fun m => y_ld1 rfl ag3 (ld_blk (m.blk 0 rfl) rfl)) <| hy (fun _ => yF (y_lss rfl rfl) ((decide_eq_false h1))) <| hy (fun _ => y_move rfl) <| hyg (o := _) rfl rfl rfl (fun _ => y_fld rfl fa111_0 (by decide)) <| hyg (o := _) rfl rfl rfl (fun m => y_ld1 rfl ag3 (ld_blk (m.blk 0 rfl) rfl)) <| hyg (o := _) rfl rfl rfl (fun _ => yF (y_gtr rfl rfl) ((decide_eq_false h2))) <| hy (fun _ => y_pickF rfl rfl) <| hy (fun _ => y_move rfl) <| hyg (o := _) rfl rfl rfl (fun _ => y_fld rfl fa111_1 (by decide)) <| hyg (o := _) rfl rfl rfl (fun m => y_ld1 rfl ag3 (ld_blk (m.blk 0 rfl) rfl)) <| hyg (o := _) rfl rfl rfl (fun _ => yT (y_lss rfl rfl) ((decide_eq_true h3))) <| hy (fun _ => y_pickF rfl rfl) <| hy (fun _ => y_move rfl) <| hskip rfl rfl rfl (by decide) <| hskip rfl rfl rfl (by decide) <| hskip rfl rfl rfl (by decide) <| hy (fun _ => y_pickT rfl rfl) <| hend <| hsub (ρ' := [(20, _), (2, _), (1, _), (0, _)]) ⟨rfl, rfl, rfl, rfl, trivial⟩ <| hthen <| ?_
        refine hift rfl (rfl) ?_
        refine hseq <| hreg <| hy (fun _ => y_assign rfl) <| hend <| hthen <| hret <| hthen_ret <| ?_
        exact hret1 trivial rfl rfl [] rfl [] rfl ⟨(congrArg Value.bool (decide_eq_false (fun h => by unfold WMay at h; omega)).symm), rfl, rfl⟩
      · by_cases h4 : 4294967295 < s
        · refine hy (fun _ => y_assign rfl) <| hend <| hthen <| hseq <| hseq <| hreg <| hy (fun _ => y_fld rfl fa111_0 (by decide)) <| hy (fun m => y_ld1 rfl ag3 (ld_blk (m.blk 0 rfl) rfl)) <| hy (fun _ => yF (y_lss rfl rfl) ((decide_eq_false h1))) <| hy (fun _ => y_move rfl) <| hyg (o := _) rfl rfl rfl (fun _ => y_fld rfl fa111_0 (by decide)) <| hyg (o := _) rfl rfl rfl (fun m => y_ld1 rfl ag3 (ld_blk (m.blk 0 rfl) rfl)) <| hyg (o := _) rfl rfl rfl (fun _ => yF (y_gtr rfl rfl) ((decide_eq_false h2))) <| hy (fun _ => y_pickF rfl rfl) <| hy (fun _ => y_move rfl) <| hyg (o := _) rfl rfl rfl (fun _ => y_fld rfl fa111_1 (by decide)) <| hyg (o := _) rfl rfl rfl (fun m => y_ld1 rfl ag3 (ld_blk (m.blk 0 rfl) rfl)) <| hyg (o := _) rfl rfl rfl (fun _ => yF (y_lss rfl rfl) ((decide_eq_false h3))) <| hy (fun _ => y_pickF rfl rfl) <| hy (fun _ => y_move rfl) <| hyg (o := _) rfl rfl rfl (fun _ => y_fld rfl fa111_1 (by decide)) <| hyg (o := _) rfl rfl rfl (fun m => y_ld1 rfl ag3 (ld_blk (m.blk 0 rfl) rfl)) <| hyg (o := _) rfl rfl rfl (fun _ => yT (y_gtr rfl rfl) ((decide_eq_true h4))) <| hy (fun _ => y_pickF rfl rfl) <| hend <| hsub (ρ' := [(20, _), (2, _), (1, _), (0, _)]) ⟨rfl, rfl, rfl, rfl, trivial⟩ <| hthen <| ?_
          refine hift rfl (rfl) ?_
          refine hseq <| hreg <| hy (fun _ => y_assign rfl) <| hend <| hthen <| hret <| hthen_ret <| ?_
          exact hret1 trivial rfl rfl [] rfl [] rfl ⟨(congrArg Value.bool (decide_eq_false (fun h => by unfold WMay at h; omega)).symm), rfl, rfl⟩
        · refine hy (fun _ => y_assign rfl) <| hend <| hthen <| hseq <| hseq <| hreg <| hy (fun _ => y_fld rfl fa111_0 (by decide)) <| hy (fun m => y_ld1 rfl ag3 (ld_blk (m.blk 0 rfl) rfl)) <| hy (fun _ => yF (y_lss rfl rfl) ((decide_eq_false h1))) <| hy (fun _ => y_move rfl) <| hyg (o := _) rfl rfl rfl (fun _ => y_fld rfl fa111_0 (by decide)) <| hyg (o := _) rfl rfl rfl (fun m => y_ld1 rfl ag3 (ld_blk (m.blk 0 rfl) rfl)) <| hyg (o := _) rfl rfl rfl (fun _ => yF (y_gtr rfl rfl) ((decide_eq_false h2))) <| hy (fun _ => y_pickF rfl rfl) <| hy (fun _ => y_move rfl) <| hyg (o := _) rfl rfl rfl (fun _ => y_fld rfl fa111_1 (by decide)) <| hyg (o := _) rfl rfl rfl (fun m => y_ld1 rfl ag3 (ld_blk (m.blk 0 rfl) rfl)) <| hyg (o := _) rfl rfl rfl (fun _ => yF (y_lss rfl rfl) ((decide_eq_false h3))) <| hy (fun _ => y_pickF rfl rfl) <| hy (fun _ => y_move rfl) <| hyg (o := _) rfl rfl rfl (fun _ => y_fld rfl fa111_1 (by decide)) <| hyg (o := _) rfl rfl rfl (fun m => y_ld1 rfl ag3 (ld_blk (m.blk 0 rfl) rfl)) <| hyg (o := _) rfl rfl rfl (fun _ => yF (y_gtr rfl rfl) ((decide_eq_false h4))) <| hy (fun _ => y_pickF rfl rfl) <| hend <| hsub (ρ' := [(20, _), (2, _), (1, _), (0, _)]) ⟨rfl, rfl, rfl, rfl, trivial⟩ <| hthen <| ?_
          refine hiff rfl (rfl) ?_
          by_cases h5 : n = 0
          · refine hcskip <| hthen <| hseq <| hreg <| hy (fun _ => y_fld rfl fa111_3 (by decide)) <| hy (fun m => y_ld1 rfl ag32 (mc_v (m.blk 0 rfl) hm)) <| hy (fun _ => y_lenS rfl Tryd.underlying32) <| hy (fun _ => yT (y_eql rfl rfl) ((decide_eq_true (by omega)))) <| hy (fun _ => y_move rfl) <| hskip rfl rfl rfl (by decide) <| hskip rfl rfl rfl (by decide) <| hskip rfl rfl rfl (by decide) <| hskip rfl rfl rfl (by decide) <| hskipU rfl rfl rfl <| hskipU rfl rfl rfl <| hskipU rfl rfl rfl <| hskipU rfl rfl rfl <| hskip rfl rfl rfl (by decide) <| hy (fun _ => y_pickT rfl rfl) <| hy (fun _ => y_assign rfl) <| hend <| hsub (ρ' := [(2, _), (20, _), (1, _), (0, _)]) ⟨rfl, rfl, rfl, rfl, trivial⟩ <| hthen <| hret <| ?_
            exact hret1 trivial rfl rfl [] rfl [] rfl ⟨(congrArg Value.bool (decide_eq_true ⟨by omega, .inl h5⟩).symm), rfl, rfl⟩
          · by_cases h6 : k = 2
            · refine hcskip <| hthen <| hseq <| hreg <| hy (fun _ => y_fld rfl fa111_3 (by decide)) <| hy (fun m => y_ld1 rfl ag32 (mc_v (m.blk 0 rfl) hm)) <| hy (fun _ => y_lenS rfl Tryd.underlying32) <| hy (fun _ => yF (y_eql rfl rfl) ((decide_eq_false (by omega)))) <| hy (fun _ => y_move rfl) <| hyg (o := _) rfl rfl rfl (fun _ => y_fld rfl fa111_0 (by decide)) <| hyg (o := _) rfl rfl rfl (fun m => y_ld1 rfl ag3 (ld_blk (m.blk 0 rfl) rfl)) <| hyg (o := _) rfl rfl rfl (fun _ => yT (y_eql rfl rfl) ((decide_eq_true h6))) <| hyg (o := _) rfl rfl rfl (fun _ => y_move rfl) <| hyg (o := _) rfl rfl rfl (fun _ => y_fld rfl fa111_3 (by decide)) <| hyg (o := _) rfl rfl rfl (fun m => y_ld1 rfl ag32 (mc_v (m.blk 0 rfl) hm)) <| hyg (o := _) rfl rfl rfl (fun _ => y_lenS rfl Tryd.underlying32) <| hyg (o := _) rfl rfl rfl (fun _ => y_leq rfl rfl) <| hyg (o := _) rfl rfl rfl (fun _ => y_pickT rfl rfl) <| hy (fun _ => y_pickF rfl rfl) <| hy (fun _ => y_assign rfl) <| hend <| hsub (ρ' := [(2, _), (20, _), (1, _), (0, _)]) ⟨rfl, rfl, rfl, rfl, trivial⟩ <| hthen <| hret <| ?_
              exact hret1 trivial rfl rfl [] rfl [] rfl ⟨(congrArg Value.bool (decide_eq_decide.2 ⟨fun h => ⟨by omega, .inr ⟨h6, by omega⟩⟩, fun h => by unfold WMay at h; omega⟩)), rfl, rfl⟩
            · refine hcskip <| hthen <| hseq <| hreg <| hy (fun _ => y_fld rfl fa111_3 (by decide)) <| hy (fun m => y_ld1 rfl ag32 (mc_v (m.blk 0 rfl) hm)) <| hy (fun _ => y_lenS rfl Tryd.underlying32) <| hy (fun _ => yF (y_eql rfl rfl) ((decide_eq_false (by omega)))) <| hy (fun _ => y_move rfl) <| hyg (o := _) rfl rfl rfl (fun _ => y_fld rfl fa111_0 (by decide)) <| hyg (o := _) rfl rfl rfl (fun m => y_ld1 rfl ag3 (ld_blk (m.blk 0 rfl) rfl)) <| hyg (o := _) rfl rfl rfl (fun _ => yF (y_eql rfl rfl) ((decide_eq_false h6))) <| hyg (o := _) rfl rfl rfl (fun _ => y_move rfl) <| hskip rfl rfl rfl (by decide) <| hskip rfl rfl rfl (by decide) <| hskip rfl rfl rfl (by decide) <| hskip rfl rfl rfl (by decide) <| hyg (o := _) rfl rfl rfl (fun _ => y_pickF rfl rfl) <| hy (fun _ => y_pickF rfl rfl) <| hy (fun _ => y_assign rfl) <| hend <| hsub (ρ' := [(2, _), (20, _), (1, _), (0, _)]) ⟨rfl, rfl, rfl, rfl, trivial⟩ <| hthen <| hret <| ?_
              exact hret1 trivial rfl rfl [] rfl [] rfl ⟨(congrArg Value.bool (decide_eq_false (fun h => by unfold WMay at h; omega)).symm), rfl, rfl⟩
theorem Rd.part {w : World} {a : Addr} {n k m : Nat} {B : List UInt8} (h : Rd w 1 (some a) n (b8s B)) : ∀ (j : Nat) (u : Value), (b8s ((B.drop k).take m))[j]? = some u → w.cell? ((a.add k).add j) = some u := by
  intro j u hu
  rw [add_add]
  refine h.cell ?_
  unfold b8s at hu ⊢
  rw [List.getElem?_map, List.getElem?_take] at hu
  rw [List.getElem?_map]
  split at hu
  · rw [List.getElem?_drop] at hu; exact hu
  · simp at hu
/-- what is read of bytes -/
def wkd (B : List UInt8) : Int := ((B.getD 0 0).toNat : Nat)
def ws (B : List UInt8) : Nat := num4 ((B.drop 1).take 4)
def OkW (B : List UInt8) : Prop := 37 ≤ B.length ∧ WMay (wkd B) (ws B) (B.length - 37)
def zm : List UInt8 := List.replicate 32 0
def ReadW (l : List UInt8) (k s : Int) (nm body : List UInt8) (err : Int) : Prop :=
  (takeE l ≠ 0 ∧ k = 0 ∧ s = 0 ∧ nm = zm ∧ body = [] ∧ err = takeE l) ∨
  (takeE l = 0 ∧ OkW (takeB l) ∧ k = wkd (takeB l) ∧ s = ws (takeB l) ∧ nm = ((takeB l).drop 5).take 32 ∧ body = (takeB l).drop 37 ∧ err = 0) ∨
  (takeE l = 0 ∧ ¬ OkW (takeB l) ∧ k = 0 ∧ s = 0 ∧ nm = zm ∧ body = [] ∧ err = 2)
theorem wreadC {A : Option Addr} {n c : Nat} {l : List UInt8} (hc : n ≤ c) (hn : n ≤ 1000000) : Con Tryd.prog 58 [.slice A n c] [] [RRd 1 A n (b8s l)] (fun v_ X_ S_ => ∃ k s nm body v err bn, v_ = (.tuple #[.agg (mc k s nm v).toArray, .int .i64 err]) ∧ X_ = [ROwn 5 1 v bn (b8s body)] ∧ S_ = [] ∧ (nm.length = 32 ∧ body.length = bn ∧ ReadW l k s nm body err)) := by
  have z32 : zm.length = 32 := by simp [zm]
  refine henter (N := 53) Tryd.func58 rfl rfl (by simp) fun b => ?_
  refine hfactC (fun m => rdB (m.rd 0 rfl)) ?_
  rintro ⟨hl_r, hA_r⟩
  refine hseq <| hreg <| ?_
  refine hx (xh_alloc ti111 (fun g2 => ?_))
  refine hy (fun _ => y_assign rfl) <| hend <| hmemQ (X' := [_]) (S' := [_]) (fun _ m => m) <| hthen <| hseq <| hreg <| hy (fun _ => y_move rfl) <| ?_
  refine hx (xh_call rfl Tryd.call67 (crcTakeC (by omega) (by omega)) [] rfl [0] rfl ?_)
  rintro _ _ _ ⟨v, rfl, rfl, rfl⟩
  refine hfactL (fun m => (m.own 0 rfl).slice) ?_
  rintro ⟨A_x, c_x, rfl, hc_x⟩
  refine hfactL (fun m => (m.ord 0 rfl).2.1) fun hA_x => ?_
  refine hy (fun _ => y_move rfl) <| hy (fun _ => y_extract rfl rfl) <| hy (fun _ => y_extract rfl rfl) <| hy (fun _ => y_assign rfl) <| hy (fun _ => y_assign rfl) <| hend <| hsub (ρ' := [(5, _), (4, _), (3, _), (2, _), (0, _)]) ⟨rfl, rfl, rfl, rfl, rfl, trivial⟩ <| hmemQ (X' := [_, _]) (S' := [_]) (fun _ m => m) <| hthen <| hseq <| hseq <| hreg <| hy (fun _ => y_move rfl) <| hy (fun _ => y_neq rfl rfl) <| hend <| hsub (ρ' := [(14, _), (5, _), (4, _), (3, _), (2, _), (0, _)]) ⟨rfl, rfl, rfl, rfl, rfl, rfl, trivial⟩ <| hthen <| ?_
  refine hif rfl (fun h => ?_) (fun h => ?_)
  · refine hseq <| hreg <| hy (fun _ => y_build0 ti111 rfl (by kernel_rfl)) <| hy (fun _ => y_move rfl) <| ?_
    refine hx0 (xh_stA 1 rfl rfl rfl sz111 (mc_len z32) (mc_one (v := .slice none 0 0) rfl) rfl ?_)
    refine hy (fun _ => y_assign rfl) <| hend <| hsub (ρ' := [(3, _), (14, _), (5, _), (4, _), (2, _), (0, _)]) ⟨rfl, rfl, rfl, rfl, rfl, rfl, trivial⟩ <| hmemQ (X' := [_, _]) (S' := [_]) (fun _ m => m) <| hthen <| hret <| hthen_ret <| ?_
    refine hmemQ (fun w m => m.addX (r' := ROwn 5 1 (.slice none 0 0) 0 []) (.refl _ _) (Own.nil _ _ _ _) (fun k hk => hk.elim)) ?_
    exact hretN1 trivial rfl rfl rfl ag111 sz111 (mc_len z32) (fun m => (m.blk 1 rfl).cells0) [0] rfl [] rfl ⟨_, _, _, [], _, _, _, rfl, rfl, rfl, ⟨z32, rfl, .inl ⟨h, rfl, rfl, rfl, rfl, rfl⟩⟩⟩
  · have h0 := Decidable.not_not.1 h
    have hn4 : 4 ≤ n := by
      rcases Nat.lt_or_ge l.length 4 with hlt | hge
      · rw [(takeE_2 hlt).1] at h0; omega
      · omega
    have hB : takeB l = l.take (l.length - 4) := by rw [takeB, if_pos h0]
    have hbl := takeB_len h0
    generalize hBB : takeB l = B at hB hbl hc_x hA_x ⊢
    have hbad : ¬ OkW B → ReadW l 0 0 zm [] 2 := fun hb => .inr (.inr ⟨h0, by rw [hBB]; exact hb, rfl, rfl, rfl, rfl, rfl⟩)
    have hok : OkW B → ReadW l (wkd B) (ws B) ((B.drop 5).take 32) (B.drop 37) 0 := fun hb => .inr (.inl ⟨h0, by rw [hBB]; exact hb, by rw [hBB], by rw [hBB], by rw [hBB], by rw [hBB], rfl⟩)
    refine hcskip <| hthen <| hseq <| hseq <| hreg <| hy (fun _ => y_move rfl) <| hy (fun _ => y_lenS rfl Tryd.underlying32) <| hy (fun _ => y_lss rfl rfl) <| hend <| hsub (ρ' := [(19, _), (14, _), (5, _), (4, _), (3, _), (2, _), (0, _)]) ⟨rfl, rfl, rfl, rfl, rfl, rfl, rfl, trivial⟩ <| hthen <| ?_
    refine hif rfl (fun h5 => ?_) (fun h5 => ?_)
    · refine hseq <| hreg <| hy (fun _ => y_build0 ti111 rfl (by kernel_rfl)) <| ?_
      refine hx0 (xh_stA 1 rfl rfl rfl sz111 (mc_len z32) (mc_one (v := .slice none 0 0) rfl) rfl ?_)
      refine hy (fun _ => y_assign rfl) <| hend <| hsub (ρ' := [(3, _), (19, _), (14, _), (5, _), (4, _), (2, _), (0, _)]) ⟨rfl, rfl, rfl, rfl, rfl, rfl, rfl, trivial⟩ <| hmemQ (X' := [_, _]) (S' := [_]) (fun _ m => m) <| hthen <| hret <| hthen_ret <| ?_
      refine hmemQ (fun w m => m.addX (r' := ROwn 5 1 (.slice none 0 0) 0 []) (.refl _ _) (Own.nil _ _ _ _) (fun k hk => hk.elim)) ?_
      exact hretN1 trivial rfl rfl rfl ag111 sz111 (mc_len z32) (fun m => (m.blk 1 rfl).cells0) [0] rfl [] rfl ⟨_, _, _, [], _, _, _, rfl, rfl, rfl, ⟨z32, rfl, hbad (fun hb => by have := hb.1; omega)⟩⟩
    · have h37 : 37 ≤ B.length := by omega
      have hnl : ((B.drop 5).take 32).length = 32 := by rw [List.length_take, List.length_drop]; omega
      refine hfactC (fun m => (m.ord 0 rfl).some (by omega)) fun h_ => ?_
      obtain ⟨a, rfl⟩ : ∃ a_, A_x = some a_ := ⟨_, h_⟩
      clear h_
      refine hcskip <| hthen <| hseq <| hdrw [9, 10] [(0, some 1), (1, some 1), (2, some 1), (3, some 1), (4, some 1), (5, some 1), (6, some 1), (7, some 1), (8, some 1), (9, none), (10, none)] (by kernel_rfl) (by kernel_rfl) rfl 1 <| htyU (y_move rfl) <| htyU (y_idxS1 rfl rfl Tryd.underlying32 sz5 hA_x (show ((0 : Nat) : Int) = 0 from rfl) (by omega)) <| hty (fun m => y_ld1 rfl ag5 ((m.ord 0 rfl).cell (b8s_get (by omega)))) <| htyU (y_conv rfl Tryd.underlying5 Tryd.underlying3 (wb8 _)) <| htyU (y_move rfl) <| htyU (yV (y_slBoth rfl rfl rfl Tryd.underlying32 sz5 (show ((5 : Nat) : Int) = 5 from rfl) (show ((37 : Nat) : Int) = 37 from rfl) (by omega) (by omega)) ((show Value.slice (if c_x = 5 then some a else (some a).map (·.add (5 * 1))) (37 - 5) (c_x - 5) = .slice (some (a.add 5)) 32 (c_x - 5) by rw [if_neg (by omega)]; rfl))) <| htyU (y_arrAt rfl Tryd.underlying23 (by omega)) <| hty (fun m => yV (y_ldN rfl ag23 sz23 (by rw [b8s_length]; exact hnl) (Rd.part (m.ord 0 rfl))) ((rfl : Value.agg _ = .agg (b8s ((B.drop 5).take 32)).toArray))) <| htyU (y_build ti111 rfl rfl (by kernel_rfl) (bldM (k0 := 0) (s := 0) (zi := zm) (z := .slice none 0 0) pl111_0 pl111_2 z32 hnl)) <| ?_
      refine htx (xh_alloc ti111 (fun g6 => ⟨(fun _ => wk [1, 1] [0] rfl rfl), ?_⟩))
      refine htx0 (xh_stA 0 rfl rfl rfl sz111 (mc_len hnl) (mc_one (v := .slice none 0 0) rfl) rfl ⟨(fun h => absurd h (by decide)), ?_⟩)
      refine htmem (fun w m => m.eqX 0 rfl (show _ = RBlk g6 111 (mc (wkd B) ((acc ((B.drop 1).take 4) 0 : Nat) : Int) ((B.drop 5).take 32) (.slice none 0 0)) from rfl)) ?_
      refine htend <| hsub (ρ' := [(6, _), (19, _), (14, _), (5, _), (4, _), (3, _), (2, _), (0, _)]) ⟨rfl, rfl, rfl, rfl, rfl, rfl, rfl, rfl, trivial⟩ <| hmemQ (X' := [_, _, _]) (S' := [_]) (fun _ m => m) <| hthen <| hseq <| hseq <| hreg <| hy (fun _ => y_assign rfl) <| hend <| hthen <| hblock <| ?_
      refine hloop1 (fun j => 4 - j) (fun j => [(7, .int .i64 (4 - (j : Int)))]) (fun j => [RBlk g6 111 (mc (wkd B) ((acc ((B.drop 1).take 4) j : Nat) : Int) ((B.drop 5).take 32) (.slice none 0 0))]) (fun j => []) (fun j => j ≤ 4) 0 [(6, _), (19, _), (14, _), (5, _), (4, _), (3, _), (2, _), (0, _)] ⟨rfl, rfl, rfl, rfl, rfl, rfl, rfl, rfl, trivial⟩ [0] rfl [] rfl (Nat.zero_le _) ⟨rfl, trivial⟩ (fun j hI => ?_)
      refine hseq <| hseq <| hreg <| hy (fun _ => y_move rfl) <| hy (fun _ => y_gtr rfl rfl) <| hend <| hsub (ρ' := [(31, _), (7, _), (6, _), (19, _), (14, _), (5, _), (4, _), (3, _), (2, _), (0, _)]) ⟨rfl, rfl, rfl, rfl, rfl, rfl, rfl, rfl, rfl, rfl, trivial⟩ <| hthen <| ?_
      refine hif rfl (fun hj => ?_) (fun hj => ?_)
      · have hl4 : ((B.drop 1).take 4).length = 4 := by rw [List.length_take, List.length_drop]; omega
        have hac := acc_le ((B.drop 1).take 4) (show j ≤ 4 by omega)
        have hby : (((B.drop 1).take 4).getD (3 - j) 0).toNat < 256 := UInt8.toNat_lt _
        have hget : B.getD (4 - j) 0 = ((B.drop 1).take 4).getD (3 - j) 0 := by
          simp only [List.getD, List.getElem?_take, List.getElem?_drop]
          rw [if_pos (by omega), show 1 + (3 - j) = 4 - j by omega]
        refine hcskip <| hthen <| hseq <| hblock <| hdrw [10] [(0, some 0), (1, some 0), (2, some 0), (3, some 0), (4, some 0), (5, some 0), (6, some 0), (7, some 0), (8, some 0), (9, some 0), (10, none)] (by kernel_rfl) (by kernel_rfl) rfl 0 <| htyU (y_fld rfl fa111_1 (by decide)) <| hty (fun m => y_ld1 rfl ag3 (ld_blk (m.blk 0 rfl) rfl)) <| htyU (y_shl (p := 256) rfl rfl (by decide) (by decide) (by decide) (w64 (by omega) (by omega))) <| htyU (y_move rfl) <| htyU (y_move rfl) <| htyU (y_idxS1 rfl rfl Tryd.underlying32 sz5 hA_x (show ((4 - j : Nat) : Int) = _ by omega) (by omega)) <| hty (fun m => yV (y_ld1 rfl ag5 ((m.ord 1 rfl).cell (b8s_get (by omega)))) ((show B8 (B.getD (4 - j) 0) = B8 (((B.drop 1).take 4).getD (3 - j) 0) by rw [hget]))) <| htyU (y_conv rfl Tryd.underlying5 Tryd.underlying3 (wb8 _)) <| htyU (y_bits (by simp) rfl rfl (or_byte _ _ hac hby)) <| htyU (y_fld rfl fa111_1 (by decide)) <| ?_
        refine htx0 (xh_st1a 0 rfl rfl rfl sz3 rfl (by first | exact Nat.le_of_ble_eq_true rfl | simp) ⟨(fun h => absurd h (by decide)), ?_⟩)
        refine htend <| hsub (ρ' := [(31, _), (7, _), (6, _), (19, _), (14, _), (5, _), (4, _), (3, _), (2, _), (0, _)]) ⟨rfl, rfl, rfl, rfl, rfl, rfl, rfl, rfl, rfl, rfl, trivial⟩ <| hmemQ (X' := [_, _, _]) (S' := [_]) (fun _ m => m) <| hqblock <| hthen <| hreg <| hy (fun _ => y_move rfl) <| hy (fun _ => yV (y_sub rfl rfl (w64 (by omega) (by omega))) ((show Value.int .i64 ((4 - (j : Int)) - 1) = .int .i64 (4 - ((j + 1 : Nat) : Int)) by congr 1; omega))) <| hy (fun _ => y_assign rfl) <| hend <| hsub (ρ' := [(7, _), (31, _), (6, _), (19, _), (14, _), (5, _), (4, _), (3, _), (2, _), (0, _)]) ⟨rfl, rfl, rfl, rfl, rfl, rfl, rfl, rfl, rfl, rfl, trivial⟩ <| ?_
        refine hnext1 (j + 1) ⟨rfl, rfl, rfl, rfl, rfl, rfl, rfl, rfl, rfl, trivial⟩ [0, 0, 0] rfl [0] rfl (by omega) (by omega)
      · obtain rfl : j = 4 := by omega
        rw [acc4]
        have hws : (num4 ((B.drop 1).take 4) : Nat) = ws B := rfl
        rw [hws]
        have hsl : ws B < 4294967296 := num4_lt _
        refine hexit <| hthen_exit <| hthen_exit <| hqblock_exit <| hthen <| hseq <| hreg <| hy (fun _ => y_move rfl) <| hy (fun _ => y_slFrom rfl rfl Tryd.underlying32 sz5 (show ((37 : Nat) : Int) = 37 from rfl) (by omega)) <| ?_
        refine hx (xh_calll rfl Tryd.call108 (cloneC (by omega) (l := (B.drop 37))) [] rfl (.x 1 rfl (View.trans .own (View.drop hc_x h37)) .nil) ?_)
        rintro _ _ _ ⟨v2, rfl, rfl, rfl⟩
        refine ⟨rfl, ?_⟩
        refine hfactL (fun m => (m.own 0 rfl).slice) ?_
        rintro ⟨A_x2, c_x2, rfl, hc_x2⟩
        refine hfactL (fun m => (m.ord 0 rfl).2.1) fun hA_x2 => ?_
        refine hy (fun _ => y_fld rfl fa111_3 (by decide)) <| ?_
        refine hx0 (xh_st1a 1 rfl rfl rfl sz32 rfl (by rw [mc_len hnl]; decide) ?_)
        refine hmemL (fun w m => m.eqX 0 rfl (show _ = RBlk g6 111 (mc (wkd B) (ws B : Int) ((B.drop 5).take 32) (.slice A_x2 (B.length - 37) c_x2)) from congrArg (RBlk _ _) (mc_set hnl))) ?_
        refine hend <| hsub (ρ' := [(31, _), (7, _), (6, _), (19, _), (14, _), (5, _), (4, _), (3, _), (2, _), (0, _)]) ⟨rfl, rfl, rfl, rfl, rfl, rfl, rfl, rfl, rfl, rfl, trivial⟩ <| hmemQ (X' := [_, _, _, _]) (S' := [_]) (fun _ m => m) <| hthen <| hseq <| hseq <| hreg <| hy (fun m => y_ldN rfl ag111 sz111 (mc_len hnl) ((m.blk 0 rfl).cells0)) <| ?_
        refine hx (xh_call rfl Tryd.call109 (mayC (by omega)) [] rfl [] rfl ?_)
        rintro _ _ _ ⟨rfl, rfl, rfl⟩
        refine hy (fun _ => y_notp rfl) <| hend <| hsub (ρ' := [(50, _), (31, _), (7, _), (6, _), (19, _), (14, _), (5, _), (4, _), (3, _), (2, _), (0, _)]) ⟨rfl, rfl, rfl, rfl, rfl, rfl, rfl, rfl, rfl, rfl, rfl, trivial⟩ <| hmemQ (X' := [_, _, _, _]) (S' := [_]) (fun _ m => m) <| hthen <| ?_
        refine hif rfl (fun hW => ?_) (fun hW => ?_)
        · refine hseq <| hreg <| hy (fun _ => y_build0 ti111 rfl (by kernel_rfl)) <| ?_
          refine hx0 (xh_stA 3 rfl rfl rfl sz111 (mc_len z32) (mc_one (v := .slice none 0 0) rfl) rfl ?_)
          refine hy (fun _ => y_assign rfl) <| hend <| hsub (ρ' := [(3, _), (50, _), (31, _), (7, _), (6, _), (19, _), (14, _), (5, _), (4, _), (2, _), (0, _)]) ⟨rfl, rfl, rfl, rfl, rfl, rfl, rfl, rfl, rfl, rfl, rfl, trivial⟩ <| hmemQ (X' := [_, _, _, _]) (S' := [_]) (fun _ m => m) <| hthen <| hret <| hthen_ret <| ?_
          refine hmemQ (fun w m => m.addX (r' := ROwn 5 1 (.slice none 0 0) 0 []) (.refl _ _) (Own.nil _ _ _ _) (fun k hk => hk.elim)) ?_
          exact hretN1 trivial rfl rfl rfl ag111 sz111 (mc_len z32) (fun m => (m.blk 1 rfl).cells0) [0] rfl [] rfl ⟨_, _, _, [], _, _, _, rfl, rfl, rfl, ⟨z32, rfl, hbad (fun hb => hW hb.2)⟩⟩
        · have hW := Decidable.not_not.1 hW
          refine hcskip <| hthen <| hseq <| hreg <| hy (fun m => y_ldN rfl ag111 sz111 (mc_len hnl) ((m.blk 0 rfl).cells0)) <| ?_
          refine hx0 (xh_stA 3 rfl rfl rfl sz111 (mc_len hnl) (mc_one rfl) rfl ?_)
          refine hy (fun _ => y_assign rfl) <| hend <| hsub (ρ' := [(3, _), (50, _), (31, _), (7, _), (6, _), (19, _), (14, _), (5, _), (4, _), (2, _), (0, _)]) ⟨rfl, rfl, rfl, rfl, rfl, rfl, rfl, rfl, rfl, rfl, rfl, trivial⟩ <| hmemQ (X' := [_, _, _, _]) (S' := [_]) (fun _ m => m) <| hthen <| hret <| ?_
          exact hretN1 trivial rfl rfl rfl ag111 sz111 (mc_len hnl) (fun m => (m.blk 0 rfl).cells0) [2] rfl [] rfl ⟨_, _, _, B.drop 37, _, _, _, rfl, rfl, rfl, ⟨hnl, List.length_drop, hok ⟨h37, hW⟩⟩⟩
/-- the bytes of a message -/
def wbody (k s : Nat) (nm body : List UInt8) : List UInt8 := [UInt8.ofNat k] ++ le4 s ++ nm ++ body
theorem wbody_len {k s : Nat} {nm body : List UInt8} (h : nm.length = 32) : (wbody k s nm body).length = 37 + body.length := by simp [wbody, le4_length, h]; omega
theorem rwbytesC {k s : Nat} {nm body : List UInt8} (hk : k < 256) (hs : s < 4294967296) (hm : nm.length = 32) (hb : body.length ≤ 1000000) : Con Tryd.prog 53 [.agg (mc k s nm (.string (strOf body))).toArray] [] [] (fun v_ X_ S_ => ∃ v, v_ = v ∧ X_ = [ROwn 5 1 v (37 + body.length + 4) (b8s (putL (wbody k s nm body)))] ∧ S_ = []) := by
  refine henter (N := 25) Tryd.func53 rfl rfl (by simp) fun b => ?_
  refine hseq <| hreg <| ?_
  refine hx (xh_box rfl (fun g1 => ?_))
  refine hmemL (fun w m => m.eqX 0 rfl (show _ = RBlk g1 94 (mc k s nm (.string (strOf body))) from congrArg (RBlk _ _) (cells_agg _))) ?_
  refine hy (fun _ => y_assign rfl) <| hend <| hmemQ (X' := [_]) (S' := []) (fun _ m => m) <| hthen <| hseq <| hreg <| hy (fun _ => y_fld rfl fa94_0 (by decide)) <| hy (fun m => y_ld1 rfl ag3 (ld_blk (m.blk 0 rfl) rfl)) <| hy (fun _ => yV (y_conv rfl Tryd.underlying3 Tryd.underlying5 (u8mod k)) ((rfl : Value.int .u8 _ = B8 (UInt8.ofNat k)))) <| ?_
  refine hx (xh_bsl Tryd.underlying32 ti5 rfl rfl rfl (by simp [Value.cells, B8]) (by decide) (by decide) (fun g7 => ?_))
  have hA_b7 : 0 < 1 → (some (⟨g7, 0, none⟩ : Addr)) ≠ none := fun _ h => by cases h
  refine hmemL (fun w m => m.eqX 0 rfl (show _ = ROwn 5 1 (.slice (some ⟨g7, 0, none⟩) 1 1) 1 (b8s [UInt8.ofNat k]) from rfl)) ?_
  refine hy (fun _ => y_assign rfl) <| hend <| hsub (ρ' := [(3, _), (2, _), (1, _), (0, _)]) ⟨rfl, rfl, rfl, rfl, trivial⟩ <| hmemQ (X' := [_, _]) (S' := []) (fun _ m => m) <| hthen <| hseq <| hreg <| hy (fun _ => y_move rfl) <| hy (fun _ => y_fld rfl fa94_1 (by decide)) <| hy (fun m => y_ld1 rfl ag3 (ld_blk (m.blk 1 rfl) rfl)) <| ?_
  refine hx (xh_call rfl Tryd.call63 (numberC (by omega)) [] rfl [] rfl ?_)
  rintro _ _ _ ⟨v, rfl, rfl, rfl⟩
  refine hfactL (fun m => (m.own 0 rfl).slice) ?_
  rintro ⟨A_x, c_x, rfl, hc_x⟩
  refine hfactL (fun m => (m.ord 0 rfl).2.1) fun hA_x => ?_
  refine hx (xh_app 1 rfl rfl rfl Tryd.underlying32 Tryd.underlying32 (by exact .inl rfl) ti5 rfl (fun m => Src.of_rd (m.ord 0 rfl)) b8s_one (by unfold maxLen; omega) (by omega) (fun u => ?_))
  refine hfactL (fun m => (m.own 0 rfl).slice) ?_
  rintro ⟨A_b7, c_b7, rfl, hc_b7⟩
  refine hfactL (fun m => (m.ord 0 rfl).2.1) fun hA_b7 => ?_
  refine hmemL (fun w m => m.eqX 0 rfl (show _ = ROwn 5 1 (.slice A_b7 5 c_b7) 5 (b8s ([UInt8.ofNat k] ++ le4 s)) from congrArg (ROwn _ _ _ _) (b8s_append ..).symm)) ?_
  refine hy (fun _ => y_assign rfl) <| hend <| hsub (ρ' := [(3, _), (2, _), (1, _), (0, _)]) ⟨rfl, rfl, rfl, rfl, trivial⟩ <| hmemQ (X' := [_, _, _]) (S' := []) (fun _ m => m) <| hthen <| hseq <| hreg <| hy (fun _ => y_move rfl) <| hy (fun _ => y_fld rfl fa94_2 (by decide)) <| hy (fun m => y_ldN rfl ag23 sz23 (by rw [b8s_length]; exact hm) (mc_nm (m.blk 2 rfl))) <| ?_
  refine hx (xh_call rfl Tryd.call105 (bytesC (by omega)) [] rfl [] rfl ?_)
  rintro _ _ _ ⟨v2, rfl, rfl, rfl⟩
  refine hfactL (fun m => (m.own 0 rfl).slice) ?_
  rintro ⟨A_x2, c_x2, rfl, hc_x2⟩
  refine hfactL (fun m => (m.ord 0 rfl).2.1) fun hA_x2 => ?_
  refine hx (xh_app 1 rfl rfl rfl Tryd.underlying32 Tryd.underlying32 (by exact .inl rfl) ti5 rfl (fun m => Src.of_rd (m.ord 0 rfl)) b8s_one (by unfold maxLen; omega) (by omega) (fun u2 => ?_))
  refine hfactL (fun m => (m.own 0 rfl).slice) ?_
  rintro ⟨A_b72, c_b72, rfl, hc_b7⟩
  refine hfactL (fun m => (m.ord 0 rfl).2.1) fun hA_b7 => ?_
  refine hmemL (fun w m => m.eqX 0 rfl (show _ = ROwn 5 1 (.slice A_b72 37 c_b72) 37 (b8s ([UInt8.ofNat k] ++ le4 s ++ nm)) from congrArg (ROwn _ _ _ _) (b8s_append ..).symm)) ?_
  have hbs : (bytesOf (strOf body)).length = body.length := rfl
  refine hy (fun _ => y_assign rfl) <| hend <| hsub (ρ' := [(3, _), (2, _), (1, _), (0, _)]) ⟨rfl, rfl, rfl, rfl, trivial⟩ <| hmemQ (X' := [_, _, _, _]) (S' := []) (fun _ m => m) <| hthen <| hseq <| hreg <| hy (fun _ => y_move rfl) <| hy (fun _ => y_fld rfl fa94_3 (by decide)) <| hy (fun m => y_ld1 rfl ag9 (mc_v (m.blk 3 rfl) hm)) <| ?_
  refine hx (xh_s2b rfl Tryd.underlying9 Tryd.underlying32 Tryd.underlying5 (show body.length ≤ maxLen by unfold maxLen; omega) (fun v21 => ?_))
  refine hfactL (fun m => (m.own 0 rfl).slice) ?_
  rintro ⟨A_b21, c_b21, rfl, hc_b21⟩
  refine hfactL (fun m => (m.ord 0 rfl).2.1) fun hA_b21 => ?_
  refine hmemL (fun w m => m.eqX 0 rfl (show _ = ROwn 5 1 (.slice A_b21 body.length c_b21) body.length (b8s body) from rfl)) ?_
  refine hx (xh_app 1 rfl rfl rfl Tryd.underlying32 Tryd.underlying32 (by exact .inl rfl) ti5 rfl (fun m => Src.of_rd (m.ord 0 rfl)) b8s_one (show 37 + body.length ≤ maxLen by unfold maxLen; omega) (show (37 + body.length) * 1 ≤ 140737488355328 by omega) (fun u3 => ?_))
  refine hfactL (fun m => (m.own 0 rfl).slice) ?_
  rintro ⟨A_b73, c_b73, rfl, hc_b7⟩
  refine hfactL (fun m => (m.ord 0 rfl).2.1) fun hA_b7 => ?_
  refine hmemL (fun w m => m.eqX 0 rfl (show _ = ROwn 5 1 (.slice A_b73 (37 + body.length) c_b73) (37 + body.length) (b8s (wbody k s nm body)) from congrArg (ROwn _ _ _ _) (b8s_append ..).symm)) ?_
  refine hy (fun _ => y_assign rfl) <| hend <| hsub (ρ' := [(3, _), (2, _), (1, _), (0, _)]) ⟨rfl, rfl, rfl, rfl, trivial⟩ <| hmemQ (X' := [_, _, _, _, _]) (S' := []) (fun _ m => m) <| hthen <| hseq <| hreg <| hy (fun _ => y_move rfl) <| ?_
  refine hx (xh_calll rfl Tryd.call22 (rcrcPutC (by omega)) [] rfl (.x 0 rfl .own .nil) ?_)
  rintro _ _ _ ⟨v3, rfl, rfl, rfl⟩
  refine ⟨rfl, ?_⟩
  refine hfactL (fun m => (m.own 0 rfl).slice) ?_
  rintro ⟨A_x3, c_x3, rfl, hc_x3⟩
  refine hfactL (fun m => (m.ord 0 rfl).2.1) fun hA_x3 => ?_
  refine hy (fun _ => y_assign rfl) <| hend <| hsub (ρ' := [(2, _), (3, _), (1, _), (0, _)]) ⟨rfl, rfl, rfl, rfl, trivial⟩ <| hmemQ (X' := [_, _, _, _, _, _]) (S' := []) (fun _ m => m) <| hthen <| hret <| ?_
  exact hret1 trivial rfl rfl [0] rfl [] rfl ⟨_, rfl, rfl, rfl⟩
theorem rwgoodC {k s : Int} {nm body : List UInt8} (hk : -9223372036854775808 ≤ k ∧ k ≤ 9223372036854775807) (hs : -9223372036854775808 ≤ s ∧ s ≤ 9223372036854775807) (hm : nm.length = 32) : Con Tryd.prog 51 [.agg (mc k s nm (.string (strOf body))).toArray] [] [] (fun v_ X_ S_ => v_ = (.agg (mc (1 + around k 3) (around s 4294967296) nm (.string (strOf (if around k 3 = 1 then body.take 40 else [])))).toArray) ∧ X_ = [] ∧ S_ = []) := by
  obtain ⟨a0, a1⟩ := around_lt k 3 (by decide)
  have z32 : zm.length = 32 := by simp [zm]
  refine henter (N := 22) Tryd.func51 rfl rfl (by simp) fun b => ?_
  refine hseq <| hreg <| ?_
  refine hx (xh_box rfl (fun g1 => ?_))
  refine hmemL (fun w m => m.eqX 0 rfl (show _ = RBlk g1 94 (mc k s nm (.string (strOf body))) from congrArg (RBlk _ _) (cells_agg _))) ?_
  refine hx (xh_alloc ti94 (fun g2 => ?_))
  refine hend <| hmemQ (X' := [_, _]) (S' := []) (fun _ m => m) <| hthen <| hseq <| hdrwP [2, 6, 10, 11] (.take 0 3 <| .take 1 3 <| .take 4 3 <| .take 5 3 <| .take 7 3 <| .take 8 3 <| .alt 2 (.take 3 3 <| .alt 6 (.take 9 3 <| .alt 10 (.alt 11 (.done) (.stop)) (.stop)) (.alt 10 (.alt 6 (.take 9 3 <| .alt 11 (.done) (.stop)) (.stop)) (.stop))) (.alt 10 (.alt 2 (.take 3 3 <| .alt 6 (.take 9 3 <| .alt 11 (.done) (.stop)) (.stop)) (.stop)) (.stop))) (by kernel_rfl) (by kernel_rfl) rfl 3 <| hpyU (y_fld rfl fa94_0 (by decide)) <| hpy (fun m => y_ld1 rfl ag3 (ld_blk (m.blk 1 rfl) rfl)) <| hpyU (y_fld rfl fa94_1 (by decide)) <| hpy (fun m => y_ld1 rfl ag3 (ld_blk (m.blk 1 rfl) rfl)) <| hpyU (y_fld rfl fa94_2 (by decide)) <| hpy (fun m => yV (y_ldN rfl ag23 sz23 (by rw [b8s_length]; exact hm) (mc_nm (m.blk 1 rfl))) ((rfl : Value.agg _ = .agg (b8s nm).toArray))) <| ?_
  refine hpfork ?_ ?_
  · refine hpx (xh_call rfl Tryd.call14 (aroundC (by omega) (by omega) (by omega)) [] rfl [] rfl ?_)
    rintro _ _ _ ⟨rfl, rfl, rfl⟩
    refine ⟨(fun _ => wk [0, 0] [] rfl rfl), ?_⟩
    refine hpyU (y_add rfl rfl (w64 (by omega) (by omega))) <| ?_
    refine hpfork ?_ ?_
    · refine hpx (xh_call rfl Tryd.call14 (aroundC (by omega) (by omega) (by omega)) [] rfl [] rfl ?_)
      rintro _ _ _ ⟨rfl, rfl, rfl⟩
      refine ⟨(fun _ => wk [0, 0] [] rfl rfl), ?_⟩
      refine hpyU (y_build ti94 rfl rfl (by kernel_rfl) (bldM3 (k0 := 0) (s0 := 0) (zi := zm) (z := .string ⟨#[]⟩) pl94_0 pl94_1 pl94_2 z32 hm)) <| ?_
      refine hpx (xh_alloc ti94 (fun g3 => ⟨(fun _ => wk [1, 1] [] rfl rfl), ?_⟩))
      refine hpx0 (xh_stA 0 rfl rfl rfl sz94 (mc_len hm) (mc_one rfl) rfl ⟨(fun h => absurd h (by decide)), ?_⟩)
      refine hpmem (fun w m => m.eqX 0 rfl (show _ = RBlk g3 94 (mc (1 + around k 3) (around s 4294967296) nm (.string (strOf []))) from rfl)) ?_
      refine hpend <| hsub (ρ' := [(3, _), (2, _), (1, _), (0, _)]) ⟨rfl, rfl, rfl, rfl, trivial⟩ <| hmemQ (X' := [_, _, _]) (S' := []) (fun _ m => m) <| hthen <| hseq <| hseq <| hreg <| hy (fun _ => y_fld rfl fa94_0 (by decide)) <| hy (fun m => y_ld1 rfl ag3 (ld_blk (m.blk 0 rfl) rfl)) <| hy (fun _ => y_eql rfl rfl) <| hend <| hsub (ρ' := [(16, _), (3, _), (2, _), (1, _), (0, _)]) ⟨rfl, rfl, rfl, rfl, rfl, trivial⟩ <| hthen <| ?_
      refine hif rfl (fun h => ?_) (fun h => ?_)
      · refine hreg <| hy (fun _ => y_fld rfl fa94_3 (by decide)) <| hy (fun m => y_ld1 rfl ag9 (mc_v (m.blk 2 rfl) hm)) <| ?_
        refine hx (xh_call rfl Tryd.call92 (shortC (m := 40)) [] rfl [] rfl ?_)
        rintro _ _ _ ⟨rfl, rfl, rfl⟩
        refine hy (fun _ => y_fld rfl fa94_3 (by decide)) <| ?_
        refine hx0 (xh_st1a 0 rfl rfl rfl sz9 rfl (by rw [mc_len hm]; decide) ?_)
        refine hmemL (fun w m => m.eqX 0 rfl (show _ = RBlk g3 94 (mc (1 + around k 3) (around s 4294967296) nm (.string (strOf (body.take 40)))) from congrArg (RBlk _ _) (mc_set hm))) ?_
        refine hend <| hsub (ρ' := [(16, _), (3, _), (2, _), (1, _), (0, _)]) ⟨rfl, rfl, rfl, rfl, rfl, trivial⟩ <| hmemQ (X' := [_, _, _]) (S' := []) (fun _ m => m) <| hthen <| hseq <| hreg <| hy (fun m => y_ldN rfl ag94 sz94 (mc_len hm) ((m.blk 0 rfl).cells0)) <| ?_
        refine hx0 (xh_stA 1 rfl rfl rfl sz94 (mc_len hm) (mc_one rfl) rfl ?_)
        refine hend <| hsub (ρ' := [(16, _), (3, _), (2, _), (1, _), (0, _)]) ⟨rfl, rfl, rfl, rfl, rfl, trivial⟩ <| hmemQ (X' := [_, _, _]) (S' := []) (fun _ m => m) <| hthen <| hret <| ?_
        exact hretN trivial rfl rfl ag94 sz94 (mc_len hm) (fun m => (m.blk 0 rfl).cells0) [] rfl [] rfl ⟨(by rw [if_pos (by omega)]), rfl, rfl⟩
      · refine hcskip <| hthen <| hseq <| hreg <| hy (fun m => y_ldN rfl ag94 sz94 (mc_len hm) ((m.blk 0 rfl).cells0)) <| ?_
        refine hx0 (xh_stA 1 rfl rfl rfl sz94 (mc_len hm) (mc_one rfl) rfl ?_)
        refine hend <| hsub (ρ' := [(16, _), (3, _), (2, _), (1, _), (0, _)]) ⟨rfl, rfl, rfl, rfl, rfl, trivial⟩ <| hmemQ (X' := [_, _, _]) (S' := []) (fun _ m => m) <| hthen <| hret <| ?_
        exact hretN trivial rfl rfl ag94 sz94 (mc_len hm) (fun m => (m.blk 0 rfl).cells0) [] rfl [] rfl ⟨(by rw [if_neg (by omega)]), rfl, rfl⟩
    · refine hpx (xh_alloc ti94 (fun g3 => ⟨(fun _ => wk [1, 1] [] rfl rfl), ?_⟩))
      refine hpx (xh_call rfl Tryd.call14 (aroundC (by omega) (by omega) (by omega)) [] rfl [] rfl ?_)
      rintro _ _ _ ⟨rfl, rfl, rfl⟩
      refine ⟨(fun _ => wk [1, 1] [] rfl rfl), ?_⟩
      refine hpyU (y_build ti94 rfl rfl (by kernel_rfl) (bldM3 (k0 := 0) (s0 := 0) (zi := zm) (z := .string ⟨#[]⟩) pl94_0 pl94_1 pl94_2 z32 hm)) <| ?_
      refine hpx0 (xh_stA 0 rfl rfl rfl sz94 (mc_len hm) (mc_one rfl) rfl ⟨(fun h => absurd h (by decide)), ?_⟩)
      refine hpmem (fun w m => m.eqX 0 rfl (show _ = RBlk g3 94 (mc (1 + around k 3) (around s 4294967296) nm (.string (strOf []))) from rfl)) ?_
      refine hpend <| hsub (ρ' := [(3, _), (2, _), (1, _), (0, _)]) ⟨rfl, rfl, rfl, rfl, trivial⟩ <| hmemQ (X' := [_, _, _]) (S' := []) (fun _ m => m) <| hthen <| hseq <| hseq <| hreg <| hy (fun _ => y_fld rfl fa94_0 (by decide)) <| hy (fun m => y_ld1 rfl ag3 (ld_blk (m.blk 0 rfl) rfl)) <| hy (fun _ => y_eql rfl rfl) <| hend <| hsub (ρ' := [(16, _), (3, _), (2, _), (1, _), (0, _)]) ⟨rfl, rfl, rfl, rfl, rfl, trivial⟩ <| hthen <| ?_
      refine hif rfl (fun h => ?_) (fun h => ?_)
      · refine hreg <| hy (fun _ => y_fld rfl fa94_3 (by decide)) <| hy (fun m => y_ld1 rfl ag9 (mc_v (m.blk 2 rfl) hm)) <| ?_
        refine hx (xh_call rfl Tryd.call92 (shortC (m := 40)) [] rfl [] rfl ?_)
        rintro _ _ _ ⟨rfl, rfl, rfl⟩
        refine hy (fun _ => y_fld rfl fa94_3 (by decide)) <| ?_
        refine hx0 (xh_st1a 0 rfl rfl rfl sz9 rfl (by rw [mc_len hm]; decide) ?_)
        refine hmemL (fun w m => m.eqX 0 rfl (show _ = RBlk g3 94 (mc (1 + around k 3) (around s 4294967296) nm (.string (strOf (body.take 40)))) from congrArg (RBlk _ _) (mc_set hm))) ?_
        refine hend <| hsub (ρ' := [(16, _), (3, _), (2, _), (1, _), (0, _)]) ⟨rfl, rfl, rfl, rfl, rfl, trivial⟩ <| hmemQ (X' := [_, _, _]) (S' := []) (fun _ m => m) <| hthen <| hseq <| hreg <| hy (fun m => y_ldN rfl ag94 sz94 (mc_len hm) ((m.blk 0 rfl).cells0)) <| ?_
        refine hx0 (xh_stA 1 rfl rfl rfl sz94 (mc_len hm) (mc_one rfl) rfl ?_)
        refine hend <| hsub (ρ' := [(16, _), (3, _), (2, _), (1, _), (0, _)]) ⟨rfl, rfl, rfl, rfl, rfl, trivial⟩ <| hmemQ (X' := [_, _, _]) (S' := []) (fun _ m => m) <| hthen <| hret <| ?_
        exact hretN trivial rfl rfl ag94 sz94 (mc_len hm) (fun m => (m.blk 0 rfl).cells0) [] rfl [] rfl ⟨(by rw [if_pos (by omega)]), rfl, rfl⟩
      · refine hcskip <| hthen <| hseq <| hreg <| hy (fun m => y_ldN rfl ag94 sz94 (mc_len hm) ((m.blk 0 rfl).cells0)) <| ?_
        refine hx0 (xh_stA 1 rfl rfl rfl sz94 (mc_len hm) (mc_one rfl) rfl ?_)
        refine hend <| hsub (ρ' := [(16, _), (3, _), (2, _), (1, _), (0, _)]) ⟨rfl, rfl, rfl, rfl, rfl, trivial⟩ <| hmemQ (X' := [_, _, _]) (S' := []) (fun _ m => m) <| hthen <| hret <| ?_
        exact hretN trivial rfl rfl ag94 sz94 (mc_len hm) (fun m => (m.blk 0 rfl).cells0) [] rfl [] rfl ⟨(by rw [if_neg (by omega)]), rfl, rfl⟩
  · refine hpx (xh_alloc ti94 (fun g3 => ⟨(fun _ => wk [1, 1] [] rfl rfl), ?_⟩))
    refine hpx (xh_call rfl Tryd.call14 (aroundC (by omega) (by omega) (by omega)) [] rfl [] rfl ?_)
    rintro _ _ _ ⟨rfl, rfl, rfl⟩
    refine ⟨(fun _ => wk [1, 1] [] rfl rfl), ?_⟩
    refine hpyU (y_add rfl rfl (w64 (by omega) (by omega))) <| ?_
    refine hpx (xh_call rfl Tryd.call14 (aroundC (by omega) (by omega) (by omega)) [] rfl [] rfl ?_)
    rintro _ _ _ ⟨rfl, rfl, rfl⟩
    refine ⟨(fun _ => wk [1, 1] [] rfl rfl), ?_⟩
    refine hpyU (y_build ti94 rfl rfl (by kernel_rfl) (bldM3 (k0 := 0) (s0 := 0) (zi := zm) (z := .string ⟨#[]⟩) pl94_0 pl94_1 pl94_2 z32 hm)) <| ?_
    refine hpx0 (xh_stA 0 rfl rfl rfl sz94 (mc_len hm) (mc_one rfl) rfl ⟨(fun h => absurd h (by decide)), ?_⟩)
    refine hpmem (fun w m => m.eqX 0 rfl (show _ = RBlk g3 94 (mc (1 + around k 3) (around s 4294967296) nm (.string (strOf []))) from rfl)) ?_
    refine hpend <| hsub (ρ' := [(3, _), (2, _), (1, _), (0, _)]) ⟨rfl, rfl, rfl, rfl, trivial⟩ <| hmemQ (X' := [_, _, _]) (S' := []) (fun _ m => m) <| hthen <| hseq <| hseq <| hreg <| hy (fun _ => y_fld rfl fa94_0 (by decide)) <| hy (fun m => y_ld1 rfl ag3 (ld_blk (m.blk 0 rfl) rfl)) <| hy (fun _ => y_eql rfl rfl) <| hend <| hsub (ρ' := [(16, _), (3, _), (2, _), (1, _), (0, _)]) ⟨rfl, rfl, rfl, rfl, rfl, trivial⟩ <| hthen <| ?_
    refine hif rfl (fun h => ?_) (fun h => ?_)
    · refine hreg <| hy (fun _ => y_fld rfl fa94_3 (by decide)) <| hy (fun m => y_ld1 rfl ag9 (mc_v (m.blk 2 rfl) hm)) <| ?_
      refine hx (xh_call rfl Tryd.call92 (shortC (m := 40)) [] rfl [] rfl ?_)
      rintro _ _ _ ⟨rfl, rfl, rfl⟩
      refine hy (fun _ => y_fld rfl fa94_3 (by decide)) <| ?_
      refine hx0 (xh_st1a 0 rfl rfl rfl sz9 rfl (by rw [mc_len hm]; decide) ?_)
      refine hmemL (fun w m => m.eqX 0 rfl (show _ = RBlk g3 94 (mc (1 + around k 3) (around s 4294967296) nm (.string (strOf (body.take 40)))) from congrArg (RBlk _ _) (mc_set hm))) ?_
      refine hend <| hsub (ρ' := [(16, _), (3, _), (2, _), (1, _), (0, _)]) ⟨rfl, rfl, rfl, rfl, rfl, trivial⟩ <| hmemQ (X' := [_, _, _]) (S' := []) (fun _ m => m) <| hthen <| hseq <| hreg <| hy (fun m => y_ldN rfl ag94 sz94 (mc_len hm) ((m.blk 0 rfl).cells0)) <| ?_
      refine hx0 (xh_stA 1 rfl rfl rfl sz94 (mc_len hm) (mc_one rfl) rfl ?_)
      refine hend <| hsub (ρ' := [(16, _), (3, _), (2, _), (1, _), (0, _)]) ⟨rfl, rfl, rfl, rfl, rfl, trivial⟩ <| hmemQ (X' := [_, _, _]) (S' := []) (fun _ m => m) <| hthen <| hret <| ?_
      exact hretN trivial rfl rfl ag94 sz94 (mc_len hm) (fun m => (m.blk 0 rfl).cells0) [] rfl [] rfl ⟨(by rw [if_pos (by omega)]), rfl, rfl⟩
    · refine hcskip <| hthen <| hseq <| hreg <| hy (fun m => y_ldN rfl ag94 sz94 (mc_len hm) ((m.blk 0 rfl).cells0)) <| ?_
      refine hx0 (xh_stA 1 rfl rfl rfl sz94 (mc_len hm) (mc_one rfl) rfl ?_)
      refine hend <| hsub (ρ' := [(16, _), (3, _), (2, _), (1, _), (0, _)]) ⟨rfl, rfl, rfl, rfl, rfl, trivial⟩ <| hmemQ (X' := [_, _, _]) (S' := []) (fun _ m => m) <| hthen <| hret <| ?_
      exact hretN trivial rfl rfl ag94 sz94 (mc_len hm) (fun m => (m.blk 0 rfl).cells0) [] rfl [] rfl ⟨(by rw [if_neg (by omega)]), rfl, rfl⟩
end Go.Proofs.YtfikjheicjamhaaDoor
end
section
/- Contracts: what is said (wire): Answer, Write. -/
set_option linter.unusedVariables false
set_option linter.unusedSimpArgs false
set_option maxRecDepth 20000
namespace Go.Proofs.YtfikjheicjamhaaDoor
open Go.Eng Go.Hx
/-- when an answer may be -/
def AnsOk (k s : Int) (n : Nat) (has : Bool) (nf : Nat) : Prop := k = 1 ∧ WMay k s n ∧ (has = true → nf ≤ 4106)
def AnsW (k s : Int) (nm : List UInt8) (n : Nat) (has : Bool) (nf : Nat) (l : List UInt8) (k1 s1 : Int) (nm1 body : List UInt8) (err : Int) : Prop :=
  (AnsOk k s n has nf ∧ err = 0 ∧ k1 = (if has then 2 else 3) ∧ s1 = s ∧ nm1 = nm ∧ body = if has then l else []) ∨
  (¬ AnsOk k s n has nf ∧ err = 1 ∧ k1 = 0 ∧ s1 = 0 ∧ nm1 = zm ∧ body = [])
theorem ans_may {k s : Int} {n m : Nat} {has : Bool} (h1 : k = 1) (h : WMay k s n) (hm : has = false → m = 0) : WMay (if has then 2 else 3) s m ↔ (has = true → m ≤ 4106) := by
  unfold WMay at h ⊢
  cases has
  · simp [hm rfl]; omega
  · simp; omega
theorem wanswerC {k s : Int} {nm : List UInt8} {A : Option Addr} {n c : Nat} {Af : Option Addr} {nf cf : Nat} {l : List UInt8} {has : Bool} (hm : nm.length = 32) (hf : nf ≤ 140737488351232) : Con Tryd.prog 103 [.agg (mc k s nm (.slice A n c)).toArray, .slice Af nf cf, .bool has] [] [RRd 1 Af nf (b8s l)] (fun v_ X_ S_ => ∃ k1 s1 nm1 body v err bn, v_ = (.tuple #[.agg (mc k1 s1 nm1 v).toArray, .int .i64 err]) ∧ X_ = [ROwn 5 1 v bn (b8s body)] ∧ S_ = [] ∧ (nm1.length = 32 ∧ body.length = bn ∧ AnsW k s nm n has nf l k1 s1 nm1 body err)) := by
  have z32 : zm.length = 32 := by simp [zm]
  refine henter (N := 34) Tryd.func103 rfl rfl (by simp) fun b => ?_
  refine hfactC (fun m => rdB (m.rd 0 rfl)) ?_
  rintro ⟨hl_f, hA_f⟩
  refine hseq <| hreg <| ?_
  refine hx (xh_box rfl (fun g3 => ?_))
  refine hmemL (fun w m => m.eqX 0 rfl (show _ = RBlk g3 111 (mc k s nm (.slice A n c)) from congrArg (RBlk _ _) (cells_agg _))) ?_
  refine hx (xh_alloc ti111 (fun g6 => ?_))
  refine hy (fun _ => y_assign rfl) <| hend <| hmemQ (X' := [_, _]) (S' := [_]) (fun _ m => m) <| hthen <| hseq <| hreg <| hy (fun _ => y_fld rfl fa111_1 (by decide)) <| hy (fun m => y_ld1 rfl ag3 (ld_blk (m.blk 1 rfl) rfl)) <| hy (fun _ => y_fld rfl fa111_2 (by decide)) <| hy (fun m => yV (y_ldN rfl ag23 sz23 (by rw [b8s_length]; exact hm) (mc_nm (m.blk 1 rfl))) ((rfl : Value.agg _ = .agg (b8s nm).toArray))) <| hy (fun _ => y_build ti111 rfl rfl (by kernel_rfl) (bldM3 (k0 := 0) (s0 := 0) (zi := zm) (z := .slice none 0 0) pl111_0 pl111_1 pl111_2 z32 hm)) <| ?_
  refine hx (xh_alloc ti111 (fun g8 => ?_))
  refine hx0 (xh_stA 0 rfl rfl rfl sz111 (mc_len hm) (mc_one (v := .slice none 0 0) rfl) rfl ?_)
  refine hmemL (fun w m => m.eqX 0 rfl (show _ = RBlk g8 111 (mc 3 s nm (.slice none 0 0)) from rfl)) ?_
  cases has
  · refine hend <| hsub (ρ' := [(8, _), (7, _), (6, _), (3, _), (0, _), (1, _), (2, _)]) ⟨rfl, rfl, rfl, rfl, rfl, rfl, rfl, trivial⟩ <| hmemQ (X' := [_, _, _]) (S' := [_]) (fun _ m => m) <| hthen <| hseq <| hseq <| hreg <| hy (fun _ => y_move rfl) <| hend <| hthen <| ?_
    refine hiff rfl (rfl) ?_
    refine hmemC (fun w m => m.addX (r' := ROwn 5 1 (.slice none 0 0) 0 []) (.refl _ _) (Own.nil _ _ _ _) (fun k hk => hk.elim)) ?_
    by_cases h1 : k = 1
    · by_cases hW : WMay k s n
      · by_cases hO : WMay 3 s 0
        · refine hcskip <| hthen <| hseq <| hseq <| hreg <| hy (fun _ => y_fld rfl fa111_0 (by decide)) <| hy (fun m => y_ld1 rfl ag3 (ld_blk (m.blk 3 rfl) rfl)) <| hy (fun _ => yF (y_neq rfl rfl) ((decide_eq_false (not_not_intro h1)))) <| hy (fun _ => y_move rfl) <| hyg (o := _) rfl rfl rfl (fun m => y_ldN rfl ag111 sz111 (mc_len hm) ((m.blk 3 rfl).cells0)) <| ?_
          refine hxg (o := _) rfl rfl rfl (xh_call rfl Tryd.call109 (mayC (by omega)) [] rfl [] rfl ?_)
          rintro _ _ _ ⟨rfl, rfl, rfl⟩
          refine hyg (o := _) rfl rfl rfl (fun _ => yF (y_notp rfl) ((decide_eq_false (not_not_intro hW)))) <| hy (fun _ => y_pickF rfl rfl) <| hy (fun _ => y_move rfl) <| hyg (o := _) rfl rfl rfl (fun m => y_ldN rfl ag111 sz111 (mc_len hm) ((m.blk 1 rfl).cells0)) <| ?_
          refine hxg (o := _) rfl rfl rfl (xh_call rfl Tryd.call109 (mayC (by omega)) [] rfl [] rfl ?_)
          rintro _ _ _ ⟨rfl, rfl, rfl⟩
          refine hyg (o := _) rfl rfl rfl (fun _ => yF (y_notp rfl) ((decide_eq_false (not_not_intro hO)))) <| hy (fun _ => y_pickF rfl rfl) <| hend <| hsub (ρ' := [(31, _), (14, _), (8, _), (7, _), (6, _), (3, _), (0, _), (1, _), (2, _)]) ⟨rfl, rfl, rfl, rfl, rfl, rfl, rfl, rfl, rfl, trivial⟩ <| hmemQ (X' := [_, _, _, _]) (S' := [_]) (fun _ m => m) <| hthen <| ?_
          refine hiff rfl (rfl) ?_
          refine hcskip <| hthen <| hseq <| hreg <| hy (fun m => y_ldN rfl ag111 sz111 (mc_len hm) ((m.blk 1 rfl).cells0)) <| ?_
          refine hx0 (xh_stA 2 rfl rfl rfl sz111 (mc_len hm) (mc_one rfl) rfl ?_)
          refine hy (fun _ => y_assign rfl) <| hend <| hsub (ρ' := [(7, _), (31, _), (14, _), (8, _), (6, _), (3, _), (0, _), (1, _), (2, _)]) ⟨rfl, rfl, rfl, rfl, rfl, rfl, rfl, rfl, rfl, trivial⟩ <| hmemQ (X' := [_, _, _, _]) (S' := [_]) (fun _ m => m) <| hthen <| hret <| ?_
          exact hretN1 trivial rfl rfl rfl ag111 sz111 (mc_len hm) (fun m => (m.blk 0 rfl).cells0) [1] rfl [] rfl ⟨_, _, _, [], _, _, _, rfl, rfl, rfl, ⟨hm, rfl, .inl ⟨⟨h1, hW, (fun e => by cases e)⟩, rfl, rfl, rfl, rfl, rfl⟩⟩⟩
        · refine hcskip <| hthen <| hseq <| hseq <| hreg <| hy (fun _ => y_fld rfl fa111_0 (by decide)) <| hy (fun m => y_ld1 rfl ag3 (ld_blk (m.blk 3 rfl) rfl)) <| hy (fun _ => yF (y_neq rfl rfl) ((decide_eq_false (not_not_intro h1)))) <| hy (fun _ => y_move rfl) <| hyg (o := _) rfl rfl rfl (fun m => y_ldN rfl ag111 sz111 (mc_len hm) ((m.blk 3 rfl).cells0)) <| ?_
          refine hxg (o := _) rfl rfl rfl (xh_call rfl Tryd.call109 (mayC (by omega)) [] rfl [] rfl ?_)
          rintro _ _ _ ⟨rfl, rfl, rfl⟩
          refine hyg (o := _) rfl rfl rfl (fun _ => yF (y_notp rfl) ((decide_eq_false (not_not_intro hW)))) <| hy (fun _ => y_pickF rfl rfl) <| hy (fun _ => y_move rfl) <| hyg (o := _) rfl rfl rfl (fun m => y_ldN rfl ag111 sz111 (mc_len hm) ((m.blk 1 rfl).cells0)) <| ?_
          refine hxg (o := _) rfl rfl rfl (xh_call rfl Tryd.call109 (mayC (by omega)) [] rfl [] rfl ?_)
          rintro _ _ _ ⟨rfl, rfl, rfl⟩
          refine hyg (o := _) rfl rfl rfl (fun _ => yT (y_notp rfl) ((decide_eq_true hO))) <| hy (fun _ => y_pickF rfl rfl) <| hend <| hsub (ρ' := [(31, _), (14, _), (8, _), (7, _), (6, _), (3, _), (0, _), (1, _), (2, _)]) ⟨rfl, rfl, rfl, rfl, rfl, rfl, rfl, rfl, rfl, trivial⟩ <| hmemQ (X' := [_, _, _, _]) (S' := [_]) (fun _ m => m) <| hthen <| ?_
          refine hift rfl (rfl) ?_
          refine hseq <| hreg <| hy (fun _ => y_build0 ti111 rfl (by kernel_rfl)) <| ?_
          refine hx0 (xh_stA 2 rfl rfl rfl sz111 (mc_len z32) (mc_one (v := .slice none 0 0) rfl) rfl ?_)
          refine hy (fun _ => y_assign rfl) <| hend <| hsub (ρ' := [(7, _), (31, _), (14, _), (8, _), (6, _), (3, _), (0, _), (1, _), (2, _)]) ⟨rfl, rfl, rfl, rfl, rfl, rfl, rfl, rfl, rfl, trivial⟩ <| hmemQ (X' := [_, _, _, _]) (S' := [_]) (fun _ m => m) <| hthen <| hret <| hthen_ret <| ?_
          refine hmemQ (fun w m => m.addX (r' := ROwn 5 1 (.slice none 0 0) 0 []) (.refl _ _) (Own.nil _ _ _ _) (fun k hk => hk.elim)) ?_
          exact hretN1 trivial rfl rfl rfl ag111 sz111 (mc_len z32) (fun m => (m.blk 1 rfl).cells0) [0] rfl [] rfl ⟨_, _, _, [], _, _, _, rfl, rfl, rfl, ⟨z32, rfl, .inr ⟨(fun h => hO ((ans_may (has := false) h1 hW (fun _ => rfl)).2 (fun e => by cases e))), rfl, rfl, rfl, rfl, rfl⟩⟩⟩
      · refine hcskip <| hthen <| hseq <| hseq <| hreg <| hy (fun _ => y_fld rfl fa111_0 (by decide)) <| hy (fun m => y_ld1 rfl ag3 (ld_blk (m.blk 3 rfl) rfl)) <| hy (fun _ => yF (y_neq rfl rfl) ((decide_eq_false (not_not_intro h1)))) <| hy (fun _ => y_move rfl) <| hyg (o := _) rfl rfl rfl (fun m => y_ldN rfl ag111 sz111 (mc_len hm) ((m.blk 3 rfl).cells0)) <| ?_
        refine hxg (o := _) rfl rfl rfl (xh_call rfl Tryd.call109 (mayC (by omega)) [] rfl [] rfl ?_)
        rintro _ _ _ ⟨rfl, rfl, rfl⟩
        refine hyg (o := _) rfl rfl rfl (fun _ => yT (y_notp rfl) ((decide_eq_true hW))) <| hy (fun _ => y_pickF rfl rfl) <| hy (fun _ => y_move rfl) <| hskip rfl rfl rfl (by decide) <| hskip rfl rfl rfl (by decide) <| hskip rfl rfl rfl (by decide) <| hy (fun _ => y_pickT rfl rfl) <| hend <| hsub (ρ' := [(31, _), (14, _), (8, _), (7, _), (6, _), (3, _), (0, _), (1, _), (2, _)]) ⟨rfl, rfl, rfl, rfl, rfl, rfl, rfl, rfl, rfl, trivial⟩ <| hmemQ (X' := [_, _, _, _]) (S' := [_]) (fun _ m => m) <| hthen <| ?_
        refine hift rfl (rfl) ?_
        refine hseq <| hreg <| hy (fun _ => y_build0 ti111 rfl (by kernel_rfl)) <| ?_
        refine hx0 (xh_stA 2 rfl rfl rfl sz111 (mc_len z32) (mc_one (v := .slice none 0 0) rfl) rfl ?_)
        refine hy (fun _ => y_assign rfl) <| hend <| hsub (ρ' := [(7, _), (31, _), (14, _), (8, _), (6, _), (3, _), (0, _), (1, _), (2, _)]) ⟨rfl, rfl, rfl, rfl, rfl, rfl, rfl, rfl, rfl, trivial⟩ <| hmemQ (X' := [_, _, _, _]) (S' := [_]) (fun _ m => m) <| hthen <| hret <| hthen_ret <| ?_
        refine hmemQ (fun w m => m.addX (r' := ROwn 5 1 (.slice none 0 0) 0 []) (.refl _ _) (Own.nil _ _ _ _) (fun k hk => hk.elim)) ?_
        exact hretN1 trivial rfl rfl rfl ag111 sz111 (mc_len z32) (fun m => (m.blk 1 rfl).cells0) [0] rfl [] rfl ⟨_, _, _, [], _, _, _, rfl, rfl, rfl, ⟨z32, rfl, .inr ⟨(fun h => hW h.2.1), rfl, rfl, rfl, rfl, rfl⟩⟩⟩
    · refine hcskip <| hthen <| hseq <| hseq <| hreg <| hy (fun _ => y_fld rfl fa111_0 (by decide)) <| hy (fun m => y_ld1 rfl ag3 (ld_blk (m.blk 3 rfl) rfl)) <| hy (fun _ => yT (y_neq rfl rfl) ((decide_eq_true h1))) <| hy (fun _ => y_move rfl) <| hskip rfl rfl rfl (by decide) <| hskip rfl rfl rfl (by decide) <| hskip rfl rfl rfl (by decide) <| hy (fun _ => y_pickT rfl rfl) <| hy (fun _ => y_move rfl) <| hskip rfl rfl rfl (by decide) <| hskip rfl rfl rfl (by decide) <| hskip rfl rfl rfl (by decide) <| hy (fun _ => y_pickT rfl rfl) <| hend <| hsub (ρ' := [(31, _), (14, _), (8, _), (7, _), (6, _), (3, _), (0, _), (1, _), (2, _)]) ⟨rfl, rfl, rfl, rfl, rfl, rfl, rfl, rfl, rfl, trivial⟩ <| hthen <| ?_
      refine hift rfl (rfl) ?_
      refine hseq <| hreg <| hy (fun _ => y_build0 ti111 rfl (by kernel_rfl)) <| ?_
      refine hx0 (xh_stA 2 rfl rfl rfl sz111 (mc_len z32) (mc_one (v := .slice none 0 0) rfl) rfl ?_)
      refine hy (fun _ => y_assign rfl) <| hend <| hsub (ρ' := [(7, _), (31, _), (14, _), (8, _), (6, _), (3, _), (0, _), (1, _), (2, _)]) ⟨rfl, rfl, rfl, rfl, rfl, rfl, rfl, rfl, rfl, trivial⟩ <| hmemQ (X' := [_, _, _, _]) (S' := [_]) (fun _ m => m) <| hthen <| hret <| hthen_ret <| ?_
      refine hmemQ (fun w m => m.addX (r' := ROwn 5 1 (.slice none 0 0) 0 []) (.refl _ _) (Own.nil _ _ _ _) (fun k hk => hk.elim)) ?_
      exact hretN1 trivial rfl rfl rfl ag111 sz111 (mc_len z32) (fun m => (m.blk 1 rfl).cells0) [0] rfl [] rfl ⟨_, _, _, [], _, _, _, rfl, rfl, rfl, ⟨z32, rfl, .inr ⟨(fun h => h1 h.1), rfl, rfl, rfl, rfl, rfl⟩⟩⟩
  · refine hend <| hsub (ρ' := [(8, _), (7, _), (6, _), (3, _), (0, _), (1, _), (2, _)]) ⟨rfl, rfl, rfl, rfl, rfl, rfl, rfl, trivial⟩ <| hthen <| hseq <| hseq <| hreg <| hy (fun _ => y_move rfl) <| hend <| hthen <| ?_
    refine hift rfl (rfl) ?_
    refine hreg <| hy (fun _ => y_move rfl) <| ?_
    refine hx (xh_call rfl Tryd.call108 (cloneC (by omega)) [] rfl [0] rfl ?_)
    rintro _ _ _ ⟨v, rfl, rfl, rfl⟩
    refine hfactL (fun m => (m.own 0 rfl).slice) ?_
    rintro ⟨A_x, c_x, rfl, hc_x⟩
    refine hfactL (fun m => (m.ord 0 rfl).2.1) fun hA_x => ?_
    refine hy (fun _ => y_fld rfl fa111_0 (by decide)) <| ?_
    refine hx0 (xh_st1a 1 rfl rfl rfl sz3 rfl (by rw [mc_len hm]; decide) ?_)
    refine hmemL (fun w m => m.eqX 0 rfl (show _ = RBlk g8 111 (mc 2 s nm (.slice none 0 0)) from rfl)) ?_
    refine hy (fun _ => y_fld rfl fa111_3 (by decide)) <| ?_
    refine hx0 (xh_st1a 0 rfl rfl rfl sz32 rfl (by rw [mc_len hm]; decide) ?_)
    refine hmemL (fun w m => m.eqX 0 rfl (show _ = RBlk g8 111 (mc 2 s nm (.slice A_x nf c_x)) from congrArg (RBlk _ _) (mc_set hm))) ?_
    by_cases h1 : k = 1
    · by_cases hW : WMay k s n
      · by_cases hO : WMay 2 s nf
        · refine hend <| hsub (ρ' := [(14, _), (8, _), (7, _), (6, _), (3, _), (0, _), (1, _), (2, _)]) ⟨rfl, rfl, rfl, rfl, rfl, rfl, rfl, rfl, trivial⟩ <| hmemQ (X' := [_, _, _, _]) (S' := [_]) (fun _ m => m) <| hthen <| hseq <| hseq <| hreg <| hy (fun _ => y_fld rfl fa111_0 (by decide)) <| hy (fun m => y_ld1 rfl ag3 (ld_blk (m.blk 3 rfl) rfl)) <| hy (fun _ => yF (y_neq rfl rfl) ((decide_eq_false (not_not_intro h1)))) <| hy (fun _ => y_move rfl) <| hyg (o := _) rfl rfl rfl (fun m => y_ldN rfl ag111 sz111 (mc_len hm) ((m.blk 3 rfl).cells0)) <| ?_
          refine hxg (o := _) rfl rfl rfl (xh_call rfl Tryd.call109 (mayC (by omega)) [] rfl [] rfl ?_)
          rintro _ _ _ ⟨rfl, rfl, rfl⟩
          refine hyg (o := _) rfl rfl rfl (fun _ => yF (y_notp rfl) ((decide_eq_false (not_not_intro hW)))) <| hy (fun _ => y_pickF rfl rfl) <| hy (fun _ => y_move rfl) <| hyg (o := _) rfl rfl rfl (fun m => y_ldN rfl ag111 sz111 (mc_len hm) ((m.blk 0 rfl).cells0)) <| ?_
          refine hxg (o := _) rfl rfl rfl (xh_call rfl Tryd.call109 (mayC (by omega)) [] rfl [] rfl ?_)
          rintro _ _ _ ⟨rfl, rfl, rfl⟩
          refine hyg (o := _) rfl rfl rfl (fun _ => yF (y_notp rfl) ((decide_eq_false (not_not_intro hO)))) <| hy (fun _ => y_pickF rfl rfl) <| hend <| hsub (ρ' := [(31, _), (14, _), (8, _), (7, _), (6, _), (3, _), (0, _), (1, _), (2, _)]) ⟨rfl, rfl, rfl, rfl, rfl, rfl, rfl, rfl, rfl, trivial⟩ <| hmemQ (X' := [_, _, _, _]) (S' := [_]) (fun _ m => m) <| hthen <| ?_
          refine hiff rfl (rfl) ?_
          refine hcskip <| hthen <| hseq <| hreg <| hy (fun m => y_ldN rfl ag111 sz111 (mc_len hm) ((m.blk 0 rfl).cells0)) <| ?_
          refine hx0 (xh_stA 2 rfl rfl rfl sz111 (mc_len hm) (mc_one rfl) rfl ?_)
          refine hy (fun _ => y_assign rfl) <| hend <| hsub (ρ' := [(7, _), (31, _), (14, _), (8, _), (6, _), (3, _), (0, _), (1, _), (2, _)]) ⟨rfl, rfl, rfl, rfl, rfl, rfl, rfl, rfl, rfl, trivial⟩ <| hmemQ (X' := [_, _, _, _]) (S' := [_]) (fun _ m => m) <| hthen <| hret <| ?_
          exact hretN1 trivial rfl rfl rfl ag111 sz111 (mc_len hm) (fun m => (m.blk 0 rfl).cells0) [2] rfl [] rfl ⟨_, _, _, l, _, _, _, rfl, rfl, rfl, ⟨hm, hl_f, .inl ⟨⟨h1, hW, ((ans_may (has := true) h1 hW (fun e => by cases e)).1 hO)⟩, rfl, rfl, rfl, rfl, rfl⟩⟩⟩
        · refine hend <| hsub (ρ' := [(14, _), (8, _), (7, _), (6, _), (3, _), (0, _), (1, _), (2, _)]) ⟨rfl, rfl, rfl, rfl, rfl, rfl, rfl, rfl, trivial⟩ <| hthen <| hseq <| hseq <| hreg <| hy (fun _ => y_fld rfl fa111_0 (by decide)) <| hy (fun m => y_ld1 rfl ag3 (ld_blk (m.blk 3 rfl) rfl)) <| hy (fun _ => yF (y_neq rfl rfl) ((decide_eq_false (not_not_intro h1)))) <| hy (fun _ => y_move rfl) <| hyg (o := _) rfl rfl rfl (fun m => y_ldN rfl ag111 sz111 (mc_len hm) ((m.blk 3 rfl).cells0)) <| ?_
          refine hxg (o := _) rfl rfl rfl (xh_call rfl Tryd.call109 (mayC (by omega)) [] rfl [] rfl ?_)
          rintro _ _ _ ⟨rfl, rfl, rfl⟩
          refine hyg (o := _) rfl rfl rfl (fun _ => yF (y_notp rfl) ((decide_eq_false (not_not_intro hW)))) <| hy (fun _ => y_pickF rfl rfl) <| hy (fun _ => y_move rfl) <| hyg (o := _) rfl rfl rfl (fun m => y_ldN rfl ag111 sz111 (mc_len hm) ((m.blk 0 rfl).cells0)) <| ?_
          refine hxg (o := _) rfl rfl rfl (xh_call rfl Tryd.call109 (mayC (by omega)) [] rfl [] rfl ?_)
          rintro _ _ _ ⟨rfl, rfl, rfl⟩
          refine hyg (o := _) rfl rfl rfl (fun _ => yT (y_notp rfl) ((decide_eq_true hO))) <| hy (fun _ => y_pickF rfl rfl) <| hend <| hsub (ρ' := [(31, _), (14, _), (8, _), (7, _), (6, _), (3, _), (0, _), (1, _), (2, _)]) ⟨rfl, rfl, rfl, rfl, rfl, rfl, rfl, rfl, rfl, trivial⟩ <| hmemQ (X' := [_, _, _, _]) (S' := [_]) (fun _ m => m) <| hthen <| ?_
          refine hift rfl (rfl) ?_
          refine hseq <| hreg <| hy (fun _ => y_build0 ti111 rfl (by kernel_rfl)) <| ?_
          refine hx0 (xh_stA 2 rfl rfl rfl sz111 (mc_len z32) (mc_one (v := .slice none 0 0) rfl) rfl ?_)
          refine hy (fun _ => y_assign rfl) <| hend <| hsub (ρ' := [(7, _), (31, _), (14, _), (8, _), (6, _), (3, _), (0, _), (1, _), (2, _)]) ⟨rfl, rfl, rfl, rfl, rfl, rfl, rfl, rfl, rfl, trivial⟩ <| hmemQ (X' := [_, _, _, _]) (S' := [_]) (fun _ m => m) <| hthen <| hret <| hthen_ret <| ?_
          refine hmemQ (fun w m => m.addX (r' := ROwn 5 1 (.slice none 0 0) 0 []) (.refl _ _) (Own.nil _ _ _ _) (fun k hk => hk.elim)) ?_
          exact hretN1 trivial rfl rfl rfl ag111 sz111 (mc_len z32) (fun m => (m.blk 1 rfl).cells0) [0] rfl [] rfl ⟨_, _, _, [], _, _, _, rfl, rfl, rfl, ⟨z32, rfl, .inr ⟨(fun h => hO ((ans_may (has := true) h1 hW (fun e => by cases e)).2 h.2.2)), rfl, rfl, rfl, rfl, rfl⟩⟩⟩
      · refine hend <| hsub (ρ' := [(14, _), (8, _), (7, _), (6, _), (3, _), (0, _), (1, _), (2, _)]) ⟨rfl, rfl, rfl, rfl, rfl, rfl, rfl, rfl, trivial⟩ <| hthen <| hseq <| hseq <| hreg <| hy (fun _ => y_fld rfl fa111_0 (by decide)) <| hy (fun m => y_ld1 rfl ag3 (ld_blk (m.blk 3 rfl) rfl)) <| hy (fun _ => yF (y_neq rfl rfl) ((decide_eq_false (not_not_intro h1)))) <| hy (fun _ => y_move rfl) <| hyg (o := _) rfl rfl rfl (fun m => y_ldN rfl ag111 sz111 (mc_len hm) ((m.blk 3 rfl).cells0)) <| ?_
        refine hxg (o := _) rfl rfl rfl (xh_call rfl Tryd.call109 (mayC (by omega)) [] rfl [] rfl ?_)
        rintro _ _ _ ⟨rfl, rfl, rfl⟩
        refine hyg (o := _) rfl rfl rfl (fun _ => yT (y_notp rfl) ((decide_eq_true hW))) <| hy (fun _ => y_pickF rfl rfl) <| hy (fun _ => y_move rfl) <| hskip rfl rfl rfl (by decide) <| hskip rfl rfl rfl (by decide) <| hskip rfl rfl rfl (by decide) <| hy (fun _ => y_pickT rfl rfl) <| hend <| hsub (ρ' := [(31, _), (14, _), (8, _), (7, _), (6, _), (3, _), (0, _), (1, _), (2, _)]) ⟨rfl, rfl, rfl, rfl, rfl, rfl, rfl, rfl, rfl, trivial⟩ <| hmemQ (X' := [_, _, _, _]) (S' := [_]) (fun _ m => m) <| hthen <| ?_
        refine hift rfl (rfl) ?_
        refine hseq <| hreg <| hy (fun _ => y_build0 ti111 rfl (by kernel_rfl)) <| ?_
        refine hx0 (xh_stA 2 rfl rfl rfl sz111 (mc_len z32) (mc_one (v := .slice none 0 0) rfl) rfl ?_)
        refine hy (fun _ => y_assign rfl) <| hend <| hsub (ρ' := [(7, _), (31, _), (14, _), (8, _), (6, _), (3, _), (0, _), (1, _), (2, _)]) ⟨rfl, rfl, rfl, rfl, rfl, rfl, rfl, rfl, rfl, trivial⟩ <| hmemQ (X' := [_, _, _, _]) (S' := [_]) (fun _ m => m) <| hthen <| hret <| hthen_ret <| ?_
        refine hmemQ (fun w m => m.addX (r' := ROwn 5 1 (.slice none 0 0) 0 []) (.refl _ _) (Own.nil _ _ _ _) (fun k hk => hk.elim)) ?_
        exact hretN1 trivial rfl rfl rfl ag111 sz111 (mc_len z32) (fun m => (m.blk 1 rfl).cells0) [0] rfl [] rfl ⟨_, _, _, [], _, _, _, rfl, rfl, rfl, ⟨z32, rfl, .inr ⟨(fun h => hW h.2.1), rfl, rfl, rfl, rfl, rfl⟩⟩⟩
    · refine hend <| hsub (ρ' := [(14, _), (8, _), (7, _), (6, _), (3, _), (0, _), (1, _), (2, _)]) ⟨rfl, rfl, rfl, rfl, rfl, rfl, rfl, rfl, trivial⟩ <| hthen <| hseq <| hseq <| hreg <| hy (fun _ => y_fld rfl fa111_0 (by decide)) <| hy (fun m => y_ld1 rfl ag3 (ld_blk (m.blk 3 rfl) rfl)) <| hy (fun _ => yT (y_neq rfl rfl) ((decide_eq_true h1))) <| hy (fun _ => y_move rfl) <| hskip rfl rfl rfl (by decide) <| hskip rfl rfl rfl (by decide) <| hskip rfl rfl rfl (by decide) <| hy (fun _ => y_pickT rfl rfl) <| hy (fun _ => y_move rfl) <| hskip rfl rfl rfl (by decide) <| hskip rfl rfl rfl (by decide) <| hskip rfl rfl rfl (by decide) <| hy (fun _ => y_pickT rfl rfl) <| hend <| hsub (ρ' := [(31, _), (14, _), (8, _), (7, _), (6, _), (3, _), (0, _), (1, _), (2, _)]) ⟨rfl, rfl, rfl, rfl, rfl, rfl, rfl, rfl, rfl, trivial⟩ <| hthen <| ?_
      refine hift rfl (rfl) ?_
      refine hseq <| hreg <| hy (fun _ => y_build0 ti111 rfl (by kernel_rfl)) <| ?_
      refine hx0 (xh_stA 2 rfl rfl rfl sz111 (mc_len z32) (mc_one (v := .slice none 0 0) rfl) rfl ?_)
      refine hy (fun _ => y_assign rfl) <| hend <| hsub (ρ' := [(7, _), (31, _), (14, _), (8, _), (6, _), (3, _), (0, _), (1, _), (2, _)]) ⟨rfl, rfl, rfl, rfl, rfl, rfl, rfl, rfl, rfl, trivial⟩ <| hmemQ (X' := [_, _, _, _]) (S' := [_]) (fun _ m => m) <| hthen <| hret <| hthen_ret <| ?_
      refine hmemQ (fun w m => m.addX (r' := ROwn 5 1 (.slice none 0 0) 0 []) (.refl _ _) (Own.nil _ _ _ _) (fun k hk => hk.elim)) ?_
      exact hretN1 trivial rfl rfl rfl ag111 sz111 (mc_len z32) (fun m => (m.blk 1 rfl).cells0) [0] rfl [] rfl ⟨_, _, _, [], _, _, _, rfl, rfl, rfl, ⟨z32, rfl, .inr ⟨(fun h => h1 h.1), rfl, rfl, rfl, rfl, rfl⟩⟩⟩
theorem shr8_div (s : Nat) : ∀ i, shr8 i s = s / 256 ^ i
  | 0 => by simp [shr8]
  | i + 1 => by rw [shr8, shr8_div s i, Nat.div_div_eq_div_mul, Nat.pow_succ]
theorem pow8 {i : Nat} (h : i < 4) : (2 : Int) ^ ((8 * (i : Int)).toNat) = ((256 ^ i : Nat) : Int) := by
  match i, h with
  | 0, _ => rfl
  | 1, _ => rfl
  | 2, _ => rfl
  | 3, _ => rfl
theorem byte_at (s i : Nat) : IntKind.u8.wrap ((s : Int) / ((256 ^ i : Nat) : Int)) = ((UInt8.ofNat (shr8 i s)).toNat : Int) := by
  rw [shr8_div, ← u8mod]; rfl
def wpre (k s n i : Nat) : List UInt8 := [UInt8.ofNat k] ++ lek i s ++ List.replicate (36 + n - i) 0
theorem lek_length (i s : Nat) : (lek i s).length = i := by simp [lek]
theorem wpre_len {k s n i : Nat} (h : i ≤ 36) : (wpre k s n i).length = 37 + n := by simp [wpre, lek_length]; omega
theorem wpre_zero (k s n : Nat) : (List.replicate (37 + n) (0 : UInt8)).set 0 (UInt8.ofNat k) = wpre k s n 0 := by
  rw [show 37 + n = (36 + n) + 1 by omega, List.replicate_succ]
  simp [wpre, lek]
theorem wpre_set {k s n i : Nat} (h : i < 4) : (wpre k s n i).set (i + 1) (UInt8.ofNat (shr8 i s)) = wpre k s n (i + 1) := by
  have hl : ([UInt8.ofNat k] ++ lek i s).length = i + 1 := by simp [lek_length]
  unfold wpre
  rw [lek_succ, List.set_append, if_neg (by omega), hl, Nat.sub_self, show 36 + n - i = (36 + n - (i + 1)) + 1 by omega, List.replicate_succ, List.set_cons_zero]
  simp
theorem splice_b8s (a v : List UInt8) (o : Nat) : splice (b8s a) o (b8s v) = b8s (a.take o ++ v ++ a.drop (o + v.length)) := by
  simp [splice, b8s]
theorem wsp1 {k s n : Nat} {nm : List UInt8} (h : nm.length = 32) : splice (b8s (wpre k s n 4)) 5 (b8s nm) = b8s ([UInt8.ofNat k] ++ le4 s ++ nm ++ List.replicate n 0) := by
  have hl : ([UInt8.ofNat k] ++ le4 s).length = 5 := rfl
  rw [splice_b8s, h, wpre, lek_four, List.take_append_of_le_length (by omega), List.take_of_length_le (by omega), List.drop_append, hl, List.drop_of_length_le (by omega), List.nil_append, List.drop_replicate, show 36 + n - 4 - (5 + 32 - 5) = n by omega]
theorem wsp2 {k s n : Nat} {nm l : List UInt8} (h : nm.length = 32) (hl : l.length = n) : splice (b8s ([UInt8.ofNat k] ++ le4 s ++ nm ++ List.replicate n 0)) (if n = 0 then 0 else 37) (b8s l) = b8s (wbody k s nm l) := by
  have h5 : ([UInt8.ofNat k] ++ le4 s ++ nm).length = 37 := by simp [le4_length, h]
  rw [splice_b8s, wbody]
  by_cases hn : n = 0
  · subst hn
    obtain rfl : l = [] := List.eq_nil_of_length_eq_zero hl
    simp
  · rw [if_neg hn, List.take_append_of_le_length (by omega), List.take_of_length_le (by omega), List.drop_append, h5, List.drop_of_length_le (by omega), List.drop_replicate, show n - (37 + l.length - 37) = 0 by omega]
    simp
theorem wwriteC {k s : Nat} {nm : List UInt8} {A : Option Addr} {n c : Nat} {l : List UInt8} (hm : nm.length = 32) (hn : n ≤ c) (hM : WMay k s n) : Con Tryd.prog 104 [.agg (mc k s nm (.slice A n c)).toArray] [] [RRd 1 A n (b8s l)] (fun v_ X_ S_ => ∃ v, v_ = (.tuple #[v, .int .i64 0]) ∧ X_ = [ROwn 5 1 v (37 + n + 4) (b8s (putL (wbody k s nm l)))] ∧ S_ = []) := by
  have hM2 := hM
  unfold WMay at hM2
  refine henter (N := 45) Tryd.func104 rfl rfl (by simp) fun b => ?_
  refine hfactC (fun m => rdB (m.rd 0 rfl)) ?_
  rintro ⟨hl_r, hA_r⟩
  refine hseq <| hreg <| ?_
  refine hx (xh_box rfl (fun g1 => ?_))
  refine hmemL (fun w m => m.eqX 0 rfl (show _ = RBlk g1 111 (mc k s nm (.slice A n c)) from congrArg (RBlk _ _) (cells_agg _))) ?_
  refine hy (fun _ => y_assign rfl) <| hy (fun _ => y_assign rfl) <| hend <| hmemQ (X' := [_]) (S' := [_]) (fun _ m => m) <| hthen <| hseq <| hseq <| hreg <| hy (fun m => y_ldN rfl ag111 sz111 (mc_len hm) ((m.blk 0 rfl).cells0)) <| ?_
  refine hx (xh_call rfl Tryd.call109 (mayC (by omega)) [] rfl [] rfl ?_)
  rintro _ _ _ ⟨rfl, rfl, rfl⟩
  refine hy (fun _ => y_notp rfl) <| hend <| hsub (ρ' := [(8, _), (3, _), (2, _), (1, _), (0, _)]) ⟨rfl, rfl, rfl, rfl, rfl, trivial⟩ <| hmemQ (X' := [_]) (S' := [_]) (fun _ m => m) <| hthen <| ?_
  refine hiff rfl ((decide_eq_false (not_not_intro hM))) ?_
  refine hcskip <| hthen <| hseq <| hreg <| hy (fun _ => y_fld rfl fa111_3 (by decide)) <| hy (fun m => y_ld1 rfl ag32 (mc_v (m.blk 0 rfl) hm)) <| hy (fun _ => y_lenS rfl Tryd.underlying32) <| hy (fun _ => yV (y_add rfl rfl (w64 (by omega) (by omega))) ((show Value.int .i64 (37 + (n : Int)) = .int .i64 ((37 + n : Nat) : Int) by congr 1))) <| ?_
  refine hx (xh_mksl Tryd.underlying32 ti5 rfl rfl rfl (by omega) (by omega) (fun g13 => ?_))
  have hA_b13 : ∀ {n : Nat}, 0 < n → (some (⟨g13, 0, none⟩ : Addr)) ≠ none := fun _ h => by cases h
  refine hmemL (fun w m => m.eqX 0 rfl (show _ = RBlk g13 5 (b8s (List.replicate (37 + n) 0)) from congrArg (RBlk _ _) (by simp [b8s, B8]))) ?_
  refine hy (fun _ => y_assign rfl) <| hend <| hsub (ρ' := [(4, _), (8, _), (3, _), (2, _), (1, _), (0, _)]) ⟨rfl, rfl, rfl, rfl, rfl, rfl, trivial⟩ <| hmemQ (X' := [_, _]) (S' := [_]) (fun _ m => m) <| hthen <| hseq <| hreg <| hy (fun _ => y_move rfl) <| hy (fun _ => y_fld rfl fa111_0 (by decide)) <| hy (fun m => y_ld1 rfl ag3 (ld_blk (m.blk 1 rfl) rfl)) <| hy (fun _ => yV (y_conv rfl Tryd.underlying3 Tryd.underlying5 (u8mod k)) ((rfl : Value.int .u8 _ = B8 (UInt8.ofNat k)))) <| hy (fun _ => y_idxS1 rfl rfl Tryd.underlying32 sz5 hA_b13 (show ((0 : Nat) : Int) = 0 from rfl) (by omega)) <| ?_
  refine hx0 (xh_st1a 0 rfl rfl rfl sz5 rfl (by rw [b8s_length, List.length_replicate]; omega) ?_)
  refine hmemL (fun w m => m.eqX 0 rfl (show _ = RBlk g13 5 (b8s (wpre k s n 0)) from congrArg (RBlk _ _) ((b8s_set _ _ _).symm.trans (congrArg b8s (wpre_zero k s n))))) ?_
  refine hend <| hsub (ρ' := [(4, _), (8, _), (3, _), (2, _), (1, _), (0, _)]) ⟨rfl, rfl, rfl, rfl, rfl, rfl, trivial⟩ <| hmemQ (X' := [_, _]) (S' := [_]) (fun _ m => m) <| hthen <| hseq <| hseq <| hreg <| hy (fun _ => y_move rfl) <| hend <| hthen <| hblock <| ?_
  refine hloop1 (fun i => 4 - i) (fun i => [(19, .int .i64 (i : Nat))]) (fun i => [RBlk g13 5 (b8s (wpre k s n i))]) (fun i => []) (fun i => i ≤ 4) 0 [(4, _), (8, _), (3, _), (2, _), (1, _), (0, _)] ⟨rfl, rfl, rfl, rfl, rfl, rfl, trivial⟩ [0] rfl [] rfl (Nat.zero_le _) ⟨rfl, trivial⟩ (fun i hI => ?_)
  refine hseq <| hreg <| hy (fun _ => y_lss rfl rfl) <| hend <| hthen <| hseq <| ?_
  refine hif rfl (fun hi => ?_) (fun hi => ?_)
  · have hi4 : i < 4 := by omega
    refine hcskip <| hthen <| hseq <| hblock <| hseq <| hreg <| hy (fun _ => y_move rfl) <| hy (fun _ => y_assign rfl) <| hend <| hsub (ρ' := [(5, _), (20, _), (19, _), (4, _), (8, _), (3, _), (2, _), (1, _), (0, _)]) ⟨rfl, rfl, rfl, rfl, rfl, rfl, rfl, rfl, rfl, trivial⟩ <| hthen <| hreg <| hy (fun _ => y_move rfl) <| hy (fun _ => y_move rfl) <| hy (fun _ => y_add rfl rfl (w64 (by omega) (by omega))) <| hy (fun _ => y_fld rfl fa111_1 (by decide)) <| hy (fun m => y_ld1 rfl ag3 (ld_blk (m.blk 1 rfl) rfl)) <| hy (fun _ => y_move rfl) <| hy (fun _ => y_mul rfl rfl (w64 (by omega) (by omega))) <| hy (fun _ => y_shr rfl rfl (by omega) (by simp [IntKind.bits]; omega) (pow8 hi4)) <| hy (fun _ => yV (y_conv rfl Tryd.underlying3 Tryd.underlying5 (byte_at s i)) ((rfl : Value.int .u8 _ = B8 (UInt8.ofNat (shr8 i s))))) <| ?_
    refine hy (fun _ => y_idxS1 rfl rfl Tryd.underlying32 sz5 hA_b13 (show ((i + 1 : Nat) : Int) = _ by omega) (by omega)) <| ?_
    refine hx0 (xh_st1a 0 rfl rfl rfl sz5 rfl (by rw [b8s_length, wpre_len (by omega)]; omega) ?_)
    refine hmemL (fun w m => m.eqX 0 rfl (show _ = RBlk g13 5 (b8s (wpre k s n (i + 1))) from congrArg (RBlk _ _) (show (b8s (wpre k s n i)).set (0 + (i + 1)) (B8 (UInt8.ofNat (shr8 i s))) = _ by rw [Nat.zero_add, ← b8s_set, wpre_set hi4]))) ?_
    refine hend <| hsub (ρ' := [(5, _), (20, _), (19, _), (4, _), (8, _), (3, _), (2, _), (1, _), (0, _)]) ⟨rfl, rfl, rfl, rfl, rfl, rfl, rfl, rfl, rfl, trivial⟩ <| hmemQ (X' := [_, _]) (S' := [_]) (fun _ m => m) <| hqblock <| hthen <| hreg <| hy (fun _ => y_add rfl rfl (w64 (by omega) (by omega))) <| hy (fun _ => y_move rfl) <| hend <| hsub (ρ' := [(19, _), (5, _), (20, _), (4, _), (8, _), (3, _), (2, _), (1, _), (0, _)]) ⟨rfl, rfl, rfl, rfl, rfl, rfl, rfl, rfl, rfl, trivial⟩ <| ?_
    refine hnext1 (i + 1) ⟨rfl, rfl, rfl, rfl, rfl, rfl, rfl, trivial⟩ [0, 0] rfl [0] rfl (by omega) (by omega)
  · obtain rfl : i = 4 := by omega
    refine hexit <| hthen_exit <| hthen_exit <| hqblock_exit <| hthen <| hseq <| hdrw [4] [(0, some 0), (1, some 0), (2, some 0), (3, some 0), (4, none)] (by kernel_rfl) (by kernel_rfl) rfl 0 <| htyU (y_move rfl) <| htyU (yV (y_slFrom rfl rfl Tryd.underlying32 sz5 (show ((5 : Nat) : Int) = 5 from rfl) (by omega)) ((show Value.slice (if 37 + n = 5 then some ⟨g13, 0, none⟩ else (some (⟨g13, 0, none⟩ : Addr)).map (·.add (5 * 1))) (37 + n - 5) (37 + n - 5) = .slice (some ⟨g13, 5, none⟩) (32 + n) (32 + n) by rw [if_neg (by omega), show 37 + n - 5 = 32 + n by omega]; rfl))) <| htyU (y_fld rfl fa111_2 (by decide)) <| htyU (y_slArr rfl Tryd.underlying23 sz5) <| ?_
    refine htx (xh_copy 0 rfl rfl rfl Tryd.underlying32 sz5 (fun m => ⟨(by rw [b8s_length]; omega), (fun _ h => by cases h), mc_nm (m.blk 1 rfl)⟩) (show 32 = min 32 (32 + n) by omega) (by rw [b8s_length, wpre_len (by omega)]; omega) b8s_oneCell ⟨(fun h => absurd h (by decide)), ?_⟩)
    refine htmem (fun w m => m.eqX 0 rfl (show _ = RBlk g13 5 (b8s ([UInt8.ofNat k] ++ le4 s ++ nm ++ List.replicate n 0)) from congrArg (RBlk _ _) (wsp1 hm))) ?_
    refine htend <| hsub (ρ' := [(20, _), (19, _), (4, _), (8, _), (3, _), (2, _), (1, _), (0, _)]) ⟨rfl, rfl, rfl, rfl, rfl, rfl, rfl, rfl, trivial⟩ <| hmemQ (X' := [_, _]) (S' := [_]) (fun _ m => m) <| hthen <| hseq <| hdrw [4] [(0, some 0), (1, some 0), (2, some 0), (3, some 0), (4, none)] (by kernel_rfl) (by kernel_rfl) rfl 0 <| htyU (y_move rfl) <| htyU (yV (y_slFrom rfl rfl Tryd.underlying32 sz5 (show ((37 : Nat) : Int) = 37 from rfl) (by omega)) ((show Value.slice (if 37 + n = 37 then some ⟨g13, 0, none⟩ else (some (⟨g13, 0, none⟩ : Addr)).map (·.add (37 * 1))) (37 + n - 37) (37 + n - 37) = .slice (some ⟨g13, if n = 0 then 0 else 37, none⟩) n n by rw [show 37 + n - 37 = n by omega]; by_cases h0 : n = 0 <;> simp [h0] <;> rfl))) <| htyU (y_fld rfl fa111_3 (by decide)) <| hty (fun m => y_ld1 rfl ag32 (mc_v (m.blk 1 rfl) hm)) <| ?_
    refine htx (xh_copy 0 rfl rfl rfl Tryd.underlying32 sz5 (fun m => (m.rd 0 rfl)) (show n = min n n by omega) (by simp [b8s_length, le4_length, hm]; split <;> omega) b8s_oneCell ⟨(fun h => absurd h (by decide)), ?_⟩)
    refine htmem (fun w m => m.eqX 0 rfl (show _ = RBlk g13 5 (b8s (wbody k s nm l)) from congrArg (RBlk _ _) (wsp2 hm hl_r))) ?_
    refine htend <| hsub (ρ' := [(20, _), (19, _), (4, _), (8, _), (3, _), (2, _), (1, _), (0, _)]) ⟨rfl, rfl, rfl, rfl, rfl, rfl, rfl, rfl, trivial⟩ <| hmemQ (X' := [_, _]) (S' := [_]) (fun _ m => m) <| hthen <| hseq <| hreg <| hy (fun _ => y_move rfl) <| ?_
    refine hx (xh_calll rfl Tryd.call62 (crcPutC (by omega)) [] rfl (.x 0 rfl (.blk (by rw [b8s_length, wbody_len hm, hl_r]; omega)) .nil) ?_)
    rintro _ _ _ ⟨v, rfl, rfl, rfl⟩
    refine ⟨rfl, ?_⟩
    refine hfactL (fun m => (m.own 0 rfl).slice) ?_
    rintro ⟨A_x, c_x, rfl, hc_x⟩
    refine hfactL (fun m => (m.ord 0 rfl).2.1) fun hA_x => ?_
    refine hy (fun _ => y_assign rfl) <| hy (fun _ => y_assign rfl) <| hend <| hsub (ρ' := [(3, _), (2, _), (20, _), (19, _), (4, _), (8, _), (1, _), (0, _)]) ⟨rfl, rfl, rfl, rfl, rfl, rfl, rfl, rfl, trivial⟩ <| hmemQ (X' := [_, _, _]) (S' := [_]) (fun _ m => m) <| hthen <| hret <| ?_
    exact hret2 trivial rfl rfl rfl [0] rfl [] rfl ⟨_, rfl, rfl, rfl⟩
end Go.Proofs.YtfikjheicjamhaaDoor
end
section
/- The library's locks under this seat's numbers. -/
namespace Go.Proofs.YtfikjheicjamhaaDoor
abbrev muLink : Go.Conc.Locks.MuLink := { lock := 100, unlock := 101, ilock := 140, iunlock := 141, lockSlow := 163, unlockSlow := 166, disable := 159, enable := 161, acquire := 162, relMerge := 164, cas32 := 160, add32 := 165, tMutex := 163, tIMutex := 161, tPMutex := 208, tPIMutex := 242, tPI32 := 244, tUP := 246, tNoCopy := 159, tU32 := 120 }
theorem muLib : Go.Conc.Locks.MuLib Tryd.prog muLink := by
  constructor <;> first | kernel_rfl | (intro _; kernel_rfl)
end Go.Proofs.YtfikjheicjamhaaDoor
end
