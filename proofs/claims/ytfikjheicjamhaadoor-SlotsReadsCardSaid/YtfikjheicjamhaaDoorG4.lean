import Derived.Test.YtfikjheicjamhaaDoorG3
import Derived.Test.YtfikjheicjamhaaDoorG1
import Derived.Test.YtfikjheicjamhaaDoorG2
import Derived.Lib.BytesEntry
import Derived.Lib.IndexAny
section
/- Contracts: the check sum, of the program and of the reference. -/
set_option linter.unusedVariables false
set_option linter.unusedSimpArgs false
set_option maxRecDepth 20000
namespace Go.Proofs.YtfikjheicjamhaaDoor
open Go.Eng Go.Hx
theorem crcStep (g : Nat) (bt : TypeId) (x : Nat) (hx : x < 4294967296) (w : World) (hb : Blk w g bt [.int .u32 (x : Int)]) :
    Calls Tryd.prog 184 #[.pointer (some ⟨g, 0, none⟩)] w fun e w' => e = .returned (.tuple #[]) ∧ Fr (fun i => i = g) w w' ∧ Blk w' g bt [.int .u32 (cstep x : Nat)] := by
  have hc : w.cell? ⟨g, 0, none⟩ = some (.int .u32 (x : Int)) := hb.cell rfl
  have h3 : (0 : Int) ≤ 2197175160 * ((x % 2 : Nat) : Int) ∧ 2197175160 * ((x % 2 : Nat) : Int) < 4294967296 := by omega
  refine enter (N := 9) Tryd.func184 rfl rfl (by simp) ?_
  refine cseq <| creg <| nq (y_ld1 rfl ag120 hc) <| nq (y_bits (by simp) rfl rfl (and1 x hx)) <| nq (y_assign rfl) <| nend <| qsub (sub_cons (t := 1) rfl <| sub_cons (t := 0) rfl <| sub_nil) <| qthen <| creg <| nq (y_ld1 rfl ag120 hc) <| nq (y_shr (p := 2) rfl rfl (by decide) (by decide) (by decide)) <| nq (y_move rfl) <| nq (y_mul rfl rfl (w32 h3.1 h3.2)) <| nq (y_bits (by simp) rfl rfl (xor_step x hx)) <| ?_
  refine nx0 (x_st1 rfl rfl sz120 rfl hb (by simp) fun w1 hf1 hb1 hs1 => ?_)
  refine nend <| qsub (sub_cons (t := 1) rfl <| sub_cons (t := 0) rfl <| sub_nil) <| ?_
  exact ret0 trivial rfl ⟨rfl, hf1, hb1⟩
theorem crcSteps (x n : Nat) (hx : x < 4294967296) (hn : n ≤ 1000000) (w : World) :
    Calls Tryd.prog 169 #[.int .u32 (x : Int), .int .i64 (n : Int)] w fun e w' => e = .returned (.int .u32 (csteps n x : Nat)) ∧ Fr No w w' := by
  refine enter (N := 14) Tryd.func169 rfl rfl (by simp) ?_
  refine cseq <| creg <| ?_
  refine nx (x_box rfl fun g w1 hg hf1 hb1 => ?_)
  refine nq (y_assign rfl) <| nend <| qthen <| cseq <| creg <| nq (y_mkf rfl rfl) <| nq (y_assign rfl) <| nend <| qsub (sub_cons (t := 5) rfl <| sub_cons (t := 4) rfl <| sub_cons (t := 2) rfl <| sub_cons (t := 0) rfl <| sub_cons (t := 1) rfl <| sub_nil) <| qthen <| cseq <| cseq <| creg <| nq (y_move rfl) <| nq (y_move rfl) <| nend <| qthen <| cblock <| ?_
  refine cloop1 (fun k => n - k) (fun k => [(2, .pointer (some ⟨g, 0, none⟩)), (5, .func (.func 184) #[] #[.pointer (some ⟨g, 0, none⟩)]), (7, .int .i64 (n : Int)), (8, .int .i64 (k : Nat))]) (fun k w' => k ≤ n ∧ Fr No w w' ∧ Blk w' g 120 [.int .u32 (csteps k x : Nat)]) 0 (⟨Nat.zero_le _, hf1, hb1⟩) (sub_cons (t := 2) rfl <| sub_cons (t := 5) rfl <| sub_cons (t := 7) rfl <| sub_cons (t := 8) rfl <| sub_nil) (fun k w2 ⟨hk, hf2, hb2⟩ => ?_)
  refine cseq <| creg <| nq (y_lss rfl rfl) <| nend <| qthen <| cseq <| ?_
  refine cif rfl (fun h => ?_) (fun h => ?_)
  · refine cskip <| qthen <| cseq <| cblock <| creg <| nq (y_move rfl) <| ?_
    refine nx (x_callv rfl rfl Tryd.call184 (first := []) (cap := [_]) (crcStep g _ _ (csteps_lt hx k) _ hb2) ?_)
    rintro e_ w3 ⟨rfl, hf3, hb3⟩
    refine ⟨_, rfl, ?_⟩
    refine nend <| qsub (sub_cons (t := 9) rfl <| sub_cons (t := 2) rfl <| sub_cons (t := 5) rfl <| sub_cons (t := 7) rfl <| sub_cons (t := 8) rfl <| sub_nil) <| qblock <| qthen <| creg <| nq (y_add rfl rfl (w64 (by omega) (by omega))) <| nq (y_move rfl) <| nend <| qsub (sub_cons (t := 8) rfl <| sub_cons (t := 9) rfl <| sub_cons (t := 2) rfl <| sub_cons (t := 5) rfl <| sub_cons (t := 7) rfl <| sub_nil) <| ?_
    refine qloop1 (k + 1) (sub_cons (t := 2) rfl <| sub_cons (t := 5) rfl <| sub_cons (t := 7) rfl <| sub_cons (t := 8) rfl <| sub_nil) (⟨by omega, hf2.new hf3 (fun i hi => by omega), hb3⟩) (by omega)
  · obtain rfl : k = n := by omega
    refine cexit <| qthen_exit <| qthen_exit <| qblock_exit <| qthen <| cseq <| creg <| nq (y_ld1 rfl ag120 ((hb2.cell rfl))) <| nq (y_assign rfl) <| nend <| qsub (sub_cons (t := 4) rfl <| sub_cons (t := 9) rfl <| sub_cons (t := 2) rfl <| sub_cons (t := 5) rfl <| sub_cons (t := 7) rfl <| sub_cons (t := 8) rfl <| sub_nil) <| qthen <| cret <| ?_
    exact ret1 trivial rfl rfl ⟨rfl, hf2⟩
theorem crcMore (A : Option Addr) (n c : Nat) (l : List UInt8) (s : Nat) (hs : s < 4294967296) (w : World) (hr : Rd w 1 A n (b8s l)) (hn : n ≤ 140737488351232) :
    Calls Tryd.prog 146 #[.int .u32 (s : Int), .slice A n c] w fun e w' => e = .returned (.int .u32 (4294967295 - cmore (4294967295 - s) l : Nat)) ∧ Fr No w w' := by
  have hl : l.length = n := by have := hr.1; rw [b8s_length] at this; omega
  refine enter (N := 25) Tryd.func146 rfl rfl (by simp) ?_
  refine cseq <| creg <| nq (y_assign rfl) <| nend <| qthen <| cseq <| creg <| nq (y_move rfl) <| nq (yV (y_inv32 rfl hs) (congrArg (fun n : Nat => Value.int .u32 (n : Int)) (xor_ones hs))) <| nq (y_assign rfl) <| nend <| qsub (sub_cons (t := 5) rfl <| sub_cons (t := 4) rfl <| sub_cons (t := 0) rfl <| sub_cons (t := 1) rfl <| sub_nil) <| qthen <| cseq <| cseq <| creg <| nq (y_move rfl) <| nq (y_lenS rfl Tryd.underlying32) <| nq (y_move rfl) <| nend <| qsub (sub_cons (t := 11) rfl <| sub_cons (t := 10) rfl <| sub_cons (t := 5) rfl <| sub_cons (t := 4) rfl <| sub_cons (t := 0) rfl <| sub_cons (t := 1) rfl <| sub_nil) <| qthen <| cblock <| ?_
  refine cloop1 (fun k => n - k) (fun k => [(1, .slice A n c), (5, .int .u32 (cmore (4294967295 - s) (l.take k) : Nat)), (10, .int .i64 (n : Int)), (11, .int .i64 (k : Nat))]) (fun k w' => k ≤ n ∧ Fr No w w') 0 (⟨Nat.zero_le _, Fr.refl _ _⟩) (sub_cons (t := 1) rfl <| sub_cons (t := 5) rfl <| sub_cons (t := 10) rfl <| sub_cons (t := 11) rfl <| sub_nil) (fun k w2 ⟨hk, hf2⟩ => ?_)
  refine cseq <| creg <| nq (y_lss rfl rfl) <| nend <| qthen <| cseq <| ?_
  refine cif rfl (fun h => ?_) (fun h => ?_)
  · have hkn : k < l.length := by omega
    have hm := cmore_lt (n := 4294967295 - s) (by omega) (l.take k)
    have hbt := (l.getD k 0).toNat_lt
    have r2 := hr.fr0 hf2
    refine cskip <| qthen <| cseq <| cblock <| cseq <| creg <| nq (y_move rfl) <| nq (y_assign rfl) <| nend <| qsub (sub_cons (t := 6) rfl <| sub_cons (t := 12) rfl <| sub_cons (t := 1) rfl <| sub_cons (t := 5) rfl <| sub_cons (t := 10) rfl <| sub_cons (t := 11) rfl <| sub_nil) <| qthen <| creg <| nq (y_move rfl) <| nq (y_move rfl) <| nq (y_move rfl) <| nq (y_idxS1 rfl rfl Tryd.underlying32 sz5 r2.2.1 rfl (by omega)) <| nq (y_ld1 rfl ag5 (r2.cell (b8s_get hkn))) <| nq (y_conv rfl Tryd.underlying5 Tryd.underlying120 ((w32 (by omega) (by omega)))) <| nq (y_bits (by simp) rfl rfl (xor_byte _ hm _)) <| ?_
    refine nx (x_call rfl Tryd.call169 (crcSteps _ 8 (xor_byte_lt hm _) (by decide) _) ?_)
    rintro e_ w3 ⟨rfl, hf3⟩
    refine ⟨_, rfl, ?_⟩
    rw [← cmore_snoc, ← Go.Hx.take_snoc hkn]
    refine nq (y_assign rfl) <| nend <| qsub (sub_cons (t := 5) rfl <| sub_cons (t := 6) rfl <| sub_cons (t := 12) rfl <| sub_cons (t := 1) rfl <| sub_cons (t := 10) rfl <| sub_cons (t := 11) rfl <| sub_nil) <| qblock <| qthen <| creg <| nq (y_add rfl rfl (w64 (by omega) (by omega))) <| nq (y_move rfl) <| nend <| qsub (sub_cons (t := 11) rfl <| sub_cons (t := 5) rfl <| sub_cons (t := 6) rfl <| sub_cons (t := 12) rfl <| sub_cons (t := 1) rfl <| sub_cons (t := 10) rfl <| sub_nil) <| ?_
    refine qloop1 (k + 1) (sub_cons (t := 1) rfl <| sub_cons (t := 5) rfl <| sub_cons (t := 10) rfl <| sub_cons (t := 11) rfl <| sub_nil) (⟨by omega, hf2.trans0 hf3⟩) (by omega)
  · obtain rfl : k = n := by omega
    have hm := cmore_lt (n := 4294967295 - s) (by omega) (l.take k)
    refine cexit <| qthen_exit <| qthen_exit <| qblock_exit <| qthen <| cseq <| creg <| nq (y_move rfl) <| nq (y_inv32 rfl hm) <| nq (y_assign rfl) <| nend <| qsub (sub_cons (t := 4) rfl <| sub_cons (t := 12) rfl <| sub_cons (t := 1) rfl <| sub_cons (t := 5) rfl <| sub_cons (t := 10) rfl <| sub_cons (t := 11) rfl <| sub_nil) <| qthen <| cret <| ?_
    rw [List.take_of_length_le (by omega)] at hm ⊢
    rw [xor_ones hm]
    exact ret1 trivial rfl rfl ⟨rfl, hf2⟩
theorem crcSum_c (A : Option Addr) (n c : Nat) (l : List UInt8) (w : World) (hr : Rd w 1 A n (b8s l)) (hn : n ≤ 140737488351232) :
    Calls Tryd.prog 117 #[.slice A n c] w fun e w' => e = .returned (.int .u32 (crcSum l : Nat)) ∧ Fr No w w' := by
  refine enter (N := 5) Tryd.func117 rfl rfl (by simp) ?_
  refine cseq <| creg <| nq (y_assign rfl) <| nend <| qthen <| cseq <| creg <| nq (y_move rfl) <| ?_
  refine nx (x_call rfl Tryd.call146 (crcMore A n c l 0 (by decide) w hr hn) ?_)
  rintro e_ w1 ⟨rfl, hf1⟩
  refine ⟨_, rfl, ?_⟩
  refine nq (y_assign rfl) <| nend <| qsub (sub_cons (t := 2) rfl <| sub_cons (t := 0) rfl <| sub_nil) <| qthen <| cret <| ?_
  exact ret1 trivial rfl rfl ⟨rfl, hf1⟩
theorem clone (A : Option Addr) (n c : Nat) (l : List UInt8) (w : World) (hr : Rd w 1 A n (b8s l)) (hn : n ≤ 140737488351232) :
    Calls Tryd.prog 108 #[.slice A n c] w fun e w' => ∃ v, e = .returned v ∧ Own w' w.heap.size 5 1 v n (b8s l) ∧ Fr No w w' := by
  have hl : l.length = n := by have := hr.1; rw [b8s_length] at this; omega
  refine enter (N := 8) Tryd.func108 rfl rfl (by simp) ?_
  refine cseq <| creg <| nq (y_assign rfl) <| nend <| qthen <| cseq <| cseq <| creg <| nq (y_move rfl) <| nq (y_eqSn rfl rfl Tryd.underlying32) <| nend <| qsub (sub_cons (t := 4) rfl <| sub_cons (t := 2) rfl <| sub_cons (t := 0) rfl <| sub_nil) <| qthen <| ?_
  cases A with
  | none =>
    have h0 : n = 0 := by
      rcases Nat.eq_zero_or_pos n with h | h
      · exact h
      · exact absurd rfl (hr.2.1 h)
    subst h0
    obtain rfl : l = [] := List.eq_nil_of_length_eq_zero hl
    refine cift rfl (rfl) ?_
    refine cseq <| creg <| nq (y_assign rfl) <| nend <| qthen <| cret <| qthen_ret <| ?_
    exact ret1 trivial rfl rfl ⟨_, rfl, Own.nil _ _ _ _, Fr.refl _ _⟩
  | some a =>
    refine ciff rfl (rfl) ?_
    refine cskip <| qthen <| cseq <| creg <| ?_
    refine nx (x_bsl0 Tryd.underlying32 ti5 fun g w1 hg hf1 hb1 => ?_)
    refine nq (y_move rfl) <| ?_
    refine nx (x_app rfl rfl Tryd.underlying32 Tryd.underlying32 (by exact .inl rfl) ti5 rfl (Own.made0 hb1 hg) (Src.of_rd (hr.fr0 hf1)) b8s_oneCell (by unfold maxLen; omega) (by omega) hf1.size fun v w2 ho hf2 hv => ?_)
    refine nq (y_assign rfl) <| nend <| qsub (sub_cons (t := 2) rfl <| sub_cons (t := 4) rfl <| sub_cons (t := 0) rfl <| sub_nil) <| qthen <| cret <| ?_
    refine ret1 trivial rfl rfl ⟨v, rfl, ?_, hf1.new hf2 (fun i hi => by have : i = g := hi; omega)⟩
    simpa using ho
theorem crcPut (A : Option Addr) (n c : Nat) (l : List UInt8) (w : World) (hr : Rd w 1 A n (b8s l)) (hn : n ≤ 70368744177664) :
    Calls Tryd.prog 62 #[.slice A n c] w fun e w' => ∃ v, e = .returned v ∧ Own w' w.heap.size 5 1 v (n + 4) (b8s (putL l)) ∧ Fr No w w' := by
  have hl : l.length = n := by have := hr.1; rw [b8s_length] at this; omega
  refine enter (N := 20) Tryd.func62 rfl rfl (by simp) ?_
  refine cseq <| creg <| nq (y_assign rfl) <| nend <| qthen <| cseq <| creg <| nq (y_move rfl) <| ?_
  refine nx (x_call rfl Tryd.call117 (crcSum_c A n c l w hr (by omega)) ?_)
  rintro e_ w1 ⟨rfl, hf1⟩
  refine ⟨_, rfl, ?_⟩
  refine nq (y_assign rfl) <| nend <| qsub (sub_cons (t := 3) rfl <| sub_cons (t := 2) rfl <| sub_cons (t := 0) rfl <| sub_nil) <| qthen <| cseq <| creg <| nq (y_move rfl) <| ?_
  refine nx (x_call rfl Tryd.call108 (clone A n c l w1 (hr.fr0 hf1) (by omega)) ?_)
  rintro e_ w2 ⟨v, rfl, hv, hf2⟩
  refine ⟨_, rfl, ?_⟩
  have hlt := crcSum_lt l
  have hv := hv.wide (b := w.heap.size) hf1.size
  refine nq (y_assign rfl) <| nend <| qsub (sub_cons (t := 4) rfl <| sub_cons (t := 3) rfl <| sub_cons (t := 2) rfl <| sub_cons (t := 0) rfl <| sub_nil) <| qthen <| cseq <| cseq <| creg <| nq (y_move rfl) <| nend <| qthen <| cblock <| ?_
  refine cloop2 (fun k _ => 4 - k) (fun k v => [(3, .int .u32 (shr8 k (crcSum l) : Nat)), (4, v), (9, .int .i64 (k : Nat))]) (fun k v w' => k ≤ 4 ∧ Own w' w.heap.size 5 1 v (n + k) (b8s (l ++ lek k (crcSum l))) ∧ Fr No w w') 0 v (⟨Nat.zero_le _, by simpa [lek] using hv, hf1.trans0 hf2⟩) (sub_cons (t := 3) rfl <| sub_cons (t := 4) rfl <| sub_cons (t := 9) rfl <| sub_nil) (fun k v w3 ⟨hk, ho, hf⟩ => ?_)
  refine cseq <| creg <| nq (y_lss rfl rfl) <| nend <| qthen <| cseq <| ?_
  refine cif rfl (fun h => ?_) (fun h => ?_)
  · have hs8 := shr8_lt hlt k
    refine cskip <| qthen <| cseq <| cblock <| cseq <| creg <| nq (y_move rfl) <| nq (y_move rfl) <| nq (y_conv rfl Tryd.underlying120 Tryd.underlying5 ((u8mod _))) <| ?_
    refine nx (x_bsl Tryd.underlying32 ti5 rfl rfl rfl (by simp [Value.cells, B8]) (by decide) (by decide) fun g w4 hg hf4 hb4 => ?_)
    refine nx (x_app rfl rfl Tryd.underlying32 Tryd.underlying32 (by exact .inl rfl) ti5 rfl (ho.fr0 hf4) (Src.of_blk hb4 rfl) (b8s_one (l := [_])) (by unfold maxLen; omega) (by omega) (hf.trans0 hf4).size fun v5 w5 ho5 hf5 hv5 => ?_)
    refine nq (y_assign rfl) <| nend <| qsub (sub_cons (t := 4) rfl <| sub_cons (t := 10) rfl <| sub_cons (t := 3) rfl <| sub_cons (t := 9) rfl <| sub_nil) <| qthen <| creg <| nq (y_move rfl) <| nq (y_shr (p := 256) rfl rfl (by decide) (by decide) (by decide)) <| nq (y_assign rfl) <| nend <| qsub (sub_cons (t := 3) rfl <| sub_cons (t := 4) rfl <| sub_cons (t := 10) rfl <| sub_cons (t := 9) rfl <| sub_nil) <| qblock <| qthen <| creg <| nq (y_add rfl rfl (w64 (by omega) (by omega))) <| nq (y_move rfl) <| nend <| qsub (sub_cons (t := 9) rfl <| sub_cons (t := 3) rfl <| sub_cons (t := 4) rfl <| sub_cons (t := 10) rfl <| sub_nil) <| ?_
    refine qloop2 (k + 1) v5 (sub_cons (t := 3) rfl <| sub_cons (t := 4) rfl <| sub_cons (t := 9) rfl <| sub_nil) (⟨by omega, by rw [lek_succ, ← List.append_assoc, b8s_append]; exact ho5, (hf.trans0 hf4).new hf5 (fun i hi => (ho.from hi).1)⟩) (by omega)
  · obtain rfl : k = 4 := by omega
    refine cexit <| qthen_exit <| qthen_exit <| qblock_exit <| qthen <| cseq <| creg <| nq (y_move rfl) <| nq (y_assign rfl) <| nend <| qsub (sub_cons (t := 2) rfl <| sub_cons (t := 10) rfl <| sub_cons (t := 3) rfl <| sub_cons (t := 4) rfl <| sub_cons (t := 9) rfl <| sub_nil) <| qthen <| cret <| ?_
    rw [lek_four] at ho
    exact ret1 trivial rfl rfl ⟨v, rfl, ho, hf⟩
theorem rcrcMore (A : Option Addr) (n c : Nat) (l : List UInt8) (s : Nat) (hs : s < 4294967296) (w : World) (hr : Rd w 1 A n (b8s l)) (hn : n ≤ 140737488351232) :
    Calls Tryd.prog 66 #[.int .u32 (s : Int), .slice A n c] w fun e w' => e = .returned (.int .u32 (4294967295 - cmore (4294967295 - s) l : Nat)) ∧ w = w' := by
  have hl : l.length = n := by have := hr.1; rw [b8s_length] at this; omega
  refine enter (N := 37) Tryd.func66 rfl rfl (by simp) ?_
  refine cseq <| creg <| nq (y_assign rfl) <| nend <| qthen <| cseq <| creg <| nq (y_move rfl) <| nq (y_sub rfl rfl ((show IntKind.u32.wrap (4294967295 - (s : Int)) = ((4294967295 - s : Nat) : Int) by rw [w32 (by omega) (by omega)]; omega))) <| nq (y_assign rfl) <| nend <| qsub (sub_cons (t := 5) rfl <| sub_cons (t := 4) rfl <| sub_cons (t := 0) rfl <| sub_cons (t := 1) rfl <| sub_nil) <| qthen <| cseq <| cseq <| creg <| nq (y_assign rfl) <| nend <| qthen <| cblock <| ?_
  refine cloop1 (fun k => n - k) (fun k => [(1, .slice A n c), (5, .int .u32 (cmore (4294967295 - s) (l.take k) : Nat)), (6, .int .i64 (k : Nat))]) (fun k w' => k ≤ n ∧ w = w') 0 (⟨Nat.zero_le _, rfl⟩) (sub_cons (t := 1) rfl <| sub_cons (t := 5) rfl <| sub_cons (t := 6) rfl <| sub_nil) (fun k w2 ⟨hk, hw⟩ => ?_)
  obtain rfl := hw
  refine cseq <| cseq <| creg <| nq (y_move rfl) <| nq (y_move rfl) <| nq (y_lenS rfl Tryd.underlying32) <| nq (y_lss rfl rfl) <| nend <| qsub (sub_cons (t := 13) rfl <| sub_cons (t := 1) rfl <| sub_cons (t := 5) rfl <| sub_cons (t := 6) rfl <| sub_nil) <| qthen <| ?_
  refine cif rfl (fun h => ?_) (fun h => ?_)
  · have hkn : k < l.length := by omega
    have hm := cmore_lt (n := 4294967295 - s) (by omega) (l.take k)
    have hbt := (l.getD k 0).toNat_lt
    have hx := xor_byte_lt hm (l.getD k 0)
    refine cskip <| qthen <| cseq <| cblock <| cseq <| creg <| nq (y_move rfl) <| nq (y_move rfl) <| nq (y_move rfl) <| nq (y_idxS1 rfl rfl Tryd.underlying32 sz5 hr.2.1 rfl (by omega)) <| nq (y_ld1 rfl ag5 (hr.cell (b8s_get hkn))) <| nq (y_conv rfl Tryd.underlying5 Tryd.underlying120 ((w32 (by omega) (by omega)))) <| nq (y_bits (by simp) rfl rfl (xor_byte _ hm _)) <| nq (y_assign rfl) <| nend <| qsub (sub_cons (t := 5) rfl <| sub_cons (t := 13) rfl <| sub_cons (t := 1) rfl <| sub_cons (t := 6) rfl <| sub_nil) <| qthen <| cseq <| creg <| nq (y_assign rfl) <| nend <| qthen <| cblock <| ?_
    generalize hX : cmore (4294967295 - s) (l.take k) ^^^ (l.getD k 0).toNat = X at hx
    refine cloop1 (fun q => 8 - q) (fun q => [(1, .slice A n c), (5, .int .u32 (csteps q X : Nat)), (6, .int .i64 (k : Nat)), (7, .int .i64 (q : Nat))]) (fun q w' => q ≤ 8 ∧ w = w') 0 (⟨Nat.zero_le _, rfl⟩) (sub_cons (t := 1) rfl <| sub_cons (t := 5) rfl <| sub_cons (t := 6) rfl <| sub_cons (t := 7) rfl <| sub_nil) (fun q w3 ⟨hq, hw⟩ => ?_)
    obtain rfl := hw
    have hc := csteps_lt hx q
    refine cseq <| cseq <| creg <| nq (y_move rfl) <| nq (y_lss rfl rfl) <| nend <| qsub (sub_cons (t := 24) rfl <| sub_cons (t := 1) rfl <| sub_cons (t := 5) rfl <| sub_cons (t := 6) rfl <| sub_cons (t := 7) rfl <| sub_nil) <| qthen <| ?_
    refine cif rfl (fun h2 => ?_) (fun h2 => ?_)
    · refine cskip <| qthen <| cseq <| cblock <| cseq <| creg <| nq (y_move rfl) <| nq (y_rem rfl rfl (by omega) (by omega)) <| nq (y_eql rfl rfl) <| nend <| qsub (sub_cons (t := 29) rfl <| sub_cons (t := 24) rfl <| sub_cons (t := 1) rfl <| sub_cons (t := 5) rfl <| sub_cons (t := 6) rfl <| sub_cons (t := 7) rfl <| sub_nil) <| qthen <| ?_
      refine cif rfl (fun h3 => ?_) (fun h3 => ?_)
      · refine creg <| nq (y_move rfl) <| nq (y_quo rfl rfl (by omega) (by omega) (w32 (by omega) (by omega))) <| nq (y_bits (by simp) rfl rfl (xor_poly _ hc)) <| nq (y_assign rfl) <| nend <| qsub (sub_cons (t := 5) rfl <| sub_cons (t := 29) rfl <| sub_cons (t := 24) rfl <| sub_cons (t := 1) rfl <| sub_cons (t := 6) rfl <| sub_cons (t := 7) rfl <| sub_nil) <| qblock <| qthen <| creg <| nq (y_move rfl) <| nq (y_add rfl rfl (w64 (by omega) (by omega))) <| nq (y_assign rfl) <| nend <| qsub (sub_cons (t := 7) rfl <| sub_cons (t := 5) rfl <| sub_cons (t := 29) rfl <| sub_cons (t := 24) rfl <| sub_cons (t := 1) rfl <| sub_cons (t := 6) rfl <| sub_nil) <| ?_
        rw [show csteps q X / 2 ^^^ 2197175160 = csteps (q + 1) X by rw [csteps, cstep, if_pos (by omega)]]
        refine qloop1 (q + 1) (sub_cons (t := 1) rfl <| sub_cons (t := 5) rfl <| sub_cons (t := 6) rfl <| sub_cons (t := 7) rfl <| sub_nil) (⟨by omega, rfl⟩) (by omega)
      · refine creg <| nq (y_move rfl) <| nq (y_quo rfl rfl (by omega) (by omega) (w32 (by omega) (by omega))) <| nq (y_assign rfl) <| nend <| qsub (sub_cons (t := 5) rfl <| sub_cons (t := 29) rfl <| sub_cons (t := 24) rfl <| sub_cons (t := 1) rfl <| sub_cons (t := 6) rfl <| sub_cons (t := 7) rfl <| sub_nil) <| qblock <| qthen <| creg <| nq (y_move rfl) <| nq (y_add rfl rfl (w64 (by omega) (by omega))) <| nq (y_assign rfl) <| nend <| qsub (sub_cons (t := 7) rfl <| sub_cons (t := 5) rfl <| sub_cons (t := 29) rfl <| sub_cons (t := 24) rfl <| sub_cons (t := 1) rfl <| sub_cons (t := 6) rfl <| sub_nil) <| ?_
        rw [show (csteps q X : Int) / 2 = ((csteps (q + 1) X : Nat) : Int) by rw [csteps, cstep, if_neg (by omega)]; omega]
        refine qloop1 (q + 1) (sub_cons (t := 1) rfl <| sub_cons (t := 5) rfl <| sub_cons (t := 6) rfl <| sub_cons (t := 7) rfl <| sub_nil) (⟨by omega, rfl⟩) (by omega)
    · obtain rfl : q = 8 := by omega
      refine cexit <| qthen_exit <| qthen_exit <| qblock_exit <| qblock <| qthen <| creg <| nq (y_move rfl) <| nq (y_add rfl rfl (w64 (by omega) (by omega))) <| nq (y_assign rfl) <| nend <| qsub (sub_cons (t := 6) rfl <| sub_cons (t := 24) rfl <| sub_cons (t := 1) rfl <| sub_cons (t := 5) rfl <| sub_cons (t := 7) rfl <| sub_nil) <| ?_
      rw [← hX, ← cmore_snoc, ← Go.Hx.take_snoc hkn]
      refine qloop1 (k + 1) (sub_cons (t := 1) rfl <| sub_cons (t := 5) rfl <| sub_cons (t := 6) rfl <| sub_nil) (⟨by omega, rfl⟩) (by omega)
  · obtain rfl : k = n := by omega
    have hm := cmore_lt (n := 4294967295 - s) (by omega) (l.take k)
    refine cexit <| qthen_exit <| qthen_exit <| qblock_exit <| qthen <| cseq <| creg <| nq (y_move rfl) <| nq (y_sub rfl rfl ((show IntKind.u32.wrap (4294967295 - ((cmore (4294967295 - s) (l.take k) : Nat) : Int)) = ((4294967295 - cmore (4294967295 - s) (l.take k) : Nat) : Int) by rw [w32 (by omega) (by omega)]; omega))) <| nq (y_assign rfl) <| nend <| qsub (sub_cons (t := 4) rfl <| sub_cons (t := 13) rfl <| sub_cons (t := 1) rfl <| sub_cons (t := 5) rfl <| sub_cons (t := 6) rfl <| sub_nil) <| qthen <| cret <| ?_
    rw [List.take_of_length_le (by omega)]
    exact ret1 trivial rfl rfl ⟨rfl, rfl⟩
theorem rcrcPut (A : Option Addr) (n c : Nat) (l : List UInt8) (w : World) (hr : Rd w 1 A n (b8s l)) (hn : n ≤ 70368744177664) :
    Calls Tryd.prog 22 #[.slice A n c] w fun e w' => ∃ v, e = .returned v ∧ Own w' w.heap.size 5 1 v (n + 4) (b8s (putL l)) ∧ Fr No w w' := by
  have hl : l.length = n := by have := hr.1; rw [b8s_length] at this; omega
  refine enter (N := 24) Tryd.func22 rfl rfl (by simp) ?_
  refine cseq <| creg <| nq (y_assign rfl) <| nend <| qthen <| cseq <| creg <| nq (y_move rfl) <| ?_
  refine nx (x_call rfl Tryd.call66 (rcrcMore A n c l 0 (by decide) w hr (by omega)) ?_)
  rintro e_ w1 ⟨rfl, rfl⟩
  refine ⟨_, rfl, ?_⟩
  refine nq (y_assign rfl) <| nend <| qsub (sub_cons (t := 3) rfl <| sub_cons (t := 2) rfl <| sub_cons (t := 0) rfl <| sub_nil) <| qthen <| cseq <| creg <| nq (y_assign rfl) <| nend <| qthen <| cseq <| creg <| nq (y_move rfl) <| nq (y_move rfl) <| ?_
  refine nx (x_app rfl rfl Tryd.underlying32 Tryd.underlying32 (by exact .inl rfl) ti5 rfl (Own.nil w w.heap.size _ 1) (Src.of_rd hr) b8s_oneCell (by unfold maxLen; omega) (by omega) (Nat.le_refl _) fun v w2 hv hf2 hvv => ?_)
  have hlt := crcSum_lt l
  have f2 : Fr No w w2 := hf2.mono (fun _ _ e => e.elim)
  refine nq (y_assign rfl) <| nend <| qsub (sub_cons (t := 4) rfl <| sub_cons (t := 3) rfl <| sub_cons (t := 2) rfl <| sub_cons (t := 0) rfl <| sub_nil) <| qthen <| cseq <| cseq <| creg <| nq (y_assign rfl) <| nend <| qthen <| cblock <| ?_
  refine cloop2 (fun k _ => 4 - k) (fun k v => [(3, .int .u32 (shr8 k (crcSum l) : Nat)), (4, v), (5, .int .i64 (k : Nat))]) (fun k v w' => k ≤ 4 ∧ Own w' w.heap.size 5 1 v (n + k) (b8s (l ++ lek k (crcSum l))) ∧ Fr No w w') 0 v (⟨Nat.zero_le _, by simpa [lek] using hv, f2⟩) (sub_cons (t := 3) rfl <| sub_cons (t := 4) rfl <| sub_cons (t := 5) rfl <| sub_nil) (fun k v w3 ⟨hk, ho, hf⟩ => ?_)
  refine cseq <| cseq <| creg <| nq (y_move rfl) <| nq (y_lss rfl rfl) <| nend <| qsub (sub_cons (t := 12) rfl <| sub_cons (t := 3) rfl <| sub_cons (t := 4) rfl <| sub_cons (t := 5) rfl <| sub_nil) <| qthen <| ?_
  refine cif rfl (fun h => ?_) (fun h => ?_)
  · have hs8 := shr8_lt hlt k
    refine cskip <| qthen <| cseq <| cblock <| cseq <| creg <| nq (y_move rfl) <| nq (y_move rfl) <| nq (y_rem rfl rfl (by omega) (by omega)) <| nq (y_conv rfl Tryd.underlying120 Tryd.underlying5 ((show IntKind.u8.wrap (((shr8 k (crcSum l) : Nat) : Int) % 256) = ((UInt8.ofNat (shr8 k (crcSum l))).toNat : Int) by simp [IntKind.wrap, IntKind.signed, IntKind.bits]))) <| ?_
    refine nx (x_bsl Tryd.underlying32 ti5 rfl rfl rfl (by simp [Value.cells, B8]) (by decide) (by decide) fun g w4 hg hf4 hb4 => ?_)
    refine nx (x_app rfl rfl Tryd.underlying32 Tryd.underlying32 (by exact .inl rfl) ti5 rfl (ho.fr0 hf4) (Src.of_blk hb4 rfl) (b8s_one (l := [_])) (by unfold maxLen; omega) (by omega) (hf.trans0 hf4).size fun v5 w5 ho5 hf5 hv5 => ?_)
    refine nq (y_assign rfl) <| nend <| qsub (sub_cons (t := 4) rfl <| sub_cons (t := 12) rfl <| sub_cons (t := 3) rfl <| sub_cons (t := 5) rfl <| sub_nil) <| qthen <| creg <| nq (y_move rfl) <| nq (y_quo rfl rfl (by omega) (by omega) (w32 (by omega) (by omega))) <| nq (y_assign rfl) <| nend <| qsub (sub_cons (t := 3) rfl <| sub_cons (t := 4) rfl <| sub_cons (t := 12) rfl <| sub_cons (t := 5) rfl <| sub_nil) <| qblock <| qthen <| creg <| nq (y_move rfl) <| nq (y_add rfl rfl (w64 (by omega) (by omega))) <| nq (y_assign rfl) <| nend <| qsub (sub_cons (t := 5) rfl <| sub_cons (t := 3) rfl <| sub_cons (t := 4) rfl <| sub_cons (t := 12) rfl <| sub_nil) <| ?_
    refine qloop2 (k + 1) v5 (sub_cons (t := 3) rfl <| sub_cons (t := 4) rfl <| sub_cons (t := 5) rfl <| sub_nil) (⟨by omega, by rw [lek_succ, ← List.append_assoc, b8s_append]; exact ho5, (hf.trans0 hf4).new hf5 (fun i hi => (ho.from hi).1)⟩) (by omega)
  · obtain rfl : k = 4 := by omega
    refine cexit <| qthen_exit <| qthen_exit <| qblock_exit <| qthen <| cseq <| creg <| nq (y_move rfl) <| nq (y_assign rfl) <| nend <| qsub (sub_cons (t := 2) rfl <| sub_cons (t := 12) rfl <| sub_cons (t := 3) rfl <| sub_cons (t := 4) rfl <| sub_cons (t := 5) rfl <| sub_nil) <| qthen <| cret <| ?_
    rw [lek_four] at ho
    exact ret1 trivial rfl rfl ⟨v, rfl, ho, hf⟩
end Go.Proofs.YtfikjheicjamhaaDoor
end
section
/- Contracts: bytes.Equal, crc.Take, the reference's Take, strings.CutPrefix. -/
set_option linter.unusedVariables false
set_option linter.unusedSimpArgs false
set_option maxRecDepth 20000
namespace Go.Proofs.YtfikjheicjamhaaDoor
open Go.Eng Go.Hx
theorem bytesEqual (A : Option Addr) (n c : Nat) (l : List UInt8) (A' : Option Addr) (n' c' : Nat) (l' : List UInt8) (w : World) (hr : Rd w 1 A n (b8s l)) (hr' : Rd w 1 A' n' (b8s l')) :
    Calls Tryd.prog 115 #[.slice A n c, .slice A' n' c'] w fun e w' => e = .returned (.bool (decide (l = l'))) ∧ w = w' := by
  refine enter (N := 10) Tryd.func115 rfl rfl (by simp) ?_
  refine cseq <| creg <| nq (y_assign rfl) <| nend <| qthen <| cseq <| creg <| nq (y_move rfl) <| nq (y_b2s rfl Tryd.underlying32 Tryd.underlying5 Tryd.underlying9 hr) <| nq (y_move rfl) <| nq (y_b2s rfl Tryd.underlying32 Tryd.underlying5 Tryd.underlying9 hr') <| nq (y_seq rfl rfl) <| nq (y_assign rfl) <| nend <| qsub (sub_cons (t := 4) rfl <| sub_cons (t := 0) rfl <| sub_cons (t := 1) rfl <| sub_nil) <| qthen <| cret <| ?_
  refine ret1 trivial rfl rfl ⟨?_, rfl⟩
  simp only [strOf_inj]
/-- what Take tells: the body, or the error's number -/
def takeL (l : List UInt8) : Option (List UInt8) := if 4 ≤ l.length ∧ putL (l.take (l.length - 4)) = l then some (l.take (l.length - 4)) else none
def takeE (l : List UInt8) : Int := if l.length < 4 then 2 else if putL (l.take (l.length - 4)) = l then 0 else 7
theorem Rd.takeB {w : World} {A : Option Addr} {n : Nat} {l : List UInt8} (h : Rd w 1 A n (b8s l)) {k : Nat} (hk : k ≤ n) : Rd w 1 A k (b8s (l.take k)) := by
  have := Rd.take h hk
  rwa [Nat.mul_one, ← b8s_take] at this
theorem crcTake (A : Option Addr) (n c : Nat) (l : List UInt8) (w : World) (hr : Rd w 1 A n (b8s l)) (hc : n ≤ c) (hn : n ≤ 70368744177664) :
    Calls Tryd.prog 67 #[.slice A n c] w fun e w' => (∃ v, e = .returned (.tuple #[v, .int .i64 (takeE l)]) ∧ (takeE l = 0 → Own w' w.heap.size 5 1 v (n - 4) (b8s (l.take (n - 4))))) ∧ Fr No w w' := by
  have hl : l.length = n := by have := hr.1; rw [b8s_length] at this; omega
  refine enter (N := 21) Tryd.func67 rfl rfl (by simp) ?_
  refine cseq <| creg <| nq (y_assign rfl) <| nq (y_assign rfl) <| nend <| qthen <| cseq <| creg <| nq (y_move rfl) <| nq (y_lenS rfl Tryd.underlying32) <| nq (y_sub rfl rfl (w64 (by omega) (by omega))) <| nq (y_assign rfl) <| nend <| qsub (sub_cons (t := 4) rfl <| sub_cons (t := 3) rfl <| sub_cons (t := 2) rfl <| sub_cons (t := 0) rfl <| sub_nil) <| qthen <| cseq <| cseq <| creg <| nq (y_move rfl) <| nq (y_lss rfl rfl) <| nend <| qsub (sub_cons (t := 9) rfl <| sub_cons (t := 4) rfl <| sub_cons (t := 3) rfl <| sub_cons (t := 2) rfl <| sub_cons (t := 0) rfl <| sub_nil) <| qthen <| ?_
  refine cif rfl (fun h => ?_) (fun h => ?_)
  · refine cseq <| creg <| nq (y_assign rfl) <| nq (y_assign rfl) <| nend <| qthen <| cret <| qthen_ret <| ?_
    have e : takeE l = 2 := by rw [takeE, if_pos (by omega)]
    rw [e]
    exact ret2 trivial rfl rfl rfl ⟨⟨_, rfl, fun h => absurd h (by decide)⟩, Fr.refl _ _⟩
  · have rt := Rd.takeB hr (show n - 4 ≤ n by omega)
    refine cskip <| qthen <| cseq <| cseq <| creg <| nq (y_move rfl) <| nq (y_move rfl) <| nq (y_slTo rfl rfl Tryd.underlying32 sz5 (show ((n - 4 : Nat) : Int) = (n : Int) - 4 by omega) ((by omega))) <| ?_
    refine nx (x_call rfl Tryd.call62 (crcPut A (n - 4) c _ w rt (by omega)) ?_)
    rintro e_ w1 ⟨v1, rfl, ho1, hf1⟩
    refine ⟨_, rfl, ?_⟩
    obtain ⟨A1, c1, rfl, hc1⟩ := ho1.slice
    refine nq (y_move rfl) <| ?_
    refine nx (x_call rfl Tryd.call115 (bytesEqual _ _ _ _ _ _ _ _ _ (Own.rd ho1).2.2 (hr.fr0 hf1)) ?_)
    rintro e_ w2 ⟨rfl, rfl⟩
    refine ⟨_, rfl, ?_⟩
    refine nq ((y_notp rfl)) <| nend <| qsub (sub_cons (t := 16) rfl <| sub_cons (t := 9) rfl <| sub_cons (t := 4) rfl <| sub_cons (t := 3) rfl <| sub_cons (t := 2) rfl <| sub_cons (t := 0) rfl <| sub_nil) <| qthen <| ?_
    refine cif rfl (fun h2 => ?_) (fun h2 => ?_)
    · refine cseq <| creg <| nq (y_assign rfl) <| nq (y_assign rfl) <| nend <| qthen <| cret <| qthen_ret <| ?_
      have e : takeE l = 7 := by rw [takeE, if_neg (by omega), hl, if_neg h2]
      rw [e]
      exact ret2 trivial rfl rfl rfl ⟨⟨_, rfl, fun h => absurd h (by decide)⟩, hf1⟩
    · have h3 := Decidable.not_not.1 h2
      have e : takeE l = 0 := by rw [takeE, if_neg (by omega), hl, if_pos h3]
      refine cskip <| qthen <| cseq <| creg <| nq (y_move rfl) <| nq (y_move rfl) <| nq (y_slTo rfl rfl Tryd.underlying32 sz5 (show ((n - 4 : Nat) : Int) = (n : Int) - 4 by omega) ((by omega))) <| ?_
      refine nx (x_call rfl Tryd.call108 (clone A (n - 4) c _ _ (rt.fr0 hf1) (by omega)) ?_)
      rintro e_ w3 ⟨v3, rfl, ho3, hf3⟩
      refine ⟨_, rfl, ?_⟩
      refine nq (y_assign rfl) <| nq (y_assign rfl) <| nend <| qsub (sub_cons (t := 3) rfl <| sub_cons (t := 2) rfl <| sub_cons (t := 16) rfl <| sub_cons (t := 9) rfl <| sub_cons (t := 4) rfl <| sub_cons (t := 0) rfl <| sub_nil) <| qthen <| cret <| ?_
      rw [e]
      exact ret2 trivial rfl rfl rfl ⟨⟨_, rfl, fun _ => ho3.wide hf1.size⟩, hf1.trans0 hf3⟩
theorem rTake (A : Option Addr) (n c : Nat) (l : List UInt8) (w : World) (hr : Rd w 1 A n (b8s l)) (hc : n ≤ c) (hn : n ≤ 70368744177664) :
    Calls Tryd.prog 70 #[.slice A n c] w fun e w' => (∃ v, e = .returned (.tuple #[v, .int .i64 (takeE l)]) ∧ (takeE l = 0 → v = .slice A (n - 4) c ∧ Rd w 1 A (n - 4) (b8s (l.take (n - 4))))) ∧ Fr No w w' := by
  have hl : l.length = n := by have := hr.1; rw [b8s_length] at this; omega
  refine enter (N := 22) Tryd.func70 rfl rfl (by simp) ?_
  refine cseq <| creg <| nq (y_assign rfl) <| nq (y_assign rfl) <| nend <| qthen <| cseq <| cseq <| creg <| nq (y_move rfl) <| nq (y_lenS rfl Tryd.underlying32) <| nq (y_lss rfl rfl) <| nend <| qsub (sub_cons (t := 6) rfl <| sub_cons (t := 3) rfl <| sub_cons (t := 2) rfl <| sub_cons (t := 0) rfl <| sub_nil) <| qthen <| ?_
  refine cif rfl (fun h => ?_) (fun h => ?_)
  · refine cseq <| creg <| nq (y_assign rfl) <| nq (y_assign rfl) <| nend <| qthen <| cret <| qthen_ret <| ?_
    have e : takeE l = 2 := by rw [takeE, if_pos (by omega)]
    rw [e]
    exact ret2 trivial rfl rfl rfl ⟨⟨_, rfl, fun h => absurd h (by decide)⟩, Fr.refl _ _⟩
  · have rt := Rd.takeB hr (show n - 4 ≤ n by omega)
    refine cskip <| qthen <| cseq <| cseq <| ?_
    refine cdrw [(0, false), (1, false), (2, false), (3, false), (4, false), (7, false), (8, false), (5, true), (6, true), (9, false)] (by kernel_rfl) (by kernel_rfl) rfl (fun w' => Fr No w w') (Fr.drew _) (fun w1 hf1 hS1 => ?_)
    refine sq (fun w_ hS_ => y_move rfl) <| sq (fun w_ hS_ => y_move rfl) <| sq (fun w_ hS_ => y_lenS rfl Tryd.underlying32) <| sq (fun w_ hS_ => y_sub rfl rfl (w64 (by omega) (by omega))) <| sq (fun w_ hS_ => y_slTo rfl rfl Tryd.underlying32 sz5 (show ((n - 4 : Nat) : Int) = (n : Int) - 4 by omega) ((by omega))) <| sq (fun w_ hS_ => y_move rfl) <| sq (fun w_ hS_ => y_b2s rfl Tryd.underlying32 Tryd.underlying5 Tryd.underlying9 (hr.fr0 hS_)) <| ?_
    refine sx (x_call rfl Tryd.call22 (rcrcPut A (n - 4) c _ _ (rt.fr0 hS1) (by omega)) ?_)
    rintro e_ w2 ⟨v2, rfl, ho2, hf2⟩
    refine ⟨_, rfl, ?_⟩
    refine ⟨hS1.trans0 hf2, ?_⟩
    have hS2 := hS1.trans0 hf2
    obtain ⟨A2, c2, rfl, hc2⟩ := ho2.slice
    refine sy (hS2) (y_b2s rfl Tryd.underlying32 Tryd.underlying5 Tryd.underlying9 ((Own.rd ho2).2.2)) <| sq (fun w_ hS_ => y_sne rfl rfl) <| send <| qsub (sub_cons (t := 16) rfl <| sub_cons (t := 6) rfl <| sub_cons (t := 3) rfl <| sub_cons (t := 2) rfl <| sub_cons (t := 0) rfl <| sub_nil) <| qthen <| ?_
    refine cif rfl (fun h2 => ?_) (fun h2 => ?_)
    · have h2 : ¬ putL (l.take (n - 4)) = l := fun e => h2 (by rw [e])
      refine cseq <| creg <| nq (y_assign rfl) <| nq (y_assign rfl) <| nend <| qthen <| cret <| qthen_ret <| ?_
      have e : takeE l = 7 := by rw [takeE, if_neg (by omega), hl, if_neg h2]
      rw [e]
      exact ret2 trivial rfl rfl rfl ⟨⟨_, rfl, fun h => absurd h (by decide)⟩, hS2⟩
    · have h3 := strOf_inj.1 (Decidable.not_not.1 h2)
      have e : takeE l = 0 := by rw [takeE, if_neg (by omega), hl, if_pos h3]
      refine cskip <| qthen <| cseq <| creg <| nq (y_move rfl) <| nq (y_move rfl) <| nq (y_lenS rfl Tryd.underlying32) <| nq (y_sub rfl rfl (w64 (by omega) (by omega))) <| nq (y_slTo rfl rfl Tryd.underlying32 sz5 (show ((n - 4 : Nat) : Int) = (n : Int) - 4 by omega) ((by omega))) <| nq (y_assign rfl) <| nq (y_assign rfl) <| nend <| qsub (sub_cons (t := 3) rfl <| sub_cons (t := 2) rfl <| sub_cons (t := 16) rfl <| sub_cons (t := 6) rfl <| sub_cons (t := 0) rfl <| sub_nil) <| qthen <| cret <| ?_
      rw [e]
      exact ret2 trivial rfl rfl rfl ⟨⟨_, rfl, fun _ => ⟨rfl, rt⟩⟩, hS2⟩
theorem hasPrefix (s p : List UInt8) (w : World) (hs : s.length ≤ 70368744177664) (hp : p.length ≤ 70368744177664) :
    Calls Tryd.prog 147 #[.string (strOf s), .string (strOf p)] w fun e w' => e = .returned (.bool (decide (s.take p.length = p))) ∧ w = w' := by
  have h1 := strOf_size s
  have h2 := strOf_size p
  refine enter (N := 18) Tryd.func147 rfl rfl (by simp) ?_
  refine cseq <| creg <| nq (y_assign rfl) <| nend <| qthen <| cseq <| creg <| nq (y_move rfl) <| nq (y_lenStr rfl Tryd.underlying9) <| nq (y_move rfl) <| nq (y_lenStr rfl Tryd.underlying9) <| nq (y_geq rfl rfl) <| nq (y_move rfl) <| ?_
  refine nsplit 10 rfl (fun h => ?_) (fun h => ?_)
  · refine ng rfl rfl rfl (y_move rfl) <| ng rfl rfl rfl (y_move rfl) <| ng rfl rfl rfl (y_lenStr rfl Tryd.underlying9) <| ng rfl rfl rfl (y_strTo rfl rfl Tryd.underlying9 (show ((p.length : Nat) : Int) = _ by omega) ((by rw [bytesOf_strOf]; omega))) <| ng rfl rfl rfl (y_move rfl) <| ng rfl rfl rfl (y_seq rfl rfl) <| nq (y_pickT rfl rfl) <| nq (y_assign rfl) <| nend <| qsub (sub_cons (t := 4) rfl <| sub_cons (t := 0) rfl <| sub_cons (t := 1) rfl <| sub_nil) <| qthen <| cret <| ?_
    refine ret1 trivial rfl rfl ⟨?_, rfl⟩
    rw [bytesOf_strOf]
    simp only [strOf_inj]
  · have hne : ¬ s.take p.length = p := fun e => by
      have := congrArg List.length e
      rw [List.length_take] at this
      omega
    refine nskip rfl rfl rfl (by decide) <| nskip rfl rfl rfl (by decide) <| nskip rfl rfl rfl (by decide) <| nskip rfl rfl rfl (by decide) <| nskip rfl rfl rfl (by decide) <| nskip rfl rfl rfl (by decide) <| nq (y_pickF rfl rfl) <| nq (y_assign rfl) <| nend <| qsub (sub_cons (t := 4) rfl <| sub_cons (t := 0) rfl <| sub_cons (t := 1) rfl <| sub_nil) <| qthen <| cret <| ?_
    refine ret1 trivial rfl rfl ⟨?_, rfl⟩
    rw [decide_eq_false hne]
theorem cutPrefix1 (s p : List UInt8) (w : World) (hs : s.length ≤ 70368744177664) (hp : p.length ≤ 70368744177664) :
    Calls Tryd.prog 119 #[.string (strOf s), .string (strOf p)] w fun e w' => e = .returned (.tuple #[.string (strOf (if s.take p.length = p then s.drop p.length else s)), .bool (decide (s.take p.length = p))]) ∧ w = w' := by
  have h1 := strOf_size s
  have h2 := strOf_size p
  refine enter (N := 15) Tryd.func119 rfl rfl (by simp) ?_
  refine cseq <| creg <| nq (y_assign rfl) <| nq (y_assign rfl) <| nend <| qthen <| cseq <| cseq <| creg <| nq (y_move rfl) <| nq (y_move rfl) <| ?_
  refine nx (x_call rfl Tryd.call147 (hasPrefix s p w hs hp) ?_)
  rintro e_ w1 ⟨rfl, rfl⟩
  refine ⟨_, rfl, ?_⟩
  refine nq ((y_notp rfl)) <| nend <| qsub (sub_cons (t := 9) rfl <| sub_cons (t := 5) rfl <| sub_cons (t := 4) rfl <| sub_cons (t := 0) rfl <| sub_cons (t := 1) rfl <| sub_nil) <| qthen <| ?_
  refine cif rfl (fun h => ?_) (fun h => ?_)
  · refine cseq <| creg <| nq (y_move rfl) <| nq (y_assign rfl) <| nq (y_assign rfl) <| nend <| qsub (sub_cons (t := 5) rfl <| sub_cons (t := 4) rfl <| sub_cons (t := 9) rfl <| sub_cons (t := 0) rfl <| sub_cons (t := 1) rfl <| sub_nil) <| qthen <| cret <| qthen_ret <| ?_
    refine ret2 trivial rfl rfl rfl ⟨?_, rfl⟩
    rw [if_neg h, decide_eq_false h]
  · have h3 := Decidable.not_not.1 h
    have h4 : p.length ≤ s.length := by have := congrArg List.length h3; rw [List.length_take] at this; omega
    refine cskip <| qthen <| cseq <| creg <| nq (y_move rfl) <| nq (y_move rfl) <| nq (y_lenStr rfl Tryd.underlying9) <| nq (y_strFrom rfl rfl Tryd.underlying9 (show ((p.length : Nat) : Int) = _ by omega) ((by rw [bytesOf_strOf]; omega))) <| nq (y_assign rfl) <| nq (y_assign rfl) <| nend <| qsub (sub_cons (t := 5) rfl <| sub_cons (t := 4) rfl <| sub_cons (t := 9) rfl <| sub_cons (t := 0) rfl <| sub_cons (t := 1) rfl <| sub_nil) <| qthen <| cret <| ?_
    refine ret2 trivial rfl rfl rfl ⟨?_, rfl⟩
    rw [if_pos h3, decide_eq_true h3, bytesOf_strOf]
theorem cutPrefix (s p : List UInt8) (w : World) (hs : s.length ≤ 70368744177664) (hp : p.length ≤ 70368744177664) :
    Calls Tryd.prog 68 #[.string (strOf s), .string (strOf p)] w fun e w' => e = .returned (.tuple #[.string (strOf (if s.take p.length = p then s.drop p.length else s)), .bool (decide (s.take p.length = p))]) ∧ w = w' := by
  refine enter (N := 11) Tryd.func68 rfl rfl (by simp) ?_
  refine cseq <| creg <| nq (y_assign rfl) <| nq (y_assign rfl) <| nend <| qthen <| cseq <| creg <| nq (y_move rfl) <| nq (y_move rfl) <| ?_
  refine nx (x_call rfl Tryd.call119 (cutPrefix1 s p w hs hp) ?_)
  rintro e_ w1 ⟨rfl, rfl⟩
  refine ⟨_, rfl, ?_⟩
  refine nq (y_extract rfl rfl) <| nq (y_extract rfl rfl) <| nq (y_assign rfl) <| nq (y_assign rfl) <| nend <| qsub (sub_cons (t := 5) rfl <| sub_cons (t := 4) rfl <| sub_cons (t := 0) rfl <| sub_cons (t := 1) rfl <| sub_nil) <| qthen <| cret <| ?_
  exact ret2 trivial rfl rfl rfl ⟨rfl, rfl⟩
end Go.Proofs.YtfikjheicjamhaaDoor
end
section
/- Contracts over things in memory, from contracts over worlds: bytes, sums, digests. -/
set_option linter.unusedVariables false
set_option linter.unusedSimpArgs false
set_option maxRecDepth 20000
namespace Go.Proofs.YtfikjheicjamhaaDoor
open Go.Eng Go.Hx
theorem bytesEqualC {A A1 : Option Addr} {n c n1 c1 : Nat} {l l1 : List UInt8} : Con Tryd.prog 115 [.slice A n c, .slice A1 n1 c1] [] [RRd 1 A n (b8s l), RRd 1 A1 n1 (b8s l1)] (fun v_ X_ S_ => v_ = (.bool (decide (l = l1))) ∧ X_ = [] ∧ S_ = []) := by
  exact con_pure fun m => Calls.mono (bytesEqual A n c l A1 n1 c1 l1 _ (m.rd 0 rfl) (m.rd 1 rfl)) (fun e w' ⟨h, hw⟩ => ⟨_, h, ⟨rfl, rfl, rfl⟩, hw ▸ Fr.refl _ _⟩)
theorem cloneC {A : Option Addr} {n c : Nat} {l : List UInt8} (hn : n ≤ 140737488351232) : Con Tryd.prog 108 [.slice A n c] [] [RRd 1 A n (b8s l)] (fun v_ X_ S_ => ∃ v, v_ = v ∧ X_ = [ROwn 5 1 v n (b8s l)] ∧ S_ = []) := by
  exact con_own1 fun m => Calls.mono (clone A n c l _ (m.rd 0 rfl) hn) (fun e w' ⟨v, h, ho, hf⟩ => ⟨v, v, _, _, _, _, h, ⟨v, rfl, rfl, rfl⟩, ho, hf⟩)
theorem crcPutC {A : Option Addr} {n c : Nat} {l : List UInt8} (hn : n ≤ 70368744177664) : Con Tryd.prog 62 [.slice A n c] [] [RRd 1 A n (b8s l)] (fun v_ X_ S_ => ∃ v, v_ = v ∧ X_ = [ROwn 5 1 v (n + 4) (b8s (putL l))] ∧ S_ = []) := by
  exact con_own1 fun m => Calls.mono (crcPut A n c l _ (m.rd 0 rfl) hn) (fun e w' ⟨v, h, ho, hf⟩ => ⟨v, v, _, _, _, _, h, ⟨v, rfl, rfl, rfl⟩, ho, hf⟩)
def takeB (l : List UInt8) : List UInt8 := if takeE l = 0 then l.take (l.length - 4) else []
theorem takeB_le (l : List UInt8) : (takeB l).length ≤ l.length := by unfold takeB; split <;> simp
theorem takeB_len {l : List UInt8} (h : takeE l = 0) : (takeB l).length = l.length - 4 := by rw [takeB, if_pos h, List.length_take]; omega
theorem takeE_2 {l : List UInt8} (h : l.length < 4) : takeE l = 2 ∧ takeB l = [] := by rw [takeB, takeE, if_pos h]; exact ⟨rfl, rfl⟩
theorem takeE_7 {l : List UInt8} (h : ¬ l.length < 4) (h2 : ¬ putL (l.take (l.length - 4)) = l) : takeE l = 7 ∧ takeB l = [] := by rw [takeB, takeE, if_neg h, if_neg h2]; exact ⟨rfl, rfl⟩
theorem takeE_0 {l : List UInt8} (h : ¬ l.length < 4) (h2 : putL (l.take (l.length - 4)) = l) : takeE l = 0 ∧ takeB l = l.take (l.length - 4) := by rw [takeB, takeE, if_neg h, if_pos h2]; exact ⟨rfl, rfl⟩
theorem crcTakeC {A : Option Addr} {n c : Nat} {l : List UInt8} (hc : n ≤ c) (hn : n ≤ 70368744177664) : Con Tryd.prog 67 [.slice A n c] [] [RRd 1 A n (b8s l)] (fun v_ X_ S_ => ∃ v, v_ = (.tuple #[v, .int .i64 (takeE l)]) ∧ X_ = [ROwn 5 1 v (takeB l).length (b8s (takeB l))] ∧ S_ = []) := by
  refine henter (N := 21) Tryd.func67 rfl rfl (by simp) fun b => ?_
  refine hfactC (fun m => rdB (m.rd 0 rfl)) ?_
  rintro ⟨hl_r, hA_r⟩
  refine hseq <| hreg <| hy (fun _ => y_assign rfl) <| hy (fun _ => y_assign rfl) <| hend <| hthen <| hseq <| hreg <| hy (fun _ => y_move rfl) <| hy (fun _ => y_lenS rfl Tryd.underlying32) <| hy (fun _ => y_sub rfl rfl (w64 (by omega) (by omega))) <| hy (fun _ => y_assign rfl) <| hend <| hsub (ρ' := [(4, _), (3, _), (2, _), (0, _)]) ⟨rfl, rfl, rfl, rfl, trivial⟩ <| hthen <| hseq <| hseq <| hreg <| hy (fun _ => y_move rfl) <| hy (fun _ => y_lss rfl rfl) <| hend <| hsub (ρ' := [(9, _), (4, _), (3, _), (2, _), (0, _)]) ⟨rfl, rfl, rfl, rfl, rfl, trivial⟩ <| hthen <| ?_
  refine hif rfl (fun h => ?_) (fun h => ?_)
  · obtain ⟨e1, e2⟩ := takeE_2 (show l.length < 4 by omega)
    rw [e1, e2]
    refine hseq <| hreg <| hy (fun _ => y_assign rfl) <| hy (fun _ => y_assign rfl) <| hend <| hthen <| hret <| hthen_ret <| ?_
    refine hmemQ (fun w m => m.addX (r' := ROwn 5 1 (.slice none 0 0) 0 []) (.refl _ _) (Own.nil _ _ _ _) (fun k hk => hk.elim)) ?_
    exact hret2 trivial rfl rfl rfl [0] rfl [] rfl ⟨_, rfl, rfl, rfl⟩
  · refine hmemC (fun w m => m.asV 0 rfl (View.take (k := n - 4) (by omega))) ?_
    refine hfactC (fun m => rdB (m.rd 0 rfl)) ?_
    rintro ⟨hl_r2, hA_r2⟩
    refine hcskip <| hthen <| hseq <| hseq <| hreg <| hy (fun _ => y_move rfl) <| hy (fun _ => y_move rfl) <| hy (fun _ => y_slTo rfl rfl Tryd.underlying32 sz5 (show ((n - 4 : Nat) : Int) = (n : Int) - 4 by omega) (by omega)) <| ?_
    refine hx (xh_call rfl Tryd.call62 (crcPutC (by omega)) [] rfl [0] rfl ?_)
    rintro _ _ _ ⟨v, rfl, rfl, rfl⟩
    refine hfactL (fun m => (m.own 0 rfl).slice) ?_
    rintro ⟨A_x, c_x, rfl, hc_x⟩
    refine hfactL (fun m => (m.ord 0 rfl).2.1) fun hA_x => ?_
    refine hy (fun _ => y_move rfl) <| ?_
    refine hx (xh_calll rfl Tryd.call115 (bytesEqualC) [] rfl (.x 0 rfl .own (.s 1 rfl .nil)) ?_)
    rintro _ _ _ ⟨rfl, rfl, rfl⟩
    refine ⟨rfl, ?_⟩
    refine hy (fun _ => (y_notp rfl)) <| hend <| hsub (ρ' := [(16, _), (9, _), (4, _), (3, _), (2, _), (0, _)]) ⟨rfl, rfl, rfl, rfl, rfl, rfl, trivial⟩ <| hmemQ (X' := [_]) (S' := [_, _]) (fun _ m => m) <| hthen <| ?_
    refine hif rfl (fun h2 => ?_) (fun h2 => ?_)
    · obtain ⟨e1, e2⟩ := takeE_7 (l := l) (by omega) (by rw [hl_r]; exact h2)
      rw [e1, e2]
      refine hseq <| hreg <| hy (fun _ => y_assign rfl) <| hy (fun _ => y_assign rfl) <| hend <| hthen <| hret <| hthen_ret <| ?_
      refine hmemQ (fun w m => m.addX (r' := ROwn 5 1 (.slice none 0 0) 0 []) (.refl _ _) (Own.nil _ _ _ _) (fun k hk => hk.elim)) ?_
      exact hret2 trivial rfl rfl rfl [0] rfl [] rfl ⟨_, rfl, rfl, rfl⟩
    · obtain ⟨e1, e2⟩ := takeE_0 (l := l) (by omega) (by rw [hl_r]; exact Decidable.not_not.1 h2)
      rw [e1, e2, hl_r]
      refine hcskip <| hthen <| hseq <| hreg <| hy (fun _ => y_move rfl) <| hy (fun _ => y_move rfl) <| hy (fun _ => y_slTo rfl rfl Tryd.underlying32 sz5 (show ((n - 4 : Nat) : Int) = (n : Int) - 4 by omega) (by omega)) <| ?_
      refine hx (xh_call rfl Tryd.call108 (cloneC (by omega)) [] rfl [0] rfl ?_)
      rintro _ _ _ ⟨v2, rfl, rfl, rfl⟩
      refine hfactL (fun m => (m.own 0 rfl).slice) ?_
      rintro ⟨A_x2, c_x2, rfl, hc_x2⟩
      refine hfactL (fun m => (m.ord 0 rfl).2.1) fun hA_x2 => ?_
      refine hy (fun _ => y_assign rfl) <| hy (fun _ => y_assign rfl) <| hend <| hsub (ρ' := [(3, _), (2, _), (16, _), (9, _), (4, _), (0, _)]) ⟨rfl, rfl, rfl, rfl, rfl, rfl, trivial⟩ <| hmemQ (X' := [_, _]) (S' := [_, _]) (fun _ m => m) <| hthen <| hret <| ?_
      exact hret2 trivial rfl rfl rfl [0] rfl [] rfl ⟨_, rfl, (by rw [List.length_take, hl_r, Nat.min_eq_left (by omega)]), rfl⟩
end Go.Proofs.YtfikjheicjamhaaDoor
end
section
/- Contracts of small functions on bytes and digests (as in my Hexa texts). -/
set_option linter.unusedVariables false
set_option linter.unusedSimpArgs false
set_option maxRecDepth 20000
namespace Go.Proofs.YtfikjheicjamhaaDoor
open Go.Eng Go.Hx
theorem few (A : Option Addr) (n c : Nat) (l : List UInt8) (m : Nat) (w : World) (hr : Rd w 1 A n (b8s l)) (hc : n ≤ c) (hn : n ≤ 140737488351232) :
    Calls Tryd.prog 21 #[.slice A n c, .int .i64 (m : Int)] w fun e w' => ∃ v, e = .returned v ∧ Own w' w.heap.size 5 1 v (min n m) (b8s (l.take m)) ∧ Fr No w w' := by
  have hl : l.length = n := by have := hr.1; rw [b8s_length] at this; omega
  have hrd : Rd w 1 A (min n m) (b8s (l.take m)) := by
    have := hr.take (k := min n m) (by omega)
    have e : (b8s l).take (min n m * 1) = b8s (l.take m) := by
      rw [b8s, b8s, ← List.map_take, Nat.mul_one]
      congr 1
      by_cases h : m ≤ n
      · congr 1; omega
      · rw [List.take_of_length_le (by omega), List.take_of_length_le (by omega)]
    rw [e] at this
    exact this
  refine enter (N := 14) Tryd.func21 rfl rfl (by simp) ?_
  refine cseq <| creg <| nq (y_assign rfl) <| nend <| qthen <| cseq <| creg <| nq (y_assign rfl) <| nend <| qthen <| cseq <| creg <| nq (y_move rfl) <| nq (y_move rfl) <| nq (y_move rfl) <| nq (y_lenS rfl Tryd.underlying32) <| nq (y_move rfl) <| nq (y_min rfl rfl) <| nq (y_slTo rfl rfl Tryd.underlying32 sz5 (show ((min n m : Nat) : Int) = _ by omega) ((by omega))) <| ?_
  refine nx (x_app rfl rfl Tryd.underlying32 Tryd.underlying32 (by exact .inl rfl) ti5 rfl (Own.nil w w.heap.size _ 1) (Src.of_rd hrd) b8s_one (by unfold maxLen; omega) (by omega) (by omega) fun v w1 ho hf hv => ?_)
  refine nq (y_assign rfl) <| nend <| qsub (sub_cons (t := 4) rfl <| sub_cons (t := 5) rfl <| sub_cons (t := 0) rfl <| sub_cons (t := 1) rfl <| sub_nil) <| qthen <| cret <| ?_
  refine ret1 trivial rfl rfl ⟨v, rfl, ?_, hf.mono (fun _ _ e => e.elim)⟩
  simpa using ho
def around (n m : Int) : Int := (if n < 0 then -(n + 1) else n) % m
theorem around_lt (n m : Int) (hm : 0 < m) : 0 ≤ around n m ∧ around n m < m := ⟨Int.emod_nonneg _ (by omega), Int.emod_lt_of_pos _ hm⟩
theorem around_c (n m : Int) (w : World) (h1 : -9223372036854775808 ≤ n) (h2 : n ≤ 9223372036854775807) (hm : 0 < m) :
    Calls Tryd.prog 14 #[.int .i64 n, .int .i64 m] w fun e w' => e = .returned (.int .i64 (around n m)) ∧ w = w' := by
  refine enter (N := 13) Tryd.func14 rfl rfl (by simp) ?_
  refine cseq <| creg <| nq (y_assign rfl) <| nend <| qthen <| cseq <| cseq <| creg <| nq (y_move rfl) <| nq (y_lss rfl rfl) <| nend <| qsub (sub_cons (t := 6) rfl <| sub_cons (t := 4) rfl <| sub_cons (t := 0) rfl <| sub_cons (t := 1) rfl <| sub_nil) <| qthen <| ?_
  refine cif rfl (fun h => ?_) (fun h => ?_)
  · refine creg <| nq (y_move rfl) <| nq (y_add rfl rfl (w64 (by omega) (by omega))) <| nq (y_neg rfl (w64 (by omega) (by omega))) <| nq (y_assign rfl) <| nend <| qsub (sub_cons (t := 0) rfl <| sub_cons (t := 6) rfl <| sub_cons (t := 4) rfl <| sub_cons (t := 1) rfl <| sub_nil) <| qthen <| cseq <| creg <| nq (y_move rfl) <| nq (y_move rfl) <| nq (y_rem rfl rfl (by omega) (by omega)) <| nq (y_assign rfl) <| nend <| qsub (sub_cons (t := 4) rfl <| sub_cons (t := 0) rfl <| sub_cons (t := 6) rfl <| sub_cons (t := 1) rfl <| sub_nil) <| qthen <| cret <| ?_
    refine ret1 trivial rfl rfl ⟨?_, rfl⟩
    simp only [around, if_pos h]
  · refine cskip <| qthen <| cseq <| creg <| nq (y_move rfl) <| nq (y_move rfl) <| nq (y_rem rfl rfl (by omega) (by omega)) <| nq (y_assign rfl) <| nend <| qsub (sub_cons (t := 4) rfl <| sub_cons (t := 6) rfl <| sub_cons (t := 0) rfl <| sub_cons (t := 1) rfl <| sub_nil) <| qthen <| cret <| ?_
    refine ret1 trivial rfl rfl ⟨?_, rfl⟩
    simp only [around, if_neg h]
theorem short_c (s : List UInt8) (m : Nat) (w : World) : Calls Tryd.prog 92 #[.string (strOf s), .int .i64 (m : Int)] w fun e w' => e = .returned (.string (strOf (s.take m))) ∧ w = w' := by
  refine enter (N := 13) Tryd.func92 rfl rfl (by simp) ?_
  refine cseq <| creg <| nq (y_assign rfl) <| nend <| qthen <| cseq <| cseq <| creg <| nq (y_move rfl) <| nq (y_lenStr rfl Tryd.underlying9) <| nq (y_move rfl) <| nq (y_gtr rfl rfl) <| nend <| qsub (sub_cons (t := 8) rfl <| sub_cons (t := 4) rfl <| sub_cons (t := 0) rfl <| sub_cons (t := 1) rfl <| sub_nil) <| qthen <| ?_
  refine cif rfl (fun h => ?_) (fun h => ?_)
  · rw [strOf_size] at h
    refine cseq <| creg <| nq (y_move rfl) <| nq (y_move rfl) <| nq (y_strTo rfl rfl Tryd.underlying9 rfl ((by rw [bytesOf_strOf]; omega))) <| nq (y_assign rfl) <| nend <| qsub (sub_cons (t := 4) rfl <| sub_cons (t := 8) rfl <| sub_cons (t := 0) rfl <| sub_cons (t := 1) rfl <| sub_nil) <| qthen <| cret <| qthen_ret <| ?_
    exact ret1 trivial rfl rfl ⟨rfl, rfl⟩
  · rw [strOf_size] at h
    refine cskip <| qthen <| cseq <| creg <| nq (y_move rfl) <| nq (y_assign rfl) <| nend <| qsub (sub_cons (t := 4) rfl <| sub_cons (t := 8) rfl <| sub_cons (t := 0) rfl <| sub_cons (t := 1) rfl <| sub_nil) <| qthen <| cret <| ?_
    refine ret1 trivial rfl rfl ⟨?_, rfl⟩
    rw [List.take_of_length_le (by omega)]
theorem take_drop_set {a b : List UInt8} {j n : Nat} (ha : a.length = n) (hb : b.length = n) (hj : j < n) : (a.take j ++ b.drop j).set j (a.getD j 0) = a.take (j + 1) ++ b.drop (j + 1) := by
  rw [List.set_append, if_neg (by rw [List.length_take]; omega), List.length_take, Nat.min_eq_left (by omega), Nat.sub_self, take_snoc (by omega), List.append_assoc]
  congr 1
  rw [List.drop_eq_getElem_cons (by omega)]
  rfl
theorem zeros_eq : (Value.agg (b8s (List.replicate 32 0)).toArray).cells.toList = b8s (List.replicate 32 0) := rfl
theorem of (A : Option Addr) (c : Nat) (l : List UInt8) (w : World) (hr : Rd w 1 A 32 (b8s l)) :
    Calls Tryd.prog 72 #[.slice A 32 c] w fun e w' => e = .returned (.agg (b8s l).toArray) ∧ Fr No w w' := by
  have hl : l.length = 32 := by have := hr.1; rw [b8s_length] at this; omega
  refine enter (N := 16) Tryd.func72 rfl rfl (by simp) ?_
  refine cseq <| creg <| ?_
  refine nx (x_alloc ti23 fun g1 w1 hg1 hf1 hb1 => ?_)
  refine nend <| qthen <| cseq <| creg <| ?_
  refine nx (x_alloc ti23 fun g2 w2 hg2 hf2 hb2 => ?_)
  rw [zeros_eq] at hb1 hb2
  have hlt := hb1.lt
  refine nend <| qthen <| cseq <| cseq <| creg <| nq (y_assign rfl) <| nend <| qthen <| cblock <| ?_
  refine cloop1 (fun j => 32 - j) (fun j => [(0, .slice A 32 c), (2, .pointer (some ⟨g1, 0, none⟩)), (3, .pointer (some ⟨g2, 0, none⟩)), (4, .int .i64 (j : Nat))]) (fun j w' => j ≤ 32 ∧ Fr No w w' ∧ Blk w' g1 23 (b8s (List.replicate 32 0)) ∧ Blk w' g2 23 (b8s (l.take j ++ (List.replicate 32 0).drop j))) 0 (⟨Nat.zero_le _, hf1.trans0 hf2, hb1.fr0 hf2, hb2⟩) (sub_cons (t := 0) rfl <| sub_cons (t := 2) rfl <| sub_cons (t := 3) rfl <| sub_cons (t := 4) rfl <| sub_nil) (fun j w4 ⟨hj, hf4, i1, i2⟩ => ?_)
  refine cseq <| cseq <| creg <| nq (y_move rfl) <| nq (y_lss rfl rfl) <| nend <| qsub (sub_cons (t := 6) rfl <| sub_cons (t := 0) rfl <| sub_cons (t := 2) rfl <| sub_cons (t := 3) rfl <| sub_cons (t := 4) rfl <| sub_nil) <| qthen <| ?_
  refine cif rfl (fun h => ?_) (fun h => ?_)
  · have ga := b8s_get (l := l) (i := j) (by omega)
    have hlen : (l.take j ++ (List.replicate 32 (0 : UInt8)).drop j).length = 32 := by rw [List.length_append, List.length_take, List.length_drop, List.length_replicate]; omega
    have r4 := hr.fr0 hf4
    refine cskip <| qthen <| cseq <| cblock <| creg <| nq (y_move rfl) <| nq (y_move rfl) <| nq (y_move rfl) <| nq (y_idxS1 rfl rfl Tryd.underlying32 sz5 r4.2.1 rfl (by omega)) <| nq (y_ld1 rfl ag5 (r4.cell ga)) <| nq (y_idxA1 rfl rfl Tryd.underlying23 sz5 rfl (by omega)) <| ?_
    refine nx0 (x_st1a rfl rfl sz5 rfl i2 (by rw [b8s_length]; omega) fun w5 hf5 i2' hs5 => ?_)
    rw [Nat.zero_add, ← b8s_set, take_drop_set hl (List.length_replicate ..) (by omega)] at i2'
    refine nend <| qsub (sub_cons (t := 6) rfl <| sub_cons (t := 0) rfl <| sub_cons (t := 2) rfl <| sub_cons (t := 3) rfl <| sub_cons (t := 4) rfl <| sub_nil) <| qblock <| qthen <| creg <| nq (y_move rfl) <| nq (y_add rfl rfl (w64 (by omega) (by omega))) <| nq (y_assign rfl) <| nend <| qsub (sub_cons (t := 4) rfl <| sub_cons (t := 6) rfl <| sub_cons (t := 0) rfl <| sub_cons (t := 2) rfl <| sub_cons (t := 3) rfl <| sub_nil) <| ?_
    refine qloop1 (j + 1) (sub_cons (t := 0) rfl <| sub_cons (t := 2) rfl <| sub_cons (t := 3) rfl <| sub_cons (t := 4) rfl <| sub_nil) (⟨by omega, hf4.new hf5 (fun i hi => by have := hf1.size; omega), i1.fr hf5 (by omega), i2'⟩) (by omega)
  · obtain rfl : j = 32 := by omega
    have e : l.take 32 ++ (List.replicate 32 (0 : UInt8)).drop 32 = l := by
      rw [List.take_of_length_le (by omega), List.drop_of_length_le (by simp)]; simp
    rw [e] at i2
    refine cexit <| qthen_exit <| qthen_exit <| qblock_exit <| qthen <| cseq <| creg <| nq (y_ldN rfl ag23 sz23 ((by rw [b8s_length]; exact hl)) i2.cells0) <| ?_
    refine nx0 (x_stD rfl rfl sz23 hl i1 (by rw [b8s_length]; simp) fun w5 hf5 i1' hs5 => ?_)
    refine nend <| qsub (sub_cons (t := 6) rfl <| sub_cons (t := 0) rfl <| sub_cons (t := 2) rfl <| sub_cons (t := 3) rfl <| sub_cons (t := 4) rfl <| sub_nil) <| qthen <| cret <| ?_
    exact retN trivial rfl rfl ag23 sz23 (by rw [b8s_length]; exact hl) i1'.cells0 ⟨rfl, hf4.new hf5 (fun i hi => by omega)⟩
theorem bytes (a : List UInt8) (w : World) (ha : a.length = 32) :
    Calls Tryd.prog 105 #[.agg (b8s a).toArray] w fun e w' => ∃ v, e = .returned v ∧ Own w' w.heap.size 5 1 v 32 (b8s a) ∧ Fr No w w' := by
  refine enter (N := 16) Tryd.func105 rfl rfl (by simp) ?_
  refine cseq <| creg <| ?_
  refine nx (x_box rfl fun g1 w1 hg1 hf1 hb1 => ?_)
  rw [cells_agg] at hb1
  refine nq (y_assign rfl) <| nend <| qthen <| cseq <| creg <| nq (y_assign rfl) <| nend <| qthen <| cseq <| cseq <| creg <| nq (y_assign rfl) <| nend <| qthen <| cblock <| ?_
  refine cloop2 (fun k _ => 32 - k) (fun k v => [(1, .pointer (some ⟨g1, 0, none⟩)), (3, v), (4, .int .i64 (k : Nat))]) (fun k v w' => k ≤ 32 ∧ Own w' w1.heap.size 5 1 v k (b8s (a.take k)) ∧ Fr No w1 w') 0 (.slice none 0 0) (⟨Nat.zero_le _, Own.nil w1 w1.heap.size _ 1, Fr.refl _ _⟩) (sub_cons (t := 1) rfl <| sub_cons (t := 3) rfl <| sub_cons (t := 4) rfl <| sub_nil) (fun k v w2 ⟨hk, ho, hf⟩ => ?_)
  refine cseq <| cseq <| creg <| nq (y_move rfl) <| nq (y_lss rfl rfl) <| nend <| qsub (sub_cons (t := 6) rfl <| sub_cons (t := 1) rfl <| sub_cons (t := 3) rfl <| sub_cons (t := 4) rfl <| sub_nil) <| qthen <| ?_
  refine cif rfl (fun h => ?_) (fun h => ?_)
  · have ga := b8s_get (l := a) (i := k) (by omega)
    refine cskip <| qthen <| cseq <| cblock <| creg <| nq (y_move rfl) <| nq (y_move rfl) <| nq (y_idxA1 rfl rfl Tryd.underlying23 sz5 rfl (by omega)) <| nq (y_ld1 rfl ag5 ((hb1.fr0 hf).cells0 _ _ ga)) <| ?_
    refine nx (x_bsl Tryd.underlying32 ti5 rfl rfl rfl (by simp [Value.cells, B8]) (by decide) (by decide) fun g w3 hg hf3 hb3 => ?_)
    refine nx (x_app rfl rfl Tryd.underlying32 Tryd.underlying32 (by exact .inl rfl) ti5 rfl (ho.fr0 hf3) (Src.of_blk hb3 rfl) (b8s_one (l := [_])) (by unfold maxLen; omega) (by omega) (hf.trans0 hf3).size fun v4 w4 ho4 hf4 hv4 => ?_)
    refine nq (y_assign rfl) <| nend <| qsub (sub_cons (t := 3) rfl <| sub_cons (t := 6) rfl <| sub_cons (t := 1) rfl <| sub_cons (t := 4) rfl <| sub_nil) <| qblock <| qthen <| creg <| nq (y_move rfl) <| nq (y_add rfl rfl (w64 (by omega) (by omega))) <| nq (y_assign rfl) <| nend <| qsub (sub_cons (t := 4) rfl <| sub_cons (t := 3) rfl <| sub_cons (t := 6) rfl <| sub_cons (t := 1) rfl <| sub_nil) <| ?_
    refine qloop2 (k + 1) v4 (sub_cons (t := 1) rfl <| sub_cons (t := 3) rfl <| sub_cons (t := 4) rfl <| sub_nil) (⟨by omega, by rw [take_snoc (by omega), b8s_append]; exact ho4, (hf.trans0 hf3).new hf4 (fun i hi => (ho.from hi).1)⟩) (by omega)
  · obtain rfl : k = 32 := by omega
    refine cexit <| qthen_exit <| qthen_exit <| qblock_exit <| qthen <| cseq <| creg <| nq (y_move rfl) <| nq (y_assign rfl) <| nend <| qsub (sub_cons (t := 2) rfl <| sub_cons (t := 6) rfl <| sub_cons (t := 1) rfl <| sub_cons (t := 3) rfl <| sub_cons (t := 4) rfl <| sub_nil) <| qthen <| cret <| ?_
    rw [List.take_of_length_le (by omega)] at ho
    exact ret1 trivial rfl rfl ⟨v, rfl, ho.wide hf1.size, hf1.trans0 hf⟩
end Go.Proofs.YtfikjheicjamhaaDoor
end
section
/- Contracts: rows of digests of the reference, journals of the reference. -/
set_option linter.unusedVariables false
set_option linter.unusedSimpArgs false
set_option maxRecDepth 20000
namespace Go.Proofs.YtfikjheicjamhaaDoor
open Go.Eng Go.Hx
theorem dc_len {w : World} {A : Option Addr} {n : Nat} {ds : List (List UInt8)} (h : Rd w 32 A n (dc ds)) (hd : D32 ds) : ds.length = n := by
  have := h.1
  rw [dc_length hd] at this
  omega
theorem lt_step {P : Nat → Prop} {k : Nat} (h : ∀ i, i < k → P i) (hk : P k) : ∀ i, i < k + 1 → P i := fun i hi => by
  rcases Nat.lt_or_ge i k with h1 | h1
  · exact h i h1
  · have : i = k := by omega
    rw [this]; exact hk
end Go.Proofs.YtfikjheicjamhaaDoor
end
section
/- Contracts: journals of the reference and of the program, but Add. -/
set_option linter.unusedVariables false
set_option linter.unusedSimpArgs false
set_option maxRecDepth 20000
namespace Go.Proofs.YtfikjheicjamhaaDoor
open Go.Eng Go.Hx
def goodL (ds : List (List UInt8)) : List (List UInt8) := (ds.take 6).foldl dput []
theorem fold_snoc (ds : List (List UInt8)) (k : Nat) (h : k < ds.length) : (ds.take (k + 1)).foldl dput [] = dput ((ds.take k).foldl dput []) (ds.getD k []) := by
  rw [List.take_succ_eq_append_getElem h, List.foldl_append, List.getD, List.getElem?_eq_getElem h]
  rfl
theorem fold_D32 {ds : List (List UInt8)} (h : D32 ds) (k : Nat) : D32 ((ds.take k).foldl dput []) ∧ ((ds.take k).foldl dput []).length ≤ k := by
  induction k with
  | zero => exact ⟨fun d hd => by simp at hd, by simp⟩
  | succ k ih =>
    by_cases hk : k < ds.length
    · rw [fold_snoc ds k hk]
      have := dput_length ((ds.take k).foldl dput []) (ds.getD k [])
      exact ⟨dput_D32 ih.1 (dc_getD h hk), by omega⟩
    · rw [List.take_of_length_le (by omega)] at ih ⊢
      exact ⟨ih.1, by omega⟩
theorem goodL_rise (ds : List (List UInt8)) : Rise (goodL ds) := by
  unfold goodL
  generalize ds.take 6 = l
  have : ∀ (l a : List (List UInt8)), Rise a → Rise (l.foldl dput a) := by
    intro l
    induction l with
    | nil => intro a h; exact h
    | cons d r ih => intro a h; exact ih _ (dput_rise a d h)
  exact this l [] trivial
theorem goodL_D32 {ds : List (List UInt8)} (h : D32 ds) : D32 (goodL ds) := (fold_D32 h 6).1
theorem goodL_length {ds : List (List UInt8)} (h : D32 ds) : (goodL ds).length ≤ 6 := (fold_D32 h 6).2
theorem take_min (ds : List (List UInt8)) (k : Nat) (h1 : k ≤ ds.length) (h2 : k ≤ 6) (h3 : ¬ (k < ds.length ∧ k < 6)) : ds.take k = ds.take 6 := by
  by_cases h : k = 6
  · rw [h]
  · rw [List.take_of_length_le (by omega), List.take_of_length_le (by omega)]
theorem own_slice1 {w : World} {b : Nat} {e : TypeId} {sz n : Nat} {v : Value} {xs : List Value} (h : Own w b e sz v n xs) : v.oneCell' = true ∧ v.cells.toList = [v] := by
  obtain ⟨A, c, rfl, _⟩ := h.slice
  exact ⟨rfl, rfl⟩
end Go.Proofs.YtfikjheicjamhaaDoor
end
section
/- Contracts: what journals may be, their bytes. -/
set_option linter.unusedVariables false
set_option linter.unusedSimpArgs false
set_option maxRecDepth 20000
namespace Go.Proofs.YtfikjheicjamhaaDoor
open Go.Eng Go.Hx
theorem take_eq_step {a b : List (List UInt8)} {k : Nat} (h : a.take k = b.take k) (h1 : k < a.length) (h2 : k < b.length) (he : a.getD k [] = b.getD k []) : a.take (k + 1) = b.take (k + 1) := by
  rw [List.take_succ_eq_append_getElem h1, List.take_succ_eq_append_getElem h2, h]
  rw [List.getD, List.getD, List.getElem?_eq_getElem h1, List.getElem?_eq_getElem h2] at he
  simp only [Option.getD_some] at he
  rw [he]
/-- which journals may be -/
def JMay (ds : List (List UInt8)) : Prop := Rise ds ∧ ds.length ≤ 4096
instance (ds : List (List UInt8)) : Decidable (JMay ds) := inferInstanceAs (Decidable (_ ∧ _))
end Go.Proofs.YtfikjheicjamhaaDoor
end
section
/- Contracts: a journal's bytes. -/
set_option linter.unusedVariables false
set_option linter.unusedSimpArgs false
set_option maxRecDepth 20000
namespace Go.Proofs.YtfikjheicjamhaaDoor
open Go.Eng Go.Hx
theorem number (n : Nat) (w : World) (hn : n < 4294967296) :
    Calls Tryd.prog 63 #[.int .i64 (n : Int)] w fun e w' => ∃ v, e = .returned v ∧ Own w' w.heap.size 5 1 v 4 (b8s (le4 n)) ∧ Fr No w w' := by
  refine enter (N := 21) Tryd.func63 rfl rfl (by simp) ?_
  refine cseq <| creg <| nq (y_assign rfl) <| nend <| qthen <| cseq <| creg <| nq (y_move rfl) <| nq (y_conv rfl Tryd.underlying3 Tryd.underlying120 ((w32 (by omega) (by omega)))) <| nq (y_assign rfl) <| nend <| qsub (sub_cons (t := 3) rfl <| sub_cons (t := 2) rfl <| sub_cons (t := 0) rfl <| sub_nil) <| qthen <| cseq <| creg <| nq (y_move rfl) <| nq (y_rem rfl rfl (by omega) (by omega)) <| nq (y_conv rfl Tryd.underlying120 Tryd.underlying5 ((show IntKind.u8.wrap ((n : Int) % 256) = ((UInt8.ofNat n).toNat : Int) by simp [IntKind.wrap, IntKind.signed, IntKind.bits]))) <| nq (y_move rfl) <| nq (y_quo rfl rfl (by omega) (by omega) (w32 (by omega) (by omega))) <| nq (y_rem rfl rfl (by omega) (by omega)) <| nq (y_conv rfl Tryd.underlying120 Tryd.underlying5 ((show IntKind.u8.wrap ((n : Int) / 256 % 256) = ((UInt8.ofNat (n / 256)).toNat : Int) by simp [IntKind.wrap, IntKind.signed, IntKind.bits]))) <| nq (y_move rfl) <| nq (y_quo rfl rfl (by omega) (by omega) (w32 (by omega) (by omega))) <| nq (y_rem rfl rfl (by omega) (by omega)) <| nq (y_conv rfl Tryd.underlying120 Tryd.underlying5 ((show IntKind.u8.wrap ((n : Int) / 65536 % 256) = ((UInt8.ofNat (n / 65536)).toNat : Int) by simp [IntKind.wrap, IntKind.signed, IntKind.bits]))) <| nq (y_move rfl) <| nq (y_quo rfl rfl (by omega) (by omega) (w32 (by omega) (by omega))) <| nq (y_conv rfl Tryd.underlying120 Tryd.underlying5 ((show IntKind.u8.wrap ((n : Int) / 16777216) = ((UInt8.ofNat (n / 16777216)).toNat : Int) by simp [IntKind.wrap, IntKind.signed, IntKind.bits]))) <| ?_
  refine nx (x_bsl Tryd.underlying32 ti5 rfl rfl rfl (by simp [Value.cells, B8]) (by decide) (by decide) fun g w1 hg hf1 hb1 => ?_)
  refine nq (y_assign rfl) <| nend <| qsub (sub_cons (t := 2) rfl <| sub_cons (t := 3) rfl <| sub_cons (t := 0) rfl <| sub_nil) <| qthen <| cret <| ?_
  exact ret1 trivial rfl rfl ⟨_, rfl, Own.made hb1 hg (Nat.le_refl _) (by decide) rfl, hf1⟩
def jbody (img : List UInt8) (ds : List (List UInt8)) : List UInt8 := [76, 84, 74, 49] ++ img ++ le4 ds.length ++ ds.flatten
theorem flatten_snoc {ds : List (List UInt8)} {k : Nat} (h : k < ds.length) : (ds.take (k + 1)).flatten = (ds.take k).flatten ++ ds.getD k [] := by
  rw [List.take_succ_eq_append_getElem h, List.flatten_append, List.getD, List.getElem?_eq_getElem h]
  simp
theorem flatten_length {ds : List (List UInt8)} (h : D32 ds) (k : Nat) (hk : k ≤ ds.length) : (ds.take k).flatten.length = 32 * k := by
  induction k with
  | zero => simp
  | succ k ih =>
    rw [flatten_snoc (by omega), List.length_append, ih (by omega), dc_getD h (by omega)]
    omega
theorem jbody_length {img : List UInt8} {ds : List (List UInt8)} (hi : img.length = 32) (h : D32 ds) : (jbody img ds).length = 40 + 32 * ds.length := by
  have := flatten_length h ds.length (Nat.le_refl _)
  rw [List.take_length] at this
  simp only [jbody, List.length_append, this, hi, le4_length, List.length_cons, List.length_nil]
theorem own_len {w : World} {b : Nat} {e : TypeId} {v : Value} {n : Nat} {l : List UInt8} (h : Own w b e 1 v n (b8s l)) : l.length = n := by
  have := h.1
  rw [b8s_length] at this
  omega
end Go.Proofs.YtfikjheicjamhaaDoor
end
section
/- Contracts over things in memory, from contracts over worlds: the reference's small functions. -/
set_option linter.unusedVariables false
set_option linter.unusedSimpArgs false
set_option maxRecDepth 20000
namespace Go.Proofs.YtfikjheicjamhaaDoor
open Go.Eng Go.Hx
theorem fewC {A : Option Addr} {n c : Nat} {l : List UInt8} {m : Nat} (hc : n ≤ c) (hn : n ≤ 140737488351232) : Con Tryd.prog 21 [.slice A n c, .int .i64 (m : Int)] [] [RRd 1 A n (b8s l)] (fun v_ X_ S_ => ∃ v, v_ = v ∧ X_ = [ROwn 5 1 v (min n m) (b8s (l.take m))] ∧ S_ = []) := by
  exact con_own1 fun mm => Calls.mono (few A n c l m _ (mm.rd 0 rfl) hc hn) (fun e w' ⟨v, h, ho, hf⟩ => ⟨v, v, _, _, _, _, h, ⟨v, rfl, rfl, rfl⟩, ho, hf⟩)
theorem aroundC {n m : Int} (h1 : -9223372036854775808 ≤ n) (h2 : n ≤ 9223372036854775807) (hm : 0 < m) : Con Tryd.prog 14 [.int .i64 n, .int .i64 m] [] [] (fun v_ X_ S_ => v_ = (.int .i64 (around n m)) ∧ X_ = [] ∧ S_ = []) := by
  exact con_pure fun mm => Calls.mono (around_c n m _ h1 h2 hm) (fun e w' ⟨h, hw⟩ => ⟨_, h, ⟨rfl, rfl, rfl⟩, hw ▸ Fr.refl _ _⟩)
theorem rcrcPutC {A : Option Addr} {n c : Nat} {l : List UInt8} (hn : n ≤ 70368744177664) : Con Tryd.prog 22 [.slice A n c] [] [RRd 1 A n (b8s l)] (fun v_ X_ S_ => ∃ v, v_ = v ∧ X_ = [ROwn 5 1 v (n + 4) (b8s (putL l))] ∧ S_ = []) := by
  exact con_own1 fun m => Calls.mono (rcrcPut A n c l _ (m.rd 0 rfl) hn) (fun e w' ⟨v, h, ho, hf⟩ => ⟨v, v, _, _, _, _, h, ⟨v, rfl, rfl, rfl⟩, ho, hf⟩)
theorem ofC {A : Option Addr} {n c : Nat} {l : List UInt8} (hn : n = 32) : Con Tryd.prog 72 [.slice A n c] [] [RRd 1 A n (b8s l)] (fun v_ X_ S_ => v_ = (.agg (b8s l).toArray) ∧ X_ = [] ∧ S_ = []) := by
  subst hn
  exact con_pure fun m => Calls.mono (of A c l _ (m.rd 0 rfl)) (fun e w' ⟨h, hf⟩ => ⟨_, h, ⟨rfl, rfl, rfl⟩, hf⟩)
theorem bytesC {a : List UInt8} (ha : a.length = 32) : Con Tryd.prog 105 [.agg (b8s a).toArray] [] [] (fun v_ X_ S_ => ∃ v, v_ = v ∧ X_ = [ROwn 5 1 v 32 (b8s a)] ∧ S_ = []) := by
  exact con_own1 fun m => Calls.mono (bytes a _ ha) (fun e w' ⟨v, h, ho, hf⟩ => ⟨v, v, _, _, _, _, h, ⟨v, rfl, rfl, rfl⟩, ho, hf⟩)
theorem shortC {s : List UInt8} {m : Nat} : Con Tryd.prog 92 [.string (strOf s), .int .i64 (m : Int)] [] [] (fun v_ X_ S_ => v_ = (.string (strOf (s.take m))) ∧ X_ = [] ∧ S_ = []) := by
  exact con_pure fun mm => Calls.mono (short_c s m _) (fun e w' ⟨h, hw⟩ => ⟨_, h, ⟨rfl, rfl, rfl⟩, hw ▸ Fr.refl _ _⟩)
theorem numberC {n : Nat} (hn : n < 4294967296) : Con Tryd.prog 63 [.int .i64 (n : Int)] [] [] (fun v_ X_ S_ => ∃ v, v_ = v ∧ X_ = [ROwn 5 1 v 4 (b8s (le4 n))] ∧ S_ = []) := by
  exact con_own1 fun m => Calls.mono (number n _ hn) (fun e w' ⟨v, h, ho, hf⟩ => ⟨v, v, _, _, _, _, h, ⟨v, rfl, rfl, rfl⟩, ho, hf⟩)
end Go.Proofs.YtfikjheicjamhaaDoor
end
section
/- Contracts: strings.Contains of one letter; a text's names. -/
set_option linter.unusedVariables false
set_option linter.unusedSimpArgs false
set_option maxRecDepth 20000
namespace Go.Proofs.YtfikjheicjamhaaDoor
open Go.Eng Go.Hx
theorem sIndexByteC {l : List UInt8} {c : UInt8} : Con Tryd.prog 190 [.string (strOf l), B8 c] [] [] (fun v_ X_ S_ => v_ = (.int .i64 (Lib.indexByte l c)) ∧ X_ = [] ∧ S_ = []) := by
  refine henter (N := 8) Tryd.func190 rfl rfl (by simp) fun b => ?_
  refine hseq <| hreg <| hy (fun _ => y_assign rfl) <| hend <| hthen <| hseq <| hreg <| hy (fun _ => y_move rfl) <| hy (fun _ => y_move rfl) <| ?_
  refine hx (xh_y (fun m => y_ext rfl Tryd.func194 (by kernel_rfl) (by kernel_rfl) (by kernel_rfl) (show _ = some Extern.BytealgIndexByte.indexByte by kernel_rfl) (Lib.run_indexByteString _ _ _)) ?_)
  refine hy (fun _ => y_assign rfl) <| hend <| hsub (ρ' := [(4, _), (0, _), (1, _)]) ⟨rfl, rfl, rfl, trivial⟩ <| hthen <| hret <| ?_
  exact hret1 trivial rfl rfl [] rfl [] rfl ⟨(by congr 2; simp), rfl, rfl⟩
theorem slIndex1C {l : List UInt8} {c : UInt8} : Con Tryd.prog 187 [.string (strOf l), .string (strOf [c])] [] [] (fun v_ X_ S_ => v_ = (.int .i64 (Lib.indexByte l c)) ∧ X_ = [] ∧ S_ = []) := by
  refine henter (N := 143) Tryd.func187 rfl rfl (by simp) fun b => ?_
  refine hseq <| hreg <| hy (fun _ => y_assign rfl) <| hend <| hthen <| hseq <| hreg <| hy (fun _ => y_move rfl) <| hy (fun _ => yV (y_lenStr rfl Tryd.underlying9) ((rfl : _ = Value.int .i64 1))) <| hy (fun _ => y_assign rfl) <| hend <| hsub (ρ' := [(5, _), (4, _), (0, _), (1, _)]) ⟨rfl, rfl, rfl, rfl, trivial⟩ <| hthen <| hseq <| hblock <| hseq <| hreg <| hy (fun _ => y_move rfl) <| hy (fun _ => y_eql rfl rfl) <| hy (fun _ => y_move rfl) <| ?_
  refine hyg (o := _) rfl rfl rfl (fun _ => y_move rfl) <| hyg (o := _) rfl rfl rfl (fun _ => y_move rfl) <| hyg (o := _) rfl rfl rfl (fun _ => y_seq rfl rfl) <| hy (fun _ => y_pickF rfl rfl) <| hy (fun _ => y_assign rfl) <| hend <| hsub (ρ' := [(16, _), (5, _), (4, _), (0, _), (1, _)]) ⟨rfl, rfl, rfl, rfl, rfl, trivial⟩ <| hthen <| ?_
  refine hif rfl (fun h => ?_) (fun h => ?_)
  · obtain rfl := strOf_inj.1 h
    refine hseq <| hreg <| hy (fun _ => y_assign rfl) <| hend <| hthen <| hret <| hqblock_ret <| hthen_ret <| ?_
    exact hret1 trivial rfl rfl [] rfl [] rfl ⟨(by simp [Lib.indexByte]), rfl, rfl⟩
  · refine hseq <| hreg <| hy (fun _ => y_move rfl) <| hy (fun _ => y_eql rfl rfl) <| hy (fun _ => y_assign rfl) <| hend <| hsub (ρ' := [(24, _), (16, _), (5, _), (4, _), (0, _), (1, _)]) ⟨rfl, rfl, rfl, rfl, rfl, rfl, trivial⟩ <| hthen <| ?_
    refine hift rfl (rfl) ?_
    refine hseq <| hreg <| hy (fun _ => y_move rfl) <| hy (fun _ => y_move rfl) <| hy (fun _ => yV (y_idxStr rfl rfl Tryd.underlying9 rfl (strOf_at (by simp))) ((rfl : _ = B8 c))) <| ?_
    refine hx (xh_call rfl Tryd.call190 (sIndexByteC) [] rfl [] rfl ?_)
    rintro _ _ _ ⟨rfl, rfl, rfl⟩
    refine hy (fun _ => y_assign rfl) <| hend <| hsub (ρ' := [(4, _), (24, _), (16, _), (5, _), (0, _), (1, _)]) ⟨rfl, rfl, rfl, rfl, rfl, rfl, trivial⟩ <| hmemQ (X' := []) (S' := []) (fun _ m => m) <| hthen <| hret <| hqblock_ret <| hthen_ret <| ?_
    exact hret1 trivial rfl rfl [] rfl [] rfl ⟨rfl, rfl, rfl⟩
theorem stringsIndex1C {l : List UInt8} {c : UInt8} : Con Tryd.prog 171 [.string (strOf l), .string (strOf [c])] [] [] (fun v_ X_ S_ => v_ = (.int .i64 (Lib.indexByte l c)) ∧ X_ = [] ∧ S_ = []) := by
  refine henter (N := 8) Tryd.func171 rfl rfl (by simp) fun b => ?_
  refine hseq <| hreg <| hy (fun _ => y_assign rfl) <| hend <| hthen <| hseq <| hreg <| hy (fun _ => y_move rfl) <| hy (fun _ => y_move rfl) <| ?_
  refine hx (xh_call rfl Tryd.call187 (slIndex1C) [] rfl [] rfl ?_)
  rintro _ _ _ ⟨rfl, rfl, rfl⟩
  refine hy (fun _ => y_assign rfl) <| hend <| hsub (ρ' := [(4, _), (0, _), (1, _)]) ⟨rfl, rfl, rfl, trivial⟩ <| hmemQ (X' := []) (S' := []) (fun _ m => m) <| hthen <| hret <| ?_
  exact hret1 trivial rfl rfl [] rfl [] rfl ⟨rfl, rfl, rfl⟩
theorem contains1C {l : List UInt8} {c : UInt8} : Con Tryd.prog 153 [.string (strOf l), .string (strOf [c])] [] [] (fun v_ X_ S_ => v_ = (.bool (decide (c ∈ l))) ∧ X_ = [] ∧ S_ = []) := by
  refine henter (N := 9) Tryd.func153 rfl rfl (by simp) fun b => ?_
  refine hseq <| hreg <| hy (fun _ => y_assign rfl) <| hend <| hthen <| hseq <| hreg <| hy (fun _ => y_move rfl) <| hy (fun _ => y_move rfl) <| ?_
  refine hx (xh_call rfl Tryd.call171 (stringsIndex1C) [] rfl [] rfl ?_)
  rintro _ _ _ ⟨rfl, rfl, rfl⟩
  refine hy (fun _ => y_geq rfl rfl) <| hy (fun _ => y_assign rfl) <| hend <| hsub (ρ' := [(4, _), (0, _), (1, _)]) ⟨rfl, rfl, rfl, trivial⟩ <| hmemQ (X' := []) (S' := []) (fun _ m => m) <| hthen <| hret <| ?_
  exact hret1 trivial rfl rfl [] rfl [] rfl ⟨(by congr 1; rw [← Lib.contains_iff_indexByte]; simp), rfl, rfl⟩
/-- may a text be a name? -/
def Named (p : List UInt8) : Prop := p ≠ [] ∧ p.length ≤ 96 ∧ ¬ (0 : UInt8) ∈ p
instance (p : List UInt8) : Decidable (Named p) := by unfold Named; infer_instance
theorem str_nil (p : List UInt8) : strOf p ≠ ⟨#[]⟩ ↔ p ≠ [] := by
  rw [show (⟨#[]⟩ : ByteArray) = strOf [] from rfl]
  simp only [ne_eq, strOf_inj]
theorem namedC {p : List UInt8} : Con Tryd.prog 123 [.string (strOf p)] [] [] (fun v_ X_ S_ => v_ = (.bool (decide (Named p))) ∧ X_ = [] ∧ S_ = []) := by
  have hsz := strOf_size p
  refine henter (N := 15) Tryd.func123 rfl rfl (by simp) fun b => ?_
  refine hseq <| hreg <| hy (fun _ => y_assign rfl) <| hend <| hthen <| hseq <| hreg <| hy (fun _ => y_move rfl) <| hy (fun _ => y_sne rfl rfl) <| hy (fun _ => y_move rfl) <| ?_
  refine hsplit 5 rfl (fun h1 => ?_) (fun h1 => ?_)
  · have h1' := (str_nil p).1 h1
    refine hyg (o := _) rfl rfl rfl (fun _ => y_move rfl) <| hyg (o := _) rfl rfl rfl (fun _ => y_lenStr rfl Tryd.underlying9) <| hyg (o := _) rfl rfl rfl (fun _ => y_leq rfl rfl) <| hy (fun _ => y_pickT rfl rfl) <| hy (fun _ => y_move rfl) <| ?_
    refine hsplit 10 rfl (fun h2 => ?_) (fun h2 => ?_)
    · have h2' : p.length ≤ 96 := by omega
      refine hyg (o := _) rfl rfl rfl (fun _ => y_move rfl) <| ?_
      refine hxg (o := _) rfl rfl rfl (xh_call rfl Tryd.call153 (contains1C) [] rfl [] rfl ?_)
      rintro _ _ _ ⟨rfl, rfl, rfl⟩
      refine hyg (o := _) rfl rfl rfl (fun _ => y_notp rfl) <| hy (fun _ => y_pickT rfl rfl) <| hy (fun _ => y_assign rfl) <| hend <| hsub (ρ' := [(2, _), (0, _)]) ⟨rfl, rfl, trivial⟩ <| hmemQ (X' := []) (S' := []) (fun _ m => m) <| hthen <| hret <| ?_
      exact hret1 trivial rfl rfl [] rfl [] rfl ⟨(by congr 1; simp only [Named]; simp [h1', h2']), rfl, rfl⟩
    · have h2' : ¬ p.length ≤ 96 := by omega
      refine hskip rfl rfl rfl (by decide) <| hskip rfl rfl rfl (by decide) <| hskip rfl rfl rfl (by decide) <| hy (fun _ => y_pickF rfl rfl) <| hy (fun _ => y_assign rfl) <| hend <| hsub (ρ' := [(2, _), (0, _)]) ⟨rfl, rfl, trivial⟩ <| hthen <| hret <| ?_
      exact hret1 trivial rfl rfl [] rfl [] rfl ⟨(by congr 1; simp only [Named]; simp [h2']), rfl, rfl⟩
  · have h1' : ¬ p ≠ [] := fun h => h1 ((str_nil p).2 h)
    refine hskip rfl rfl rfl (by decide) <| hskip rfl rfl rfl (by decide) <| hskip rfl rfl rfl (by decide) <| hy (fun _ => y_pickF rfl rfl) <| hy (fun _ => y_move rfl) <| ?_
    refine hskip rfl rfl rfl (by decide) <| hskip rfl rfl rfl (by decide) <| hskip rfl rfl rfl (by decide) <| hy (fun _ => y_pickF rfl rfl) <| hy (fun _ => y_assign rfl) <| hend <| hsub (ρ' := [(2, _), (0, _)]) ⟨rfl, rfl, trivial⟩ <| hthen <| hret <| ?_
    exact hret1 trivial rfl rfl [] rfl [] rfl ⟨(by congr 1; simp only [Named]; simp [h1']), rfl, rfl⟩
end Go.Proofs.YtfikjheicjamhaaDoor
end
section
/- Contracts: the program's digest of bytes (layer 2). -/
set_option linter.unusedVariables false
set_option linter.unusedSimpArgs false
set_option maxRecDepth 20000
namespace Go.Proofs.YtfikjheicjamhaaDoor
open Go.Eng Go.Hx
/-- the table of the program -/
def RRoots : Res := RRd 1 (some ⟨0, 0, none⟩) 64 (wds rootsL)
theorem u64neg {n : Nat} (h0 : 0 < n) (hn : n < 32) : IntKind.u64.wrap (-(n : Int)) = ((18446744073709551616 - n : Nat) : Int) := by
  simp [IntKind.wrap, IntKind.signed, IntKind.bits]
  omega
theorem u64and31 {n : Nat} (h0 : 0 < n) (hn : n < 32) : bits .and .u64 ((18446744073709551616 - n : Nat) : Int) 31 = ((32 - n : Nat) : Int) := by
  have h := u64_and_nat (18446744073709551616 - n) 31 (by omega) (by decide)
  rw [show ((31 : Nat) : Int) = 31 from rfl] at h
  rw [h, show (31 : Nat) = 2 ^ 5 - 1 from rfl, Nat.and_two_pow_sub_one_eq_mod]
  congr 1
  show (18446744073709551616 - n) % 32 = 32 - n
  omega
theorem rotC {x : UInt32} {n : Nat} (h0 : 0 < n) (hn : n < 32) : Con Tryd.prog 188 [Wd x, .int .i64 (-(n : Int))] [] [] (fun v_ X_ S_ => v_ = (Wd (rotr n x)) ∧ X_ = [] ∧ S_ = []) := by
  refine henter (N := 17) Tryd.func188 rfl rfl (by simp) fun b => ?_
  have hs : IntKind.u64.wrap (32 - ((32 - n : Nat) : Int)) = (n : Int) := by
    rw [show (32 : Int) - ((32 - n : Nat) : Int) = (n : Int) by omega]
    simp [IntKind.wrap, IntKind.signed, IntKind.bits]
    omega
  refine hseq <| hreg <| hy (fun _ => y_assign rfl) <| hend <| hthen <| hseq <| hreg <| hy (fun _ => y_move rfl) <| hy (fun _ => y_conv rfl Tryd.underlying3 Tryd.underlying174 (u64neg h0 hn)) <| hy (fun _ => y_bits (by simp) rfl rfl (u64and31 h0 hn)) <| hy (fun _ => y_assign rfl) <| hend <| hsub (ρ' := [(5, _), (4, _), (0, _), (1, _)]) ⟨rfl, rfl, rfl, rfl, trivial⟩ <| hthen <| hseq <| hreg <| hy (fun _ => y_move rfl) <| hy (fun _ => y_move rfl) <| hy (fun _ => (y_wshl (k := 32 - n) (by omega) rfl rfl)) <| hy (fun _ => y_move rfl) <| hy (fun _ => y_move rfl) <| hy (fun _ => y_sub rfl rfl hs) <| hy (fun _ => (y_wshr (k := n) hn rfl rfl)) <| hy (fun _ => yV (y_wor rfl rfl) ((show Wd (UInt32.ofNat (x.toNat * 2 ^ (32 - n)) ||| UInt32.ofNat (x.toNat / 2 ^ n)) = Wd (rotr n x) by rw [rotl_or h0 hn]))) <| hy (fun _ => y_assign rfl) <| hend <| hsub (ρ' := [(4, _), (5, _), (0, _), (1, _)]) ⟨rfl, rfl, rfl, rfl, trivial⟩ <| hthen <| hret <| ?_
  exact hret1 trivial rfl rfl [] rfl [] rfl ⟨rfl, rfl, rfl⟩
theorem turnedC {x : UInt32} {n1 n2 n3 : Nat} (h1 : 0 < n1 ∧ n1 < 32) (h2 : 0 < n2 ∧ n2 < 32) (h3 : 0 < n3 ∧ n3 < 32) : Con Tryd.prog 173 [Wd x, .int .i64 (n1 : Int), .int .i64 (n2 : Int), .int .i64 (n3 : Int)] [] [] (fun v_ X_ S_ => v_ = (Wd (turns n1 n2 n3 x)) ∧ X_ = [] ∧ S_ = []) := by
  refine henter (N := 23) Tryd.func173 rfl rfl (by simp) fun b => ?_
  refine hseq <| hreg <| hy (fun _ => y_assign rfl) <| hend <| hthen <| hseq <| hreg <| hy (fun _ => y_move rfl) <| hy (fun _ => y_move rfl) <| hy (fun _ => y_neg rfl (w64 (by omega) (by omega))) <| ?_
  refine hx (xh_call rfl Tryd.call188 (rotC h1.1 h1.2 (n := n1)) [] rfl [] rfl ?_)
  rintro _ _ _ ⟨rfl, rfl, rfl⟩
  refine hy (fun _ => y_move rfl) <| hy (fun _ => y_move rfl) <| hy (fun _ => y_neg rfl (w64 (by omega) (by omega))) <| ?_
  refine hx (xh_call rfl Tryd.call188 (rotC h2.1 h2.2 (n := n2)) [] rfl [] rfl ?_)
  rintro _ _ _ ⟨rfl, rfl, rfl⟩
  refine hy (fun _ => y_wxor rfl rfl) <| hy (fun _ => y_move rfl) <| hy (fun _ => y_move rfl) <| hy (fun _ => y_neg rfl (w64 (by omega) (by omega))) <| ?_
  refine hx (xh_call rfl Tryd.call188 (rotC h3.1 h3.2 (n := n3)) [] rfl [] rfl ?_)
  rintro _ _ _ ⟨rfl, rfl, rfl⟩
  refine hy (fun _ => y_wxor rfl rfl) <| hy (fun _ => y_assign rfl) <| hend <| hsub (ρ' := [(8, _), (0, _), (1, _), (2, _), (3, _)]) ⟨rfl, rfl, rfl, rfl, rfl, trivial⟩ <| hmemQ (X' := []) (S' := []) (fun _ m => m) <| hthen <| hret <| ?_
  exact hret1 trivial rfl rfl [] rfl [] rfl ⟨rfl, rfl, rfl⟩
theorem fill_get {a : List UInt32} {i k n : Nat} (ha : a.length = i) (hk : k < i) : (wds (a ++ List.replicate n 0))[k]? = some (Wd (a.getD k 0)) := by
  rw [wds_get (by simp; omega)]
  simp [List.getD, List.getElem?_append_left (show k < a.length by omega)]
theorem mid_get {a r : List UInt32} {i : Nat} {x : UInt32} (ha : a.length = i) : (wds (a ++ x :: r))[i]? = some (Wd x) := by
  subst ha
  simp [wds]
theorem mid_set {a r : List UInt32} {i : Nat} {x y : UInt32} (ha : a.length = i) : (wds (a ++ x :: r)).set i (Wd y) = wds (a ++ y :: r) := by
  subst ha
  simp [wds, List.set_append]
theorem mid_end {a r : List UInt32} {y : UInt32} : a ++ y :: r = (a ++ [y]) ++ r := by simp
theorem wordsC {A : Option Addr} {c : Nat} {l : List UInt8} (hc : 64 ≤ c) : Con Tryd.prog 172 [.slice A 64 c] [] [RRd 1 A 64 (b8s l)] (fun v_ X_ S_ => v_ = (.agg (wds (wl l 64)).toArray) ∧ X_ = [] ∧ S_ = []) := by
  refine henter (N := 75) Tryd.func172 rfl rfl (by simp) fun b => ?_
  refine hfactC (fun m => rdB (m.rd 0 rfl)) ?_
  rintro ⟨hl_r, hA_r⟩
  have hl : l.length = 64 := hl_r
  refine hseq <| hreg <| ?_
  refine hx (xh_alloc ti254 (fun g2 => ?_))
  refine hend <| hmemQ (X' := [_]) (S' := [_]) (fun _ m => m) <| hthen <| hseq <| hreg <| ?_
  refine hx (xh_alloc ti254 (fun g3 => ?_))
  refine hmemL (fun w m => m.eqX 0 rfl (show _ = RBlk g3 254 (wds (wl l 0 ++ List.replicate (64 - 0) 0)) from rfl)) ?_
  refine hend <| hmemQ (X' := [_, _]) (S' := [_]) (fun _ m => m) <| hthen <| hseq <| hseq <| hreg <| hy (fun _ => y_move rfl) <| hend <| hthen <| hblock <| ?_
  refine hloop1 (fun i => 64 - i) (fun i => [(9, .int .i64 (i : Nat))]) (fun i => [RBlk g3 254 (wds (wl l i ++ List.replicate (64 - i) 0))]) (fun i => []) (fun i => i ≤ 64) 0 [(3, _), (2, _), (0, _)] ⟨rfl, rfl, rfl, trivial⟩ [0] rfl [] rfl (Nat.zero_le _) ⟨rfl, trivial⟩ (fun i hI => ?_)
  have hwl := wl_length l i
  refine hseq <| hreg <| hy (fun _ => y_lss rfl rfl) <| hend <| hthen <| hseq <| ?_
  refine hif rfl (fun h => ?_) (fun h => ?_)
  · have hr64 : (List.replicate (64 - i) (0 : UInt32)) = 0 :: List.replicate (63 - i) 0 := by rw [show 64 - i = (63 - i) + 1 by omega, List.replicate_succ]
    have hr63 : (64 - (i + 1)) = 63 - i := by omega
    refine hcskip <| hthen <| hseq <| hblock <| hseq <| hreg <| hy (fun _ => y_move rfl) <| hy (fun _ => y_assign rfl) <| hend <| hsub (ρ' := [(4, _), (10, _), (9, _), (3, _), (2, _), (0, _)]) ⟨rfl, rfl, rfl, rfl, rfl, rfl, trivial⟩ <| hthen <| hseq <| hseq <| hreg <| hy (fun _ => y_move rfl) <| hy (fun _ => y_lss rfl rfl) <| hend <| hsub (ρ' := [(13, _), (4, _), (10, _), (9, _), (3, _), (2, _), (0, _)]) ⟨rfl, rfl, rfl, rfl, rfl, rfl, rfl, trivial⟩ <| hthen <| ?_
    refine hif rfl (fun h16 => ?_) (fun h16 => ?_)
    · have hws : wl l (i + 1) = wl l i ++ [word4 l (4 * i)] := by rw [wl, if_pos (by omega)]
      refine hmemC (fun w m => m.asV 0 rfl (View.sub (k := 4 * i) (m := 4) hc (by omega))) ?_
      refine hfactC (fun m => rdB (m.rd 0 rfl)) ?_
      rintro ⟨hl_r4, hA_r4⟩
      refine hseq <| hseq <| hreg <| hy (fun _ => y_move rfl) <| hy (fun _ => y_move rfl) <| hy (fun _ => y_mul rfl rfl (w64 (by omega) (by omega))) <| hy (fun _ => y_move rfl) <| hy (fun _ => y_mul rfl rfl (w64 (by omega) (by omega))) <| hy (fun _ => y_add rfl rfl (w64 (by omega) (by omega))) <| hy (fun _ => yV (y_slBoth rfl rfl rfl Tryd.underlying32 sz5 (show ((4 * i : Nat) : Int) = _ by omega) (show ((4 * i + 4 : Nat) : Int) = _ by omega) (by omega) (by omega)) ((show Value.slice (if c = 4 * i then A else A.map (·.add (4 * i * 1))) (4 * i + 4 - 4 * i) (c - 4 * i) = .slice (if c = 4 * i then A else A.map (·.add (4 * i * 1))) 4 (c - 4 * i) by rw [Nat.add_sub_cancel_left]))) <| hy (fun _ => y_lenS rfl Tryd.underlying32) <| hy (fun _ => y_move rfl) <| hend <| hsub (ρ' := [(22, _), (21, _), (20, _), (13, _), (4, _), (10, _), (9, _), (3, _), (2, _), (0, _)]) ⟨rfl, rfl, rfl, rfl, rfl, rfl, rfl, rfl, rfl, rfl, trivial⟩ <| hthen <| hblock <| ?_
      refine hmemC (fun w m => m.eqX 0 rfl (show _ = RBlk g3 254 (wds (wl l i ++ UInt32.ofNat (wp l (4 * i) 0) :: List.replicate (63 - i) 0)) from by rw [hr64]; rfl)) ?_
      refine hloop1 (fun j => 4 - j) (fun j => [(22, .int .i64 (j : Nat))]) (fun j => [RBlk g3 254 (wds (wl l i ++ UInt32.ofNat (wp l (4 * i) j) :: List.replicate (63 - i) 0))]) (fun j => []) (fun j => j ≤ 4) 0 [(21, _), (20, _), (13, _), (4, _), (10, _), (9, _), (3, _), (2, _), (0, _)] ⟨rfl, rfl, rfl, rfl, rfl, rfl, rfl, rfl, rfl, trivial⟩ [0] rfl [] rfl (Nat.zero_le _) ⟨rfl, trivial⟩ (fun j hj4 => ?_)
      refine hseq <| hreg <| hy (fun _ => y_lss rfl rfl) <| hend <| hthen <| hseq <| ?_
      refine hif rfl (fun hj => ?_) (fun hj => ?_)
      · have hgl : ((l.drop (4 * i)).take 4).getD j 0 = l.getD (4 * i + j) 0 := by
          simp [List.getD, List.getElem?_take, List.getElem?_drop, show j < 4 by omega]
        refine hcskip <| hthen <| hseq <| hblock <| hseq <| hreg <| hy (fun _ => y_idxS1 rfl rfl Tryd.underlying32 sz5 hA_r4 rfl (by omega)) <| hy (fun m => y_ld1 rfl ag5 ((m.rd 0 rfl).cell (b8s_get (by omega)))) <| hy (fun _ => y_assign rfl) <| hend <| hsub (ρ' := [(6, _), (23, _), (22, _), (21, _), (20, _), (13, _), (4, _), (10, _), (9, _), (3, _), (2, _), (0, _)]) ⟨rfl, rfl, rfl, rfl, rfl, rfl, rfl, rfl, rfl, rfl, rfl, rfl, trivial⟩ <| hthen <| hreg <| hy (fun _ => y_move rfl) <| hy (fun _ => y_move rfl) <| hy (fun _ => y_idxA1 rfl rfl Tryd.underlying254 sz120 rfl (by omega)) <| hy (fun m => y_ld1 rfl ag120 ((m.blk 0 rfl).cells0 i _ (mid_get hwl))) <| hy (fun _ => y_wshlD (k := 8) (b := 256) (by decide) rfl rfl rfl) <| hy (fun _ => y_move rfl) <| hy (fun _ => y_w8 rfl Tryd.underlying5 Tryd.underlying120) <| hy (fun _ => yV (y_wor rfl rfl) ((show Wd ((UInt32.ofNat (wp l (4 * i) j) * 256) ||| (((l.drop (4 * i)).take 4).getD j 0).toUInt32) = Wd (UInt32.ofNat (wp l (4 * i) (j + 1))) by rw [hgl, wp_step (by omega)]))) <| hy (fun _ => y_idxA1 rfl rfl Tryd.underlying254 sz120 rfl (by omega)) <| ?_
        refine hx0 (xh_st1a 0 rfl rfl rfl sz120 rfl (by rw [wds_length]; simp only [List.length_append, List.length_cons, List.length_replicate, hwl]; omega) ?_)
        refine hend <| hsub (ρ' := [(6, _), (23, _), (22, _), (21, _), (20, _), (13, _), (4, _), (10, _), (9, _), (3, _), (2, _), (0, _)]) ⟨rfl, rfl, rfl, rfl, rfl, rfl, rfl, rfl, rfl, rfl, rfl, rfl, trivial⟩ <| hmemQ (X' := [_, _]) (S' := [_, _]) (fun _ m => m) <| hqblock <| hthen <| hreg <| hy (fun _ => y_add rfl rfl (w64 (by omega) (by omega))) <| hy (fun _ => y_move rfl) <| hend <| hsub (ρ' := [(22, _), (6, _), (23, _), (21, _), (20, _), (13, _), (4, _), (10, _), (9, _), (3, _), (2, _), (0, _)]) ⟨rfl, rfl, rfl, rfl, rfl, rfl, rfl, rfl, rfl, rfl, rfl, rfl, trivial⟩ <| ?_
        refine hmemQ (fun w m => m.eqX 0 rfl (show _ = RBlk g3 254 (wds (wl l i ++ UInt32.ofNat (wp l (4 * i) (j + 1)) :: List.replicate (63 - i) 0)) from by rw [Nat.zero_add, mid_set hwl])) ?_
        refine hnext1 (j + 1) ⟨rfl, rfl, rfl, rfl, rfl, rfl, rfl, rfl, rfl, rfl, trivial⟩ [0, 0] rfl [0, 1] rfl (by omega) (by omega)
      · obtain rfl : j = 4 := by omega
        refine hexit <| hthen_exit <| hthen_exit <| hqblock_exit <| hthen <| hexit <| hthen_exit <| hqblock_exit <| hthen <| hreg <| hy (fun _ => y_add rfl rfl (w64 (by omega) (by omega))) <| hy (fun _ => y_move rfl) <| hend <| hsub (ρ' := [(9, _), (23, _), (22, _), (21, _), (20, _), (13, _), (4, _), (10, _), (3, _), (2, _), (0, _)]) ⟨rfl, rfl, rfl, rfl, rfl, rfl, rfl, rfl, rfl, rfl, rfl, trivial⟩ <| ?_
        refine hmemQ (fun w m => m.eqX 0 rfl (show _ = RBlk g3 254 (wds (wl l (i + 1) ++ List.replicate (64 - (i + 1)) 0)) from by rw [wp_four, mid_end, hws, hr63])) ?_
        refine hnext1 (i + 1) ⟨rfl, rfl, rfl, rfl, trivial⟩ [0, 0] rfl [1] rfl (by omega) (by omega)
    · have hws : wl l (i + 1) = wl l i ++ [wnext (wl l i) i] := by rw [wl, if_neg (by omega)]
      refine hcskip <| hthen <| hseq <| hdrw [] [(0, some 0), (1, some 0), (2, some 0), (3, some 0), (4, some 0), (5, some 0), (6, some 0), (7, some 0), (8, some 0), (9, some 0)] (by kernel_rfl) (by kernel_rfl) rfl 99 <| htyU (y_move rfl) <| htyU (y_sub rfl rfl (w64 (by omega) (by omega))) <| htyU (y_idxA1 rfl rfl Tryd.underlying254 sz120 (show ((i - 15 : Nat) : Int) = _ by omega) (by omega)) <| hty (fun m => y_ld1 rfl ag120 ((m.blk 0 rfl).cells0 (i - 15) _ (fill_get hwl (by omega)))) <| htyU (y_move rfl) <| htyU (y_sub rfl rfl (w64 (by omega) (by omega))) <| htyU (y_idxA1 rfl rfl Tryd.underlying254 sz120 (show ((i - 2 : Nat) : Int) = _ by omega) (by omega)) <| hty (fun m => y_ld1 rfl ag120 ((m.blk 0 rfl).cells0 (i - 2) _ (fill_get hwl (by omega)))) <| htyU (y_assign rfl) <| htyU (y_assign rfl) <| htend <| hsub (ρ' := [(8, _), (7, _), (13, _), (4, _), (10, _), (9, _), (3, _), (2, _), (0, _)]) ⟨rfl, rfl, rfl, rfl, rfl, rfl, rfl, rfl, rfl, trivial⟩ <| hthen <| hdrw [6, 8, 20, 22, 29] [(0, some 4), (1, some 4), (2, some 4), (3, some 4), (4, some 4), (5, some 0), (7, some 1), (10, some 4), (11, some 4), (14, some 4), (15, some 4), (16, some 4), (17, some 4), (19, some 2), (21, some 3), (24, some 4), (25, some 4), (6, none), (8, none), (9, some 4), (12, some 4), (13, some 4), (18, some 4), (20, none), (22, none), (23, some 4), (26, some 4), (27, some 4), (28, some 4), (29, none)] (by kernel_rfl) (by kernel_rfl) rfl 4 <| htyU (y_move rfl) <| htyU (y_move rfl) <| htyU (y_sub rfl rfl (w64 (by omega) (by omega))) <| htyU (y_idxA1 rfl rfl Tryd.underlying254 sz120 (show ((i - 16 : Nat) : Int) = _ by omega) (by omega)) <| hty (fun m => y_ld1 rfl ag120 ((m.blk 0 rfl).cells0 (i - 16) _ (fill_get hwl (by omega)))) <| htyU (y_move rfl) <| htyU (y_move rfl) <| htyU (y_move rfl) <| htyU (y_wshrD (k := 3) (b := 8) (by decide) rfl rfl rfl) <| htyU (y_move rfl) <| htyU (y_sub rfl rfl (w64 (by omega) (by omega))) <| htyU (y_idxA1 rfl rfl Tryd.underlying254 sz120 (show ((i - 7 : Nat) : Int) = _ by omega) (by omega)) <| hty (fun m => y_ld1 rfl ag120 ((m.blk 0 rfl).cells0 (i - 7) _ (fill_get hwl (by omega)))) <| htyU (y_move rfl) <| htyU (y_move rfl) <| htyU (y_move rfl) <| htyU (y_wshrD (k := 10) (b := 1024) (by decide) rfl rfl rfl) <| ?_
      refine htx (xh_call rfl Tryd.call188 (rotC (by decide) (by decide) (n := 7)) [] rfl [] rfl ?_)
      rintro _ _ _ ⟨rfl, rfl, rfl⟩
      refine ⟨(fun _ => wk [0, 0] [0] rfl rfl), ?_⟩
      refine htx (xh_call rfl Tryd.call188 (rotC (by decide) (by decide) (n := 18)) [] rfl [] rfl ?_)
      rintro _ _ _ ⟨rfl, rfl, rfl⟩
      refine ⟨(fun _ => wk [0, 0] [0] rfl rfl), ?_⟩
      refine htyU (y_wxor rfl rfl) <| htyU (y_wxor rfl rfl) <| htyU (y_wadd rfl rfl) <| htyU (y_wadd rfl rfl) <| ?_
      refine htx (xh_call rfl Tryd.call188 (rotC (by decide) (by decide) (n := 17)) [] rfl [] rfl ?_)
      rintro _ _ _ ⟨rfl, rfl, rfl⟩
      refine ⟨(fun _ => wk [0, 0] [0] rfl rfl), ?_⟩
      refine htx (xh_call rfl Tryd.call188 (rotC (by decide) (by decide) (n := 19)) [] rfl [] rfl ?_)
      rintro _ _ _ ⟨rfl, rfl, rfl⟩
      refine ⟨(fun _ => wk [0, 0] [0] rfl rfl), ?_⟩
      refine htyU (y_wxor rfl rfl) <| htyU (y_wxor rfl rfl) <| htyU (yV (y_wadd rfl rfl) ((rfl : _ = Wd (wnext (wl l i) i)))) <| htyU (y_idxA1 rfl rfl Tryd.underlying254 sz120 rfl (by omega)) <| ?_
      refine htx0 (xh_st1a 0 rfl rfl rfl sz120 rfl (by rw [wds_length]; simp only [List.length_append, List.length_replicate, hwl]; omega) ⟨(fun h => absurd h (by decide)), ?_⟩)
      refine htend <| hsub (ρ' := [(8, _), (7, _), (13, _), (4, _), (10, _), (9, _), (3, _), (2, _), (0, _)]) ⟨rfl, rfl, rfl, rfl, rfl, rfl, rfl, rfl, rfl, trivial⟩ <| hmemQ (X' := [_, _]) (S' := [_]) (fun _ m => m) <| hqblock <| hthen <| hreg <| hy (fun _ => y_add rfl rfl (w64 (by omega) (by omega))) <| hy (fun _ => y_move rfl) <| hend <| hsub (ρ' := [(9, _), (8, _), (7, _), (13, _), (4, _), (10, _), (3, _), (2, _), (0, _)]) ⟨rfl, rfl, rfl, rfl, rfl, rfl, rfl, rfl, rfl, trivial⟩ <| ?_
      refine hmemQ (fun w m => m.eqX 0 rfl (show _ = RBlk g3 254 (wds (wl l (i + 1) ++ List.replicate (64 - (i + 1)) 0)) from by rw [Nat.zero_add, hr64, mid_set hwl, mid_end, hws, hr63])) ?_
      refine hnext1 (i + 1) ⟨rfl, rfl, rfl, rfl, trivial⟩ [0, 0] rfl [0] rfl (by omega) (by omega)
  · obtain rfl : i = 64 := by omega
    refine hmemC (fun w m => m.eqX 0 rfl (show _ = RBlk g3 254 (wds (wl l 64)) from by rw [Nat.sub_self]; simp)) ?_
    refine hexit <| hthen_exit <| hthen_exit <| hqblock_exit <| hthen <| hseq <| hreg <| hy (fun m => yV (y_ldN rfl ag254 sz254 (by rw [wds_length, wl_length]) ((m.blk 0 rfl).cells0)) ((rfl : _ = Value.agg (wds (wl l 64)).toArray))) <| ?_
    refine hx0 (xh_stA 1 rfl rfl rfl sz254 (by rw [wds_length, wl_length]) wds_one rfl ?_)
    refine hend <| hsub (ρ' := [(10, _), (9, _), (3, _), (2, _), (0, _)]) ⟨rfl, rfl, rfl, rfl, rfl, trivial⟩ <| hmemQ (X' := [_, _]) (S' := [_]) (fun _ m => m) <| hthen <| hret <| ?_
    exact hretN trivial rfl rfl ag254 sz254 (by rw [wds_length, wl_length]) (fun m => (m.blk 0 rfl).cells0) [] rfl [] rfl ⟨rfl, rfl, rfl⟩
theorem hsum_length (v h : List UInt32) (i : Nat) : (hsum v h i).length = v.length := by simp [hsum]
theorem mixC {A : Option Addr} {c : Nat} {l : List UInt8} {h : List UInt32} (hc : 64 ≤ c) (hh : h.length = 8) : Con Tryd.prog 154 [.agg (wds h).toArray, .slice A 64 c] [] [RRd 1 A 64 (b8s l), RRoots] (fun v_ X_ S_ => v_ = (.agg (wds (blockL h l)).toArray) ∧ X_ = [] ∧ S_ = []) := by
  refine henter (N := 99) Tryd.func154 rfl rfl (by simp) fun b => ?_
  refine hfactC (fun m => rdB (m.rd 0 rfl)) ?_
  rintro ⟨hl_r, hA_r⟩
  refine hseq <| hreg <| ?_
  refine hx (xh_box rfl (fun g2 => ?_))
  refine hmemL (fun w m => m.eqX 0 rfl (show _ = RBlk g2 222 (wds h) from congrArg (RBlk _ _) (cells_agg _))) ?_
  refine hx (xh_alloc ti222 (fun g4 => ?_))
  refine hend <| hmemQ (X' := [_, _]) (S' := [_, _]) (fun _ m => m) <| hthen <| hseq <| hreg <| hy (fun _ => y_move rfl) <| ?_
  refine hx (xh_call rfl Tryd.call172 (wordsC (by omega)) [] rfl [0] rfl ?_)
  rintro _ _ _ ⟨rfl, rfl, rfl⟩
  obtain ⟨W, hW⟩ : ∃ W, wl l 64 = W := ⟨_, rfl⟩
  have hw64 : W.length = 64 := by rw [← hW]; exact wl_length l 64
  rw [hW]
  refine hx (xh_alloc ti254 (fun g5 => ?_))
  refine hx0 (xh_stA 0 rfl rfl rfl sz254 (by rw [wds_length, hw64]) wds_one rfl ?_)
  refine hend <| hsub (ρ' := [(5, _), (4, _), (2, _), (0, _), (1, _)]) ⟨rfl, rfl, rfl, rfl, rfl, trivial⟩ <| hmemQ (X' := [_, _, _]) (S' := [_, _]) (fun _ m => m) <| hthen <| hseq <| hreg <| hy (fun m => yV (y_ldN rfl ag222 sz222 (by rw [wds_length, hh]) ((m.blk 2 rfl).cells0)) ((rfl : _ = Value.agg (wds h).toArray))) <| ?_
  refine hx (xh_alloc ti222 (fun g6 => ?_))
  refine hx0 (xh_stA 0 rfl rfl rfl sz222 (by rw [wds_length, hh]) wds_one rfl ?_)
  refine hend <| hsub (ρ' := [(6, _), (5, _), (4, _), (2, _), (0, _), (1, _)]) ⟨rfl, rfl, rfl, rfl, rfl, rfl, trivial⟩ <| hmemQ (X' := [_, _, _, _]) (S' := [_, _]) (fun _ m => m) <| hthen <| hseq <| hseq <| hreg <| hy (fun _ => y_move rfl) <| hend <| hthen <| hblock <| ?_
  refine hloop1 (fun i => 64 - i) (fun i => [(16, .int .i64 (i : Nat))]) (fun i => [RBlk g6 222 (wds (rnds W h i))]) (fun i => []) (fun i => i ≤ 64) 0 [(6, _), (5, _), (4, _), (2, _), (0, _), (1, _)] ⟨rfl, rfl, rfl, rfl, rfl, rfl, trivial⟩ [0] rfl [] rfl (Nat.zero_le _) ⟨rfl, trivial⟩ (fun i hI => ?_)
  have hv := rnds_length (w := W) hh i
  have hro : rootsL.length = 64 := rfl
  refine hseq <| hreg <| hy (fun _ => y_lss rfl rfl) <| hend <| hthen <| hseq <| ?_
  refine hif rfl (fun hlt => ?_) (fun hlt => ?_)
  · generalize hvd : rnds W h i = v at hv ⊢
    refine hcskip <| hthen <| hseq <| hblock <| hseq <| hreg <| hy (fun _ => y_move rfl) <| hy (fun _ => y_assign rfl) <| hend <| hsub (ρ' := [(7, _), (17, _), (16, _), (6, _), (5, _), (4, _), (2, _), (0, _), (1, _)]) ⟨rfl, rfl, rfl, rfl, rfl, rfl, rfl, rfl, rfl, trivial⟩ <| hthen <| hseq <| hdrw [] [(0, some 0), (1, some 0), (2, some 0), (3, some 0), (4, some 0), (5, some 0)] (by kernel_rfl) (by kernel_rfl) rfl 99 <| htyU (y_idxA1 rfl rfl Tryd.underlying222 sz120 (show ((4 : Nat) : Int) = 4 from rfl) (by omega)) <| hty (fun m => y_ld1 rfl ag120 ((m.blk 0 rfl).cells0 4 _ (wds_get (by omega)))) <| htyU (y_idxA1 rfl rfl Tryd.underlying222 sz120 (show ((0 : Nat) : Int) = 0 from rfl) (by omega)) <| hty (fun m => y_ld1 rfl ag120 ((m.blk 0 rfl).cells0 0 _ (wds_get (by omega)))) <| htyU (y_assign rfl) <| htyU (y_assign rfl) <| htend <| hsub (ρ' := [(9, _), (8, _), (7, _), (17, _), (16, _), (6, _), (5, _), (4, _), (2, _), (0, _), (1, _)]) ⟨rfl, rfl, rfl, rfl, rfl, rfl, rfl, rfl, rfl, rfl, rfl, trivial⟩ <| hthen <| hseq <| hdrw [3] [(0, some 1), (1, some 1), (2, some 0), (5, some 1), (6, some 1), (7, some 1), (8, some 1), (9, some 1), (10, some 1), (11, some 1), (12, some 1), (13, some 1), (14, some 1), (16, some 1), (17, some 1), (18, some 1), (20, some 1), (21, some 1), (22, some 1), (3, none), (4, some 1), (15, some 1), (19, some 1), (23, some 1), (24, some 1)] (by kernel_rfl) (by kernel_rfl) rfl 99 <| htyU (y_idxA1 rfl rfl Tryd.underlying222 sz120 (show ((7 : Nat) : Int) = 7 from rfl) (by omega)) <| hty (fun m => y_ld1 rfl ag120 ((m.blk 0 rfl).cells0 7 _ (wds_get (by omega)))) <| htyU (y_move rfl) <| htyU (y_move rfl) <| htyU (y_idxA1 rfl rfl Tryd.underlying222 sz120 (show ((5 : Nat) : Int) = 5 from rfl) (by omega)) <| hty (fun m => y_ld1 rfl ag120 ((m.blk 0 rfl).cells0 5 _ (wds_get (by omega)))) <| htyU (y_wand rfl rfl) <| htyU (y_move rfl) <| htyU (y_wnot rfl) <| htyU (y_idxA1 rfl rfl Tryd.underlying222 sz120 (show ((6 : Nat) : Int) = 6 from rfl) (by omega)) <| hty (fun m => y_ld1 rfl ag120 ((m.blk 0 rfl).cells0 6 _ (wds_get (by omega)))) <| htyU (y_wand rfl rfl) <| htyU (y_wxor rfl rfl) <| htyU (y_move rfl) <| htyU (y_idxA1 rfl rfl Tryd.underlying254 sz120 rfl (by omega)) <| hty (fun m => y_ld1 rfl ag120 ((show Rd _ 1 _ 64 (wds rootsL) from m.sres 1 rfl).cell (j := i) (wds_get (by omega)))) <| htyU (y_move rfl) <| htyU (y_idxA1 rfl rfl Tryd.underlying254 sz120 rfl (by omega)) <| hty (fun m => y_ld1 rfl ag120 ((m.blk 1 rfl).cells0 i _ (wds_get (by omega)))) <| ?_
    refine htx (xh_call rfl Tryd.call173 (turnedC (by decide) (by decide) (by decide) (n1 := 6) (n2 := 11) (n3 := 25)) [] rfl [] rfl ?_)
    rintro _ _ _ ⟨rfl, rfl, rfl⟩
    refine ⟨(fun _ => wk [0, 0, 0, 0] [0, 1] rfl rfl), ?_⟩
    refine htyU (y_wadd rfl rfl) <| htyU (y_wadd rfl rfl) <| htyU (y_wadd rfl rfl) <| ?_
    generalize hk : rootsL.getD i 0 = k
    refine htyU (yV (y_wadd rfl rfl) ((rfl : _ = Wd (rt v k (W.getD i 0))))) <| htyU (y_assign rfl) <| htend <| hsub (ρ' := [(10, _), (9, _), (8, _), (7, _), (17, _), (16, _), (6, _), (5, _), (4, _), (2, _), (0, _), (1, _)]) ⟨rfl, rfl, rfl, rfl, rfl, rfl, rfl, rfl, rfl, rfl, rfl, rfl, trivial⟩ <| hmemQ (X' := [_, _, _, _]) (S' := [_, _]) (fun _ m => m) <| hthen <| hseq <| hdrw [1] [(0, some 0), (2, some 1), (3, some 1), (4, some 1), (5, some 1), (6, some 1), (7, some 1), (8, some 1), (9, some 1), (10, some 1), (11, some 1), (12, some 1), (13, some 1), (14, some 1), (15, some 1), (16, some 1), (1, none), (17, some 1), (18, some 1)] (by kernel_rfl) (by kernel_rfl) rfl 99 <| htyU (y_move rfl) <| htyU (y_move rfl) <| htyU (y_idxA1 rfl rfl Tryd.underlying222 sz120 (show ((1 : Nat) : Int) = 1 from rfl) (by omega)) <| hty (fun m => y_ld1 rfl ag120 ((m.blk 0 rfl).cells0 1 _ (wds_get (by omega)))) <| htyU (y_wand rfl rfl) <| htyU (y_move rfl) <| htyU (y_idxA1 rfl rfl Tryd.underlying222 sz120 (show ((2 : Nat) : Int) = 2 from rfl) (by omega)) <| hty (fun m => y_ld1 rfl ag120 ((m.blk 0 rfl).cells0 2 _ (wds_get (by omega)))) <| htyU (y_wand rfl rfl) <| htyU (y_wxor rfl rfl) <| htyU (y_idxA1 rfl rfl Tryd.underlying222 sz120 (show ((1 : Nat) : Int) = 1 from rfl) (by omega)) <| hty (fun m => y_ld1 rfl ag120 ((m.blk 0 rfl).cells0 1 _ (wds_get (by omega)))) <| htyU (y_idxA1 rfl rfl Tryd.underlying222 sz120 (show ((2 : Nat) : Int) = 2 from rfl) (by omega)) <| hty (fun m => y_ld1 rfl ag120 ((m.blk 0 rfl).cells0 2 _ (wds_get (by omega)))) <| htyU (y_wand rfl rfl) <| htyU (y_wxor rfl rfl) <| ?_
    refine htx (xh_call rfl Tryd.call173 (turnedC (by decide) (by decide) (by decide) (n1 := 2) (n2 := 13) (n3 := 22)) [] rfl [] rfl ?_)
    rintro _ _ _ ⟨rfl, rfl, rfl⟩
    refine ⟨(fun _ => wk [0, 0, 0, 0] [0, 1] rfl rfl), ?_⟩
    refine htyU (yV (y_wadd rfl rfl) ((rfl : _ = Wd (ru v)))) <| htyU (y_assign rfl) <| htend <| hsub (ρ' := [(11, _), (10, _), (9, _), (8, _), (7, _), (17, _), (16, _), (6, _), (5, _), (4, _), (2, _), (0, _), (1, _)]) ⟨rfl, rfl, rfl, rfl, rfl, rfl, rfl, rfl, rfl, rfl, rfl, rfl, rfl, trivial⟩ <| hmemQ (X' := [_, _, _, _]) (S' := [_, _]) (fun _ m => m) <| hthen <| hreg <| hy (fun _ => y_move rfl) <| hy (fun _ => y_move rfl) <| hy (fun _ => y_wadd rfl rfl) <| hy (fun _ => y_idxA1 rfl rfl Tryd.underlying222 sz120 (show ((0 : Nat) : Int) = 0 from rfl) (by omega)) <| hy (fun m => y_ld1 rfl ag120 ((m.blk 0 rfl).cells0 0 _ (wds_get (by omega)))) <| hy (fun _ => y_idxA1 rfl rfl Tryd.underlying222 sz120 (show ((1 : Nat) : Int) = 1 from rfl) (by omega)) <| hy (fun m => y_ld1 rfl ag120 ((m.blk 0 rfl).cells0 1 _ (wds_get (by omega)))) <| hy (fun _ => y_idxA1 rfl rfl Tryd.underlying222 sz120 (show ((2 : Nat) : Int) = 2 from rfl) (by omega)) <| hy (fun m => y_ld1 rfl ag120 ((m.blk 0 rfl).cells0 2 _ (wds_get (by omega)))) <| hy (fun _ => y_idxA1 rfl rfl Tryd.underlying222 sz120 (show ((3 : Nat) : Int) = 3 from rfl) (by omega)) <| hy (fun m => y_ld1 rfl ag120 ((m.blk 0 rfl).cells0 3 _ (wds_get (by omega)))) <| hy (fun _ => y_move rfl) <| hy (fun _ => y_wadd rfl rfl) <| hy (fun _ => y_idxA1 rfl rfl Tryd.underlying222 sz120 (show ((4 : Nat) : Int) = 4 from rfl) (by omega)) <| hy (fun m => y_ld1 rfl ag120 ((m.blk 0 rfl).cells0 4 _ (wds_get (by omega)))) <| hy (fun _ => y_idxA1 rfl rfl Tryd.underlying222 sz120 (show ((5 : Nat) : Int) = 5 from rfl) (by omega)) <| hy (fun m => y_ld1 rfl ag120 ((m.blk 0 rfl).cells0 5 _ (wds_get (by omega)))) <| hy (fun _ => y_idxA1 rfl rfl Tryd.underlying222 sz120 (show ((6 : Nat) : Int) = 6 from rfl) (by omega)) <| hy (fun m => y_ld1 rfl ag120 ((m.blk 0 rfl).cells0 6 _ (wds_get (by omega)))) <| hy (fun _ => yV (y_buildA (n := 8) ti222 (by kernel_rfl) rfl (by kernel_rfl) rfl (by kernel_rfl) (by kernel_rfl) (wds_cells (l := [_, _, _, _, _, _, _, _]))) ((rfl : _ = Value.agg (wds (rnd v k (W.getD i 0))).toArray))) <| ?_
    refine hx0 (xh_stA 0 rfl rfl rfl sz222 rfl wds_one (by rw [wds_length, hv]) ?_)
    refine hend <| hsub (ρ' := [(11, _), (10, _), (9, _), (8, _), (7, _), (17, _), (16, _), (6, _), (5, _), (4, _), (2, _), (0, _), (1, _)]) ⟨rfl, rfl, rfl, rfl, rfl, rfl, rfl, rfl, rfl, rfl, rfl, rfl, rfl, trivial⟩ <| hmemQ (X' := [_, _, _, _]) (S' := [_, _]) (fun _ m => m) <| hqblock <| hthen <| hreg <| hy (fun _ => y_add rfl rfl (w64 (by omega) (by omega))) <| hy (fun _ => y_move rfl) <| hend <| hsub (ρ' := [(16, _), (11, _), (10, _), (9, _), (8, _), (7, _), (17, _), (6, _), (5, _), (4, _), (2, _), (0, _), (1, _)]) ⟨rfl, rfl, rfl, rfl, rfl, rfl, rfl, rfl, rfl, rfl, rfl, rfl, rfl, trivial⟩ <| ?_
    refine hmemQ (fun w m => m.eqX 0 rfl (show _ = RBlk g6 222 (wds (rnds W h (i + 1))) from by rw [← hvd, ← hk]; rfl)) ?_
    refine hnext1 (i + 1) ⟨rfl, rfl, rfl, rfl, rfl, rfl, rfl, trivial⟩ [0, 0, 0, 0] rfl [0, 1] rfl (by omega) (by omega)
  · obtain rfl : i = 64 := by omega
    generalize hvv : rnds W h 64 = v at hv ⊢
    refine hmemC (fun w m => m.eqX 0 rfl (show _ = RBlk g6 222 (wds (hsum v h 0)) from by rw [hsum_zero])) ?_
    refine hexit <| hthen_exit <| hthen_exit <| hqblock_exit <| hthen <| hseq <| hseq <| hreg <| hy (fun _ => y_move rfl) <| hend <| hthen <| hblock <| ?_
    refine hloop1 (fun j => 8 - j) (fun j => [(86, .int .i64 (j : Nat))]) (fun j => [RBlk g6 222 (wds (hsum v h j))]) (fun j => []) (fun j => j ≤ 8) 0 [(17, _), (16, _), (6, _), (5, _), (4, _), (2, _), (0, _), (1, _)] ⟨rfl, rfl, rfl, rfl, rfl, rfl, rfl, rfl, trivial⟩ [0] rfl [] rfl (Nat.zero_le _) ⟨rfl, trivial⟩ (fun j hj8 => ?_)
    have hsl := hsum_length v h j
    refine hseq <| hreg <| hy (fun _ => y_lss rfl rfl) <| hend <| hthen <| hseq <| ?_
    refine hif rfl (fun hj => ?_) (fun hj => ?_)
    · refine hcskip <| hthen <| hseq <| hblock <| hseq <| hreg <| hy (fun _ => y_move rfl) <| hy (fun _ => y_assign rfl) <| hend <| hsub (ρ' := [(12, _), (87, _), (86, _), (17, _), (16, _), (6, _), (5, _), (4, _), (2, _), (0, _), (1, _)]) ⟨rfl, rfl, rfl, rfl, rfl, rfl, rfl, rfl, rfl, rfl, rfl, trivial⟩ <| hthen <| hdrw [8] [(0, some 0), (1, some 0), (2, some 0), (3, some 0), (4, some 0), (5, some 0), (6, some 0), (7, some 0), (8, none)] (by kernel_rfl) (by kernel_rfl) rfl 0 <| htyU (y_move rfl) <| htyU (y_idxA1 rfl rfl Tryd.underlying222 sz120 rfl (by omega)) <| hty (fun m => y_ld1 rfl ag120 ((m.blk 0 rfl).cells0 j _ (wds_get (by omega)))) <| htyU (y_move rfl) <| htyU (y_idxA1 rfl rfl Tryd.underlying222 sz120 rfl (by omega)) <| hty (fun m => y_ld1 rfl ag120 ((m.blk 3 rfl).cells0 j _ (wds_get (by omega)))) <| htyU (yV (y_wadd rfl rfl) ((rfl : _ = Wd (v_ (hsum v h j) j + v_ h j)))) <| htyU (y_idxA1 rfl rfl Tryd.underlying222 sz120 rfl (by omega)) <| ?_
      refine htx0 (xh_st1a 0 rfl rfl rfl sz120 rfl (by rw [wds_length]; omega) ⟨(fun h => absurd h (by decide)), ?_⟩)
      refine htend <| hsub (ρ' := [(12, _), (87, _), (86, _), (17, _), (16, _), (6, _), (5, _), (4, _), (2, _), (0, _), (1, _)]) ⟨rfl, rfl, rfl, rfl, rfl, rfl, rfl, rfl, rfl, rfl, rfl, trivial⟩ <| hmemQ (X' := [_, _, _, _]) (S' := [_, _]) (fun _ m => m) <| hqblock <| hthen <| hreg <| hy (fun _ => y_add rfl rfl (w64 (by omega) (by omega))) <| hy (fun _ => y_move rfl) <| hend <| hsub (ρ' := [(86, _), (12, _), (87, _), (17, _), (16, _), (6, _), (5, _), (4, _), (2, _), (0, _), (1, _)]) ⟨rfl, rfl, rfl, rfl, rfl, rfl, rfl, rfl, rfl, rfl, rfl, trivial⟩ <| ?_
      refine hmemQ (fun w m => m.eqX 0 rfl (show _ = RBlk g6 222 (wds (hsum v h (j + 1))) from by rw [Nat.zero_add, wds_set, hsum_succ (by omega)])) ?_
      refine hnext1 (j + 1) ⟨rfl, rfl, rfl, rfl, rfl, rfl, rfl, rfl, rfl, trivial⟩ [0, 0, 0, 0] rfl [0, 1] rfl (by omega) (by omega)
    · obtain rfl : j = 8 := by omega
      have hB : hsum v h 8 = blockL h l := by rw [blockL, hW, hvv]
      rw [hB]
      have hbl := blockL_length hh l
      refine hexit <| hthen_exit <| hthen_exit <| hqblock_exit <| hthen <| hseq <| hreg <| hy (fun m => yV (y_ldN rfl ag222 sz222 (by rw [wds_length, hbl]) ((m.blk 0 rfl).cells0)) ((rfl : _ = Value.agg (wds (blockL h l)).toArray))) <| ?_
      refine hx0 (xh_stA 2 rfl rfl rfl sz222 (by rw [wds_length, hbl]) wds_one rfl ?_)
      refine hend <| hsub (ρ' := [(87, _), (86, _), (17, _), (16, _), (6, _), (5, _), (4, _), (2, _), (0, _), (1, _)]) ⟨rfl, rfl, rfl, rfl, rfl, rfl, rfl, rfl, rfl, rfl, trivial⟩ <| hmemQ (X' := [_, _, _, _]) (S' := [_, _]) (fun _ m => m) <| hthen <| hret <| ?_
      exact hretN trivial rfl rfl ag222 sz222 (by rw [wds_length, hbl]) (fun m => (m.blk 0 rfl).cells0) [] rfl [] rfl ⟨rfl, rfl, rfl⟩
end Go.Proofs.YtfikjheicjamhaaDoor
end
