/- Contracts: the check sum, of the program and of the reference. -/
import Derived.Test.YtpcgpnijhpcbeaaTy
import Derived.Test.YtpcgpnijhpcbeaaPlainCrc
import Derived.Test.YtpcgpnijhpcbeaaPlain2
set_option linter.unusedVariables false
set_option linter.unusedSimpArgs false
set_option maxRecDepth 20000
namespace Go.Proofs.Ytpcgpnijhpcbeaa
open Go.Eng Go.Hx
theorem crcStep (g : Nat) (bt : TypeId) (x : Nat) (hx : x < 4294967296) (w : World) (hb : Blk w g bt [.int .u32 (x : Int)]) :
    Calls Try.prog 108 #[.pointer (some ⟨g, 0, none⟩)] w fun e w' => e = .returned (.tuple #[]) ∧ Fr (fun i => i = g) w w' ∧ Blk w' g bt [.int .u32 (cstep x : Nat)] := by
  have hc : w.cell? ⟨g, 0, none⟩ = some (.int .u32 (x : Int)) := hb.cell rfl
  have h3 : (0 : Int) ≤ 2197175160 * ((x % 2 : Nat) : Int) ∧ 2197175160 * ((x % 2 : Nat) : Int) < 4294967296 := by omega
  refine enter (N := 9) Try.func108 rfl rfl (by simp) ?_
  refine cseq <| creg <| nq (y_ld1 rfl ag82 hc) <| nq (y_bits (by simp) rfl rfl (and1 x hx)) <| nq (y_assign rfl) <| nend <| qsub (sub_cons (t := 1) rfl <| sub_cons (t := 0) rfl <| sub_nil) <| qthen <| creg <| nq (y_ld1 rfl ag82 hc) <| nq (y_shr (p := 2) rfl rfl (by decide) (by decide) (by decide)) <| nq (y_move rfl) <| nq (y_mul rfl rfl (w32 h3.1 h3.2)) <| nq (y_bits (by simp) rfl rfl (xor_step x hx)) <| ?_
  refine nx0 (x_st1 rfl rfl sz82 rfl hb (by simp) fun w1 hf1 hb1 hs1 => ?_)
  refine nend <| qsub (sub_cons (t := 1) rfl <| sub_cons (t := 0) rfl <| sub_nil) <| ?_
  exact ret0 trivial rfl ⟨rfl, hf1, hb1⟩
theorem crcSteps (x n : Nat) (hx : x < 4294967296) (hn : n ≤ 1000000) (w : World) :
    Calls Try.prog 95 #[.int .u32 (x : Int), .int .i64 (n : Int)] w fun e w' => e = .returned (.int .u32 (csteps n x : Nat)) ∧ Fr No w w' := by
  refine enter (N := 14) Try.func95 rfl rfl (by simp) ?_
  refine cseq <| creg <| ?_
  refine nx (x_box rfl fun g w1 hg hf1 hb1 => ?_)
  refine nq (y_assign rfl) <| nend <| qthen <| cseq <| creg <| nq (y_mkf rfl rfl) <| nq (y_assign rfl) <| nend <| qsub (sub_cons (t := 5) rfl <| sub_cons (t := 4) rfl <| sub_cons (t := 2) rfl <| sub_cons (t := 0) rfl <| sub_cons (t := 1) rfl <| sub_nil) <| qthen <| cseq <| cseq <| creg <| nq (y_move rfl) <| nq (y_move rfl) <| nend <| qthen <| cblock <| ?_
  refine cloop1 (fun k => n - k) (fun k => [(2, .pointer (some ⟨g, 0, none⟩)), (5, .func (.func 108) #[] #[.pointer (some ⟨g, 0, none⟩)]), (7, .int .i64 (n : Int)), (8, .int .i64 (k : Nat))]) (fun k w' => k ≤ n ∧ Fr No w w' ∧ Blk w' g 82 [.int .u32 (csteps k x : Nat)]) 0 (⟨Nat.zero_le _, hf1, hb1⟩) (sub_cons (t := 2) rfl <| sub_cons (t := 5) rfl <| sub_cons (t := 7) rfl <| sub_cons (t := 8) rfl <| sub_nil) (fun k w2 ⟨hk, hf2, hb2⟩ => ?_)
  refine cseq <| creg <| nq (y_lss rfl rfl) <| nend <| qthen <| cseq <| ?_
  refine cif rfl (fun h => ?_) (fun h => ?_)
  · refine cskip <| qthen <| cseq <| cblock <| creg <| nq (y_move rfl) <| ?_
    refine nx (x_callv rfl rfl Try.call108 (first := []) (cap := [_]) (crcStep g _ _ (csteps_lt hx k) _ hb2) ?_)
    rintro e_ w3 ⟨rfl, hf3, hb3⟩
    refine ⟨_, rfl, ?_⟩
    refine nend <| qsub (sub_cons (t := 9) rfl <| sub_cons (t := 2) rfl <| sub_cons (t := 5) rfl <| sub_cons (t := 7) rfl <| sub_cons (t := 8) rfl <| sub_nil) <| qblock <| qthen <| creg <| nq (y_add rfl rfl (w64 (by omega) (by omega))) <| nq (y_move rfl) <| nend <| qsub (sub_cons (t := 8) rfl <| sub_cons (t := 9) rfl <| sub_cons (t := 2) rfl <| sub_cons (t := 5) rfl <| sub_cons (t := 7) rfl <| sub_nil) <| ?_
    refine qloop1 (k + 1) (sub_cons (t := 2) rfl <| sub_cons (t := 5) rfl <| sub_cons (t := 7) rfl <| sub_cons (t := 8) rfl <| sub_nil) (⟨by omega, hf2.new hf3 (fun i hi => by omega), hb3⟩) (by omega)
  · obtain rfl : k = n := by omega
    refine cexit <| qthen_exit <| qthen_exit <| qblock_exit <| qthen <| cseq <| creg <| nq (y_ld1 rfl ag82 ((hb2.cell rfl))) <| nq (y_assign rfl) <| nend <| qsub (sub_cons (t := 4) rfl <| sub_cons (t := 9) rfl <| sub_cons (t := 2) rfl <| sub_cons (t := 5) rfl <| sub_cons (t := 7) rfl <| sub_cons (t := 8) rfl <| sub_nil) <| qthen <| cret <| ?_
    exact ret1 trivial rfl rfl ⟨rfl, hf2⟩
theorem crcMore (A : Option Addr) (n c : Nat) (l : List UInt8) (s : Nat) (hs : s < 4294967296) (w : World) (hr : Rd w 1 A n (b8s l)) (hn : n ≤ 140737488351232) :
    Calls Try.prog 82 #[.int .u32 (s : Int), .slice A n c] w fun e w' => e = .returned (.int .u32 (4294967295 - cmore (4294967295 - s) l : Nat)) ∧ Fr No w w' := by
  have hl : l.length = n := by have := hr.1; rw [b8s_length] at this; omega
  refine enter (N := 25) Try.func82 rfl rfl (by simp) ?_
  refine cseq <| creg <| nq (y_assign rfl) <| nend <| qthen <| cseq <| creg <| nq (y_move rfl) <| nq (yV (y_inv32 rfl hs) (congrArg (fun n : Nat => Value.int .u32 (n : Int)) (xor_ones hs))) <| nq (y_assign rfl) <| nend <| qsub (sub_cons (t := 5) rfl <| sub_cons (t := 4) rfl <| sub_cons (t := 0) rfl <| sub_cons (t := 1) rfl <| sub_nil) <| qthen <| cseq <| cseq <| creg <| nq (y_move rfl) <| nq (y_lenS rfl Try.underlying29) <| nq (y_move rfl) <| nend <| qsub (sub_cons (t := 11) rfl <| sub_cons (t := 10) rfl <| sub_cons (t := 5) rfl <| sub_cons (t := 4) rfl <| sub_cons (t := 0) rfl <| sub_cons (t := 1) rfl <| sub_nil) <| qthen <| cblock <| ?_
  refine cloop1 (fun k => n - k) (fun k => [(1, .slice A n c), (5, .int .u32 (cmore (4294967295 - s) (l.take k) : Nat)), (10, .int .i64 (n : Int)), (11, .int .i64 (k : Nat))]) (fun k w' => k ≤ n ∧ Fr No w w') 0 (⟨Nat.zero_le _, Fr.refl _ _⟩) (sub_cons (t := 1) rfl <| sub_cons (t := 5) rfl <| sub_cons (t := 10) rfl <| sub_cons (t := 11) rfl <| sub_nil) (fun k w2 ⟨hk, hf2⟩ => ?_)
  refine cseq <| creg <| nq (y_lss rfl rfl) <| nend <| qthen <| cseq <| ?_
  refine cif rfl (fun h => ?_) (fun h => ?_)
  · have hkn : k < l.length := by omega
    have hm := cmore_lt (n := 4294967295 - s) (by omega) (l.take k)
    have hbt := (l.getD k 0).toNat_lt
    have r2 := hr.fr0 hf2
    refine cskip <| qthen <| cseq <| cblock <| cseq <| creg <| nq (y_move rfl) <| nq (y_assign rfl) <| nend <| qsub (sub_cons (t := 6) rfl <| sub_cons (t := 12) rfl <| sub_cons (t := 1) rfl <| sub_cons (t := 5) rfl <| sub_cons (t := 10) rfl <| sub_cons (t := 11) rfl <| sub_nil) <| qthen <| creg <| nq (y_move rfl) <| nq (y_move rfl) <| nq (y_move rfl) <| nq (y_idxS1 rfl rfl Try.underlying29 sz5 r2.2.1 rfl (by omega)) <| nq (y_ld1 rfl ag5 (r2.cell (b8s_get hkn))) <| nq (y_conv rfl Try.underlying5 Try.underlying82 ((w32 (by omega) (by omega)))) <| nq (y_bits (by simp) rfl rfl (xor_byte _ hm _)) <| ?_
    refine nx (x_call rfl Try.call95 (crcSteps _ 8 (xor_byte_lt hm _) (by decide) _) ?_)
    rintro e_ w3 ⟨rfl, hf3⟩
    refine ⟨_, rfl, ?_⟩
    rw [← cmore_snoc, ← Go.Hx.take_snoc hkn]
    refine nq (y_assign rfl) <| nend <| qsub (sub_cons (t := 5) rfl <| sub_cons (t := 6) rfl <| sub_cons (t := 12) rfl <| sub_cons (t := 1) rfl <| sub_cons (t := 10) rfl <| sub_cons (t := 11) rfl <| sub_nil) <| qblock <| qthen <| creg <| nq (y_add rfl rfl (w64 (by omega) (by omega))) <| nq (y_move rfl) <| nend <| qsub (sub_cons (t := 11) rfl <| sub_cons (t := 5) rfl <| sub_cons (t := 6) rfl <| sub_cons (t := 12) rfl <| sub_cons (t := 1) rfl <| sub_cons (t := 10) rfl <| sub_nil) <| ?_
    refine qloop1 (k + 1) (sub_cons (t := 1) rfl <| sub_cons (t := 5) rfl <| sub_cons (t := 10) rfl <| sub_cons (t := 11) rfl <| sub_nil) (⟨by omega, hf2.trans0 hf3⟩) (by omega)
  · obtain rfl : k = n := by omega
    have hm := cmore_lt (n := 4294967295 - s) (by omega) (l.take k)
    refine cexit <| qthen_exit <| qthen_exit <| qblock_exit <| qthen <| cseq <| creg <| nq (y_move rfl) <| nq (y_inv32 rfl hm) <| nq (y_assign rfl) <| nend <| qsub (sub_cons (t := 4) rfl <| sub_cons (t := 12) rfl <| sub_cons (t := 1) rfl <| sub_cons (t := 5) rfl <| sub_cons (t := 10) rfl <| sub_cons (t := 11) rfl <| sub_nil) <| qthen <| cret <| ?_
    rw [List.take_of_length_le (by omega)] at hm ⊢
    rw [xor_ones hm]
    exact ret1 trivial rfl rfl ⟨rfl, hf2⟩
theorem crcSum_c (A : Option Addr) (n c : Nat) (l : List UInt8) (w : World) (hr : Rd w 1 A n (b8s l)) (hn : n ≤ 140737488351232) :
    Calls Try.prog 73 #[.slice A n c] w fun e w' => e = .returned (.int .u32 (crcSum l : Nat)) ∧ Fr No w w' := by
  refine enter (N := 5) Try.func73 rfl rfl (by simp) ?_
  refine cseq <| creg <| nq (y_assign rfl) <| nend <| qthen <| cseq <| creg <| nq (y_move rfl) <| ?_
  refine nx (x_call rfl Try.call82 (crcMore A n c l 0 (by decide) w hr hn) ?_)
  rintro e_ w1 ⟨rfl, hf1⟩
  refine ⟨_, rfl, ?_⟩
  refine nq (y_assign rfl) <| nend <| qsub (sub_cons (t := 2) rfl <| sub_cons (t := 0) rfl <| sub_nil) <| qthen <| cret <| ?_
  exact ret1 trivial rfl rfl ⟨rfl, hf1⟩
theorem clone (A : Option Addr) (n c : Nat) (l : List UInt8) (w : World) (hr : Rd w 1 A n (b8s l)) (hn : n ≤ 140737488351232) :
    Calls Try.prog 49 #[.slice A n c] w fun e w' => ∃ v, e = .returned v ∧ Own w' w.heap.size 5 1 v n (b8s l) ∧ Fr No w w' := by
  have hl : l.length = n := by have := hr.1; rw [b8s_length] at this; omega
  refine enter (N := 8) Try.func49 rfl rfl (by simp) ?_
  refine cseq <| creg <| nq (y_assign rfl) <| nend <| qthen <| cseq <| cseq <| creg <| nq (y_move rfl) <| nq (y_eqSn rfl rfl Try.underlying29) <| nend <| qsub (sub_cons (t := 4) rfl <| sub_cons (t := 2) rfl <| sub_cons (t := 0) rfl <| sub_nil) <| qthen <| ?_
  cases A with
  | none =>
    have h0 : n = 0 := by
      rcases Nat.eq_zero_or_pos n with h | h
      · exact h
      · exact absurd rfl (hr.2.1 h)
    subst h0
    obtain rfl : l = [] := List.eq_nil_of_length_eq_zero hl
    refine cift rfl (rfl) ?_
    refine cseq <| creg <| nq (y_assign rfl) <| nend <| qthen <| cret <| qthen_ret <| ?_
    exact ret1 trivial rfl rfl ⟨_, rfl, Own.nil _ _ _ _, Fr.refl _ _⟩
  | some a =>
    refine ciff rfl (rfl) ?_
    refine cskip <| qthen <| cseq <| creg <| ?_
    refine nx (x_bsl0 Try.underlying29 ti5 fun g w1 hg hf1 hb1 => ?_)
    refine nq (y_move rfl) <| ?_
    refine nx (x_app rfl rfl Try.underlying29 Try.underlying29 (by exact .inl rfl) ti5 rfl (Own.made0 hb1 hg) (Src.of_rd (hr.fr0 hf1)) b8s_oneCell (by unfold maxLen; omega) (by omega) hf1.size fun v w2 ho hf2 hv => ?_)
    refine nq (y_assign rfl) <| nend <| qsub (sub_cons (t := 2) rfl <| sub_cons (t := 4) rfl <| sub_cons (t := 0) rfl <| sub_nil) <| qthen <| cret <| ?_
    refine ret1 trivial rfl rfl ⟨v, rfl, ?_, hf1.new hf2 (fun i hi => by have : i = g := hi; omega)⟩
    simpa using ho
theorem crcPut (A : Option Addr) (n c : Nat) (l : List UInt8) (w : World) (hr : Rd w 1 A n (b8s l)) (hn : n ≤ 70368744177664) :
    Calls Try.prog 56 #[.slice A n c] w fun e w' => ∃ v, e = .returned v ∧ Own w' w.heap.size 5 1 v (n + 4) (b8s (putL l)) ∧ Fr No w w' := by
  have hl : l.length = n := by have := hr.1; rw [b8s_length] at this; omega
  refine enter (N := 20) Try.func56 rfl rfl (by simp) ?_
  refine cseq <| creg <| nq (y_assign rfl) <| nend <| qthen <| cseq <| creg <| nq (y_move rfl) <| ?_
  refine nx (x_call rfl Try.call73 (crcSum_c A n c l w hr (by omega)) ?_)
  rintro e_ w1 ⟨rfl, hf1⟩
  refine ⟨_, rfl, ?_⟩
  refine nq (y_assign rfl) <| nend <| qsub (sub_cons (t := 3) rfl <| sub_cons (t := 2) rfl <| sub_cons (t := 0) rfl <| sub_nil) <| qthen <| cseq <| creg <| nq (y_move rfl) <| ?_
  refine nx (x_call rfl Try.call49 (clone A n c l w1 (hr.fr0 hf1) (by omega)) ?_)
  rintro e_ w2 ⟨v, rfl, hv, hf2⟩
  refine ⟨_, rfl, ?_⟩
  have hlt := crcSum_lt l
  have hv := hv.wide (b := w.heap.size) hf1.size
  refine nq (y_assign rfl) <| nend <| qsub (sub_cons (t := 4) rfl <| sub_cons (t := 3) rfl <| sub_cons (t := 2) rfl <| sub_cons (t := 0) rfl <| sub_nil) <| qthen <| cseq <| cseq <| creg <| nq (y_move rfl) <| nend <| qthen <| cblock <| ?_
  refine cloop2 (fun k _ => 4 - k) (fun k v => [(3, .int .u32 (shr8 k (crcSum l) : Nat)), (4, v), (9, .int .i64 (k : Nat))]) (fun k v w' => k ≤ 4 ∧ Own w' w.heap.size 5 1 v (n + k) (b8s (l ++ lek k (crcSum l))) ∧ Fr No w w') 0 v (⟨Nat.zero_le _, by simpa [lek] using hv, hf1.trans0 hf2⟩) (sub_cons (t := 3) rfl <| sub_cons (t := 4) rfl <| sub_cons (t := 9) rfl <| sub_nil) (fun k v w3 ⟨hk, ho, hf⟩ => ?_)
  refine cseq <| creg <| nq (y_lss rfl rfl) <| nend <| qthen <| cseq <| ?_
  refine cif rfl (fun h => ?_) (fun h => ?_)
  · have hs8 := shr8_lt hlt k
    refine cskip <| qthen <| cseq <| cblock <| cseq <| creg <| nq (y_move rfl) <| nq (y_move rfl) <| nq (y_conv rfl Try.underlying82 Try.underlying5 ((u8mod _))) <| ?_
    refine nx (x_bsl Try.underlying29 ti5 rfl rfl rfl (by simp [Value.cells, B8]) (by decide) (by decide) fun g w4 hg hf4 hb4 => ?_)
    refine nx (x_app rfl rfl Try.underlying29 Try.underlying29 (by exact .inl rfl) ti5 rfl (ho.fr0 hf4) (Src.of_blk hb4 rfl) (b8s_one (l := [_])) (by unfold maxLen; omega) (by omega) (hf.trans0 hf4).size fun v5 w5 ho5 hf5 hv5 => ?_)
    refine nq (y_assign rfl) <| nend <| qsub (sub_cons (t := 4) rfl <| sub_cons (t := 10) rfl <| sub_cons (t := 3) rfl <| sub_cons (t := 9) rfl <| sub_nil) <| qthen <| creg <| nq (y_move rfl) <| nq (y_shr (p := 256) rfl rfl (by decide) (by decide) (by decide)) <| nq (y_assign rfl) <| nend <| qsub (sub_cons (t := 3) rfl <| sub_cons (t := 4) rfl <| sub_cons (t := 10) rfl <| sub_cons (t := 9) rfl <| sub_nil) <| qblock <| qthen <| creg <| nq (y_add rfl rfl (w64 (by omega) (by omega))) <| nq (y_move rfl) <| nend <| qsub (sub_cons (t := 9) rfl <| sub_cons (t := 3) rfl <| sub_cons (t := 4) rfl <| sub_cons (t := 10) rfl <| sub_nil) <| ?_
    refine qloop2 (k + 1) v5 (sub_cons (t := 3) rfl <| sub_cons (t := 4) rfl <| sub_cons (t := 9) rfl <| sub_nil) (⟨by omega, by rw [lek_succ, ← List.append_assoc, b8s_append]; exact ho5, (hf.trans0 hf4).new hf5 (fun i hi => (ho.from hi).1)⟩) (by omega)
  · obtain rfl : k = 4 := by omega
    refine cexit <| qthen_exit <| qthen_exit <| qblock_exit <| qthen <| cseq <| creg <| nq (y_move rfl) <| nq (y_assign rfl) <| nend <| qsub (sub_cons (t := 2) rfl <| sub_cons (t := 10) rfl <| sub_cons (t := 3) rfl <| sub_cons (t := 4) rfl <| sub_cons (t := 9) rfl <| sub_nil) <| qthen <| cret <| ?_
    rw [lek_four] at ho
    exact ret1 trivial rfl rfl ⟨v, rfl, ho, hf⟩
theorem rcrcMore (A : Option Addr) (n c : Nat) (l : List UInt8) (s : Nat) (hs : s < 4294967296) (w : World) (hr : Rd w 1 A n (b8s l)) (hn : n ≤ 140737488351232) :
    Calls Try.prog 63 #[.int .u32 (s : Int), .slice A n c] w fun e w' => e = .returned (.int .u32 (4294967295 - cmore (4294967295 - s) l : Nat)) ∧ w = w' := by
  have hl : l.length = n := by have := hr.1; rw [b8s_length] at this; omega
  refine enter (N := 37) Try.func63 rfl rfl (by simp) ?_
  refine cseq <| creg <| nq (y_assign rfl) <| nend <| qthen <| cseq <| creg <| nq (y_move rfl) <| nq (y_sub rfl rfl ((show IntKind.u32.wrap (4294967295 - (s : Int)) = ((4294967295 - s : Nat) : Int) by rw [w32 (by omega) (by omega)]; omega))) <| nq (y_assign rfl) <| nend <| qsub (sub_cons (t := 5) rfl <| sub_cons (t := 4) rfl <| sub_cons (t := 0) rfl <| sub_cons (t := 1) rfl <| sub_nil) <| qthen <| cseq <| cseq <| creg <| nq (y_assign rfl) <| nend <| qthen <| cblock <| ?_
  refine cloop1 (fun k => n - k) (fun k => [(1, .slice A n c), (5, .int .u32 (cmore (4294967295 - s) (l.take k) : Nat)), (6, .int .i64 (k : Nat))]) (fun k w' => k ≤ n ∧ w = w') 0 (⟨Nat.zero_le _, rfl⟩) (sub_cons (t := 1) rfl <| sub_cons (t := 5) rfl <| sub_cons (t := 6) rfl <| sub_nil) (fun k w2 ⟨hk, hw⟩ => ?_)
  obtain rfl := hw
  refine cseq <| cseq <| creg <| nq (y_move rfl) <| nq (y_move rfl) <| nq (y_lenS rfl Try.underlying29) <| nq (y_lss rfl rfl) <| nend <| qsub (sub_cons (t := 13) rfl <| sub_cons (t := 1) rfl <| sub_cons (t := 5) rfl <| sub_cons (t := 6) rfl <| sub_nil) <| qthen <| ?_
  refine cif rfl (fun h => ?_) (fun h => ?_)
  · have hkn : k < l.length := by omega
    have hm := cmore_lt (n := 4294967295 - s) (by omega) (l.take k)
    have hbt := (l.getD k 0).toNat_lt
    have hx := xor_byte_lt hm (l.getD k 0)
    refine cskip <| qthen <| cseq <| cblock <| cseq <| creg <| nq (y_move rfl) <| nq (y_move rfl) <| nq (y_move rfl) <| nq (y_idxS1 rfl rfl Try.underlying29 sz5 hr.2.1 rfl (by omega)) <| nq (y_ld1 rfl ag5 (hr.cell (b8s_get hkn))) <| nq (y_conv rfl Try.underlying5 Try.underlying82 ((w32 (by omega) (by omega)))) <| nq (y_bits (by simp) rfl rfl (xor_byte _ hm _)) <| nq (y_assign rfl) <| nend <| qsub (sub_cons (t := 5) rfl <| sub_cons (t := 13) rfl <| sub_cons (t := 1) rfl <| sub_cons (t := 6) rfl <| sub_nil) <| qthen <| cseq <| creg <| nq (y_assign rfl) <| nend <| qthen <| cblock <| ?_
    generalize hX : cmore (4294967295 - s) (l.take k) ^^^ (l.getD k 0).toNat = X at hx
    refine cloop1 (fun q => 8 - q) (fun q => [(1, .slice A n c), (5, .int .u32 (csteps q X : Nat)), (6, .int .i64 (k : Nat)), (7, .int .i64 (q : Nat))]) (fun q w' => q ≤ 8 ∧ w = w') 0 (⟨Nat.zero_le _, rfl⟩) (sub_cons (t := 1) rfl <| sub_cons (t := 5) rfl <| sub_cons (t := 6) rfl <| sub_cons (t := 7) rfl <| sub_nil) (fun q w3 ⟨hq, hw⟩ => ?_)
    obtain rfl := hw
    have hc := csteps_lt hx q
    refine cseq <| cseq <| creg <| nq (y_move rfl) <| nq (y_lss rfl rfl) <| nend <| qsub (sub_cons (t := 24) rfl <| sub_cons (t := 1) rfl <| sub_cons (t := 5) rfl <| sub_cons (t := 6) rfl <| sub_cons (t := 7) rfl <| sub_nil) <| qthen <| ?_
    refine cif rfl (fun h2 => ?_) (fun h2 => ?_)
    · refine cskip <| qthen <| cseq <| cblock <| cseq <| creg <| nq (y_move rfl) <| nq (y_rem rfl rfl (by omega) (by omega)) <| nq (y_eql rfl rfl) <| nend <| qsub (sub_cons (t := 29) rfl <| sub_cons (t := 24) rfl <| sub_cons (t := 1) rfl <| sub_cons (t := 5) rfl <| sub_cons (t := 6) rfl <| sub_cons (t := 7) rfl <| sub_nil) <| qthen <| ?_
      refine cif rfl (fun h3 => ?_) (fun h3 => ?_)
      · refine creg <| nq (y_move rfl) <| nq (y_quo rfl rfl (by omega) (by omega) (w32 (by omega) (by omega))) <| nq (y_bits (by simp) rfl rfl (xor_poly _ hc)) <| nq (y_assign rfl) <| nend <| qsub (sub_cons (t := 5) rfl <| sub_cons (t := 29) rfl <| sub_cons (t := 24) rfl <| sub_cons (t := 1) rfl <| sub_cons (t := 6) rfl <| sub_cons (t := 7) rfl <| sub_nil) <| qblock <| qthen <| creg <| nq (y_move rfl) <| nq (y_add rfl rfl (w64 (by omega) (by omega))) <| nq (y_assign rfl) <| nend <| qsub (sub_cons (t := 7) rfl <| sub_cons (t := 5) rfl <| sub_cons (t := 29) rfl <| sub_cons (t := 24) rfl <| sub_cons (t := 1) rfl <| sub_cons (t := 6) rfl <| sub_nil) <| ?_
        rw [show csteps q X / 2 ^^^ 2197175160 = csteps (q + 1) X by rw [csteps, cstep, if_pos (by omega)]]
        refine qloop1 (q + 1) (sub_cons (t := 1) rfl <| sub_cons (t := 5) rfl <| sub_cons (t := 6) rfl <| sub_cons (t := 7) rfl <| sub_nil) (⟨by omega, rfl⟩) (by omega)
      · refine creg <| nq (y_move rfl) <| nq (y_quo rfl rfl (by omega) (by omega) (w32 (by omega) (by omega))) <| nq (y_assign rfl) <| nend <| qsub (sub_cons (t := 5) rfl <| sub_cons (t := 29) rfl <| sub_cons (t := 24) rfl <| sub_cons (t := 1) rfl <| sub_cons (t := 6) rfl <| sub_cons (t := 7) rfl <| sub_nil) <| qblock <| qthen <| creg <| nq (y_move rfl) <| nq (y_add rfl rfl (w64 (by omega) (by omega))) <| nq (y_assign rfl) <| nend <| qsub (sub_cons (t := 7) rfl <| sub_cons (t := 5) rfl <| sub_cons (t := 29) rfl <| sub_cons (t := 24) rfl <| sub_cons (t := 1) rfl <| sub_cons (t := 6) rfl <| sub_nil) <| ?_
        rw [show (csteps q X : Int) / 2 = ((csteps (q + 1) X : Nat) : Int) by rw [csteps, cstep, if_neg (by omega)]; omega]
        refine qloop1 (q + 1) (sub_cons (t := 1) rfl <| sub_cons (t := 5) rfl <| sub_cons (t := 6) rfl <| sub_cons (t := 7) rfl <| sub_nil) (⟨by omega, rfl⟩) (by omega)
    · obtain rfl : q = 8 := by omega
      refine cexit <| qthen_exit <| qthen_exit <| qblock_exit <| qblock <| qthen <| creg <| nq (y_move rfl) <| nq (y_add rfl rfl (w64 (by omega) (by omega))) <| nq (y_assign rfl) <| nend <| qsub (sub_cons (t := 6) rfl <| sub_cons (t := 24) rfl <| sub_cons (t := 1) rfl <| sub_cons (t := 5) rfl <| sub_cons (t := 7) rfl <| sub_nil) <| ?_
      rw [← hX, ← cmore_snoc, ← Go.Hx.take_snoc hkn]
      refine qloop1 (k + 1) (sub_cons (t := 1) rfl <| sub_cons (t := 5) rfl <| sub_cons (t := 6) rfl <| sub_nil) (⟨by omega, rfl⟩) (by omega)
  · obtain rfl : k = n := by omega
    have hm := cmore_lt (n := 4294967295 - s) (by omega) (l.take k)
    refine cexit <| qthen_exit <| qthen_exit <| qblock_exit <| qthen <| cseq <| creg <| nq (y_move rfl) <| nq (y_sub rfl rfl ((show IntKind.u32.wrap (4294967295 - ((cmore (4294967295 - s) (l.take k) : Nat) : Int)) = ((4294967295 - cmore (4294967295 - s) (l.take k) : Nat) : Int) by rw [w32 (by omega) (by omega)]; omega))) <| nq (y_assign rfl) <| nend <| qsub (sub_cons (t := 4) rfl <| sub_cons (t := 13) rfl <| sub_cons (t := 1) rfl <| sub_cons (t := 5) rfl <| sub_cons (t := 6) rfl <| sub_nil) <| qthen <| cret <| ?_
    rw [List.take_of_length_le (by omega)]
    exact ret1 trivial rfl rfl ⟨rfl, rfl⟩
theorem rcrcPut (A : Option Addr) (n c : Nat) (l : List UInt8) (w : World) (hr : Rd w 1 A n (b8s l)) (hn : n ≤ 70368744177664) :
    Calls Try.prog 36 #[.slice A n c] w fun e w' => ∃ v, e = .returned v ∧ Own w' w.heap.size 5 1 v (n + 4) (b8s (putL l)) ∧ Fr No w w' := by
  have hl : l.length = n := by have := hr.1; rw [b8s_length] at this; omega
  refine enter (N := 24) Try.func36 rfl rfl (by simp) ?_
  refine cseq <| creg <| nq (y_assign rfl) <| nend <| qthen <| cseq <| creg <| nq (y_move rfl) <| ?_
  refine nx (x_call rfl Try.call63 (rcrcMore A n c l 0 (by decide) w hr (by omega)) ?_)
  rintro e_ w1 ⟨rfl, rfl⟩
  refine ⟨_, rfl, ?_⟩
  refine nq (y_assign rfl) <| nend <| qsub (sub_cons (t := 3) rfl <| sub_cons (t := 2) rfl <| sub_cons (t := 0) rfl <| sub_nil) <| qthen <| cseq <| creg <| nq (y_assign rfl) <| nend <| qthen <| cseq <| creg <| nq (y_move rfl) <| nq (y_move rfl) <| ?_
  refine nx (x_app rfl rfl Try.underlying29 Try.underlying29 (by exact .inl rfl) ti5 rfl (Own.nil w w.heap.size _ 1) (Src.of_rd hr) b8s_oneCell (by unfold maxLen; omega) (by omega) (Nat.le_refl _) fun v w2 hv hf2 hvv => ?_)
  have hlt := crcSum_lt l
  have f2 : Fr No w w2 := hf2.mono (fun _ _ e => e.elim)
  refine nq (y_assign rfl) <| nend <| qsub (sub_cons (t := 4) rfl <| sub_cons (t := 3) rfl <| sub_cons (t := 2) rfl <| sub_cons (t := 0) rfl <| sub_nil) <| qthen <| cseq <| cseq <| creg <| nq (y_assign rfl) <| nend <| qthen <| cblock <| ?_
  refine cloop2 (fun k _ => 4 - k) (fun k v => [(3, .int .u32 (shr8 k (crcSum l) : Nat)), (4, v), (5, .int .i64 (k : Nat))]) (fun k v w' => k ≤ 4 ∧ Own w' w.heap.size 5 1 v (n + k) (b8s (l ++ lek k (crcSum l))) ∧ Fr No w w') 0 v (⟨Nat.zero_le _, by simpa [lek] using hv, f2⟩) (sub_cons (t := 3) rfl <| sub_cons (t := 4) rfl <| sub_cons (t := 5) rfl <| sub_nil) (fun k v w3 ⟨hk, ho, hf⟩ => ?_)
  refine cseq <| cseq <| creg <| nq (y_move rfl) <| nq (y_lss rfl rfl) <| nend <| qsub (sub_cons (t := 12) rfl <| sub_cons (t := 3) rfl <| sub_cons (t := 4) rfl <| sub_cons (t := 5) rfl <| sub_nil) <| qthen <| ?_
  refine cif rfl (fun h => ?_) (fun h => ?_)
  · have hs8 := shr8_lt hlt k
    refine cskip <| qthen <| cseq <| cblock <| cseq <| creg <| nq (y_move rfl) <| nq (y_move rfl) <| nq (y_rem rfl rfl (by omega) (by omega)) <| nq (y_conv rfl Try.underlying82 Try.underlying5 ((show IntKind.u8.wrap (((shr8 k (crcSum l) : Nat) : Int) % 256) = ((UInt8.ofNat (shr8 k (crcSum l))).toNat : Int) by simp [IntKind.wrap, IntKind.signed, IntKind.bits]))) <| ?_
    refine nx (x_bsl Try.underlying29 ti5 rfl rfl rfl (by simp [Value.cells, B8]) (by decide) (by decide) fun g w4 hg hf4 hb4 => ?_)
    refine nx (x_app rfl rfl Try.underlying29 Try.underlying29 (by exact .inl rfl) ti5 rfl (ho.fr0 hf4) (Src.of_blk hb4 rfl) (b8s_one (l := [_])) (by unfold maxLen; omega) (by omega) (hf.trans0 hf4).size fun v5 w5 ho5 hf5 hv5 => ?_)
    refine nq (y_assign rfl) <| nend <| qsub (sub_cons (t := 4) rfl <| sub_cons (t := 12) rfl <| sub_cons (t := 3) rfl <| sub_cons (t := 5) rfl <| sub_nil) <| qthen <| creg <| nq (y_move rfl) <| nq (y_quo rfl rfl (by omega) (by omega) (w32 (by omega) (by omega))) <| nq (y_assign rfl) <| nend <| qsub (sub_cons (t := 3) rfl <| sub_cons (t := 4) rfl <| sub_cons (t := 12) rfl <| sub_cons (t := 5) rfl <| sub_nil) <| qblock <| qthen <| creg <| nq (y_move rfl) <| nq (y_add rfl rfl (w64 (by omega) (by omega))) <| nq (y_assign rfl) <| nend <| qsub (sub_cons (t := 5) rfl <| sub_cons (t := 3) rfl <| sub_cons (t := 4) rfl <| sub_cons (t := 12) rfl <| sub_nil) <| ?_
    refine qloop2 (k + 1) v5 (sub_cons (t := 3) rfl <| sub_cons (t := 4) rfl <| sub_cons (t := 5) rfl <| sub_nil) (⟨by omega, by rw [lek_succ, ← List.append_assoc, b8s_append]; exact ho5, (hf.trans0 hf4).new hf5 (fun i hi => (ho.from hi).1)⟩) (by omega)
  · obtain rfl : k = 4 := by omega
    refine cexit <| qthen_exit <| qthen_exit <| qblock_exit <| qthen <| cseq <| creg <| nq (y_move rfl) <| nq (y_assign rfl) <| nend <| qsub (sub_cons (t := 2) rfl <| sub_cons (t := 12) rfl <| sub_cons (t := 3) rfl <| sub_cons (t := 4) rfl <| sub_cons (t := 5) rfl <| sub_nil) <| qthen <| cret <| ?_
    rw [lek_four] at ho
    exact ret1 trivial rfl rfl ⟨v, rfl, ho, hf⟩
end Go.Proofs.Ytpcgpnijhpcbeaa
